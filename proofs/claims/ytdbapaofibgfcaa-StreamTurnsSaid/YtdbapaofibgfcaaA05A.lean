/- What some functions compute, over plain values. Printed by a program of mine (gen_fun.lean). -/
import Derived.Test.YtdbapaofibgfcaaA05F
set_option linter.unusedVariables false
set_option linter.unusedSimpArgs false
set_option maxRecDepth 100000
set_option maxHeartbeats 8000000
namespace Go.Proofs.Ytdbapaofibgfcaa
open Go.RowKit
def R_event_Ref_d (r : T_api_Ref) : AV := .agg [aI (r.fTime), aI (r.fSource), aI (r.fSeq)]
theorem con_event_Ref_d {n : Nat} {a0 : T_api_Event} {r : T_api_Ref} (hF : F_event_Ref_d n a0 = some r) : Con E0d true 72 [.agg [aI (a0.fSource), aI (a0.fSeq), aI (a0.fType), aI (a0.fTime), .sl 3 (List.map e_api_Value (a0.fValues))]] (R_event_Ref_d r) := by
  unfold F_event_Ref_d at hF
  refine Con.walk _ Try.func72 rfl (enters_of Try.func72 rfl rfl) rfl (Or.inr rfl) ?_
  repeat' first
    | (refine AW.step ?_; conv => whnf)
    | (refine CondX.o hF (fun hF => ?_) (fun hF => ?_))
    | (refine CondX.t ?_)
    | (refine CondX.f ?_)
    | (refine And.intro ⟨by kernel_rfl, by kernel_rfl⟩ ?_)
    | (refine EqX.mk (by first | rfl | kernel_rfl) ?_)
    | (exact RetX.o hF (by repeat' first | exact Sub.nil _ | exact Sub.refl _ | refine Sub.agg ?_ | refine Sub.tup ?_ | refine Sub.fn ?_ | exact SubL.nil | refine SubL.cons ?_ ?_ | refine Sub.sl _ ?_ | exact SubE.nil | refine SubE.cons ?_ ?_))

def R_cmp_isNaN_d (r : Bool) : AV := .bool (r)
theorem con_cmp_isNaN_d {n : Nat} {a0 : Int} {r : Bool} (hF : F_cmp_isNaN_d n a0 = some r) : Con E0d true 84 [aI (a0)] (R_cmp_isNaN_d r) := by
  unfold F_cmp_isNaN_d at hF
  refine Con.walk _ Try.func84 rfl (enters_of Try.func84 rfl rfl) rfl (Or.inr rfl) ?_
  repeat' first
    | (refine AW.step ?_; conv => whnf)
    | (refine CondX.o hF (fun hF => ?_) (fun hF => ?_))
    | (refine CondX.t ?_)
    | (refine CondX.f ?_)
    | (refine And.intro ⟨by kernel_rfl, by kernel_rfl⟩ ?_)
    | (refine EqX.mk (by first | rfl | kernel_rfl) ?_)
    | (exact RetX.o hF (by repeat' first | exact Sub.nil _ | exact Sub.refl _ | refine Sub.agg ?_ | refine Sub.tup ?_ | refine Sub.fn ?_ | exact SubL.nil | refine SubL.cons ?_ ?_ | refine Sub.sl _ ?_ | exact SubE.nil | refine SubE.cons ?_ ?_))

def R_cmp_Compare_d (r : Int) : AV := aI (r)
theorem con_cmp_Compare_d {n : Nat} {a0 : Int} {a1 : Int} {r : Int} (hF : F_cmp_Compare_d n a0 a1 = some r) : Con E0d true 74 [aI (a0), aI (a1)] (R_cmp_Compare_d r) := by
  unfold F_cmp_Compare_d at hF
  refine Con.walk _ Try.func74 rfl (enters_of Try.func74 rfl rfl) rfl (Or.inr rfl) ?_
  repeat' first
    | (refine AW.step ?_; conv => whnf)
    | (refine CondX.o hF (fun hF => ?_) (fun hF => ?_))
    | (refine CondX.t ?_)
    | (refine CondX.f ?_)
    | (refine CallX.o hF R_cmp_isNaN_d (fun a h => con_cmp_isNaN_d h) (fun a hF => ?_))
    | (refine And.intro ⟨by kernel_rfl, by kernel_rfl⟩ ?_)
    | (refine EqX.mk (by first | rfl | kernel_rfl) ?_)
    | (exact RetX.o hF (by repeat' first | exact Sub.nil _ | exact Sub.refl _ | refine Sub.agg ?_ | refine Sub.tup ?_ | refine Sub.fn ?_ | exact SubL.nil | refine SubL.cons ?_ ?_ | refine Sub.sl _ ?_ | exact SubE.nil | refine SubE.cons ?_ ?_))

def S_cmp_Or_d_l1 (a0 : (List Int)) (v1_0 : Int) : AS := ⟨[(3, aI (0)), (6, .sl 1 (List.map aI (a0))), (7, aI ((((List.map aI (a0)).length : Nat) : Int))), (8, aI (v1_0))], []⟩
theorem cmp_Or_d_l1_o {n N : Nat} {a0 : (List Int)} {k1_0_0 : Option (Int)} {R : Exit → AS → Prop} {K : List KItem} {c : Code} {σ : AS} {v0 : Int} {r : Int} (hF : F_cmp_Or_d_l1 n a0 k1_0_0 N v0 = some r) (hl : LeX E0d 18 σ (S_cmp_Or_d_l1 a0 v0)) (round : ∀ m v, F_cmp_Or_d_l1 n a0 k1_0_0 (m + 1) v = some r → AW E0d 18 (thenA (fun σ' => ∃ v', F_cmp_Or_d_l1 n a0 k1_0_0 m v' = some r ∧ LeX E0d 18 σ' (S_cmp_Or_d_l1 a0 v')) (AW E0d 18 R K)) [.code c] .normal (S_cmp_Or_d_l1 a0 v)) : LoopX E0d 18 (fun next σ' => AW E0d 18 (thenA next (AW E0d 18 R K)) [.code c] .normal σ') σ :=
  LoopA.o (S := S_cmp_Or_d_l1 a0) hF (fun _ => rfl) hl round
def R_cmp_Or_d (r : Int) : AV := aI (r)
theorem con_cmp_Or_d {n : Nat} {a0 : (List Int)} {r : Int} (hF : F_cmp_Or_d n a0 = some r) : Con E0d true 73 [.sl 1 (List.map aI (a0))] (R_cmp_Or_d r) := by
  unfold F_cmp_Or_d at hF
  refine Con.walk _ Try.func73 rfl (enters_of Try.func73 rfl rfl) rfl (Or.inr rfl) ?_
  repeat' first
    | (refine AW.step ?_; conv => whnf)
    | (refine CondX.o hF (fun hF => ?_) (fun hF => ?_))
    | (refine CondX.t ?_)
    | (refine CondX.f ?_)
    | (refine IdxX.o aI hF (fun x hF => ?_))
    | (exact ⟨_, hF, LeX.of [] rfl ⟨⟨rfl, rfl⟩, ⟨rfl, rfl⟩, ⟨rfl, rfl⟩, ⟨rfl, rfl⟩, trivial⟩ trivial⟩)
    | (refine cmp_Or_d_l1_o hF (LeX.of [] rfl ⟨⟨rfl, rfl⟩, ⟨rfl, rfl⟩, ⟨rfl, rfl⟩, ⟨rfl, rfl⟩, trivial⟩ trivial) (fun m v hF => ?_); unfold F_cmp_Or_d_l1 at hF)
    | (refine And.intro ⟨by kernel_rfl, by kernel_rfl⟩ ?_)
    | (refine EqX.mk (by first | rfl | kernel_rfl) ?_)
    | (exact RetX.o hF (by repeat' first | exact Sub.nil _ | exact Sub.refl _ | refine Sub.agg ?_ | refine Sub.tup ?_ | refine Sub.fn ?_ | exact SubL.nil | refine SubL.cons ?_ ?_ | refine Sub.sl _ ?_ | exact SubE.nil | refine SubE.cons ?_ ?_))

def R_event_Compare_d (r : Int) : AV := aI (r)
theorem con_event_Compare_d {n : Nat} {a0 : T_api_Event} {a1 : T_api_Event} {r : Int} (hF : F_event_Compare_d n a0 a1 = some r) : Con E0d true 54 [.agg [aI (a0.fSource), aI (a0.fSeq), aI (a0.fType), aI (a0.fTime), .sl 3 (List.map e_api_Value (a0.fValues))], .agg [aI (a1.fSource), aI (a1.fSeq), aI (a1.fType), aI (a1.fTime), .sl 3 (List.map e_api_Value (a1.fValues))]] (R_event_Compare_d r) := by
  unfold F_event_Compare_d at hF
  refine Con.walk _ Try.func54 rfl (enters_of Try.func54 rfl rfl) rfl (Or.inr rfl) ?_
  repeat' first
    | (refine AW.step ?_; conv => whnf)
    | (refine CondX.o hF (fun hF => ?_) (fun hF => ?_))
    | (refine CondX.t ?_)
    | (refine CondX.f ?_)
    | (refine CallX.o hF R_event_Ref_d (fun a h => con_event_Ref_d h) (fun a hF => ?_))
    | (refine CallX.o hF R_cmp_Compare_d (fun a h => con_cmp_Compare_d h) (fun a hF => ?_))
    | (refine CallX.o hF R_cmp_Or_d (fun a h => con_cmp_Or_d h) (fun a hF => ?_))
    | (refine And.intro ⟨by kernel_rfl, by kernel_rfl⟩ ?_)
    | (refine EqX.mk (by first | rfl | kernel_rfl) ?_)
    | (exact RetX.o hF (by repeat' first | exact Sub.nil _ | exact Sub.refl _ | refine Sub.agg ?_ | refine Sub.tup ?_ | refine Sub.fn ?_ | exact SubL.nil | refine SubL.cons ?_ ?_ | refine Sub.sl _ ?_ | exact SubE.nil | refine SubE.cons ?_ ?_))

def R_value_Compare_1_d (r : Int) : AV := aI (r)
theorem con_value_Compare_1_d {n : Nat} {a0 : T_api_Value} {a1 : T_api_Value} {r : Int} (hF : F_value_Compare_1_d n a0 a1 = some r) : Con E0d true 79 [.agg [aI (a0.fKind), aI (a0.fNum), .str (a0.fText)], .agg [aI (a1.fKind), aI (a1.fNum), .str (a1.fText)]] (R_value_Compare_1_d r) := by
  unfold F_value_Compare_1_d at hF
  refine Con.walk _ Try.func79 rfl (enters_of Try.func79 rfl rfl) rfl (Or.inr rfl) ?_
  repeat' first
    | (refine AW.step ?_; conv => whnf)
    | (refine CondX.o hF (fun hF => ?_) (fun hF => ?_))
    | (refine CondX.t ?_)
    | (refine CondX.f ?_)
    | (refine CallX.o hF R_cmp_Compare_d (fun a h => con_cmp_Compare_d h) (fun a hF => ?_))
    | (refine And.intro ⟨by kernel_rfl, by kernel_rfl⟩ ?_)
    | (refine EqX.mk (by first | rfl | kernel_rfl) ?_)
    | (exact RetX.o hF (by repeat' first | exact Sub.nil _ | exact Sub.refl _ | refine Sub.agg ?_ | refine Sub.tup ?_ | refine Sub.fn ?_ | exact SubL.nil | refine SubL.cons ?_ ?_ | refine Sub.sl _ ?_ | exact SubE.nil | refine SubE.cons ?_ ?_))

def R_value_Compare_2_d (r : Int) : AV := aI (r)
theorem con_value_Compare_2_d {n : Nat} {a0 : T_api_Value} {a1 : T_api_Value} {r : Int} (hF : F_value_Compare_2_d n a0 a1 = some r) : Con E0d true 80 [.agg [aI (a0.fKind), aI (a0.fNum), .str (a0.fText)], .agg [aI (a1.fKind), aI (a1.fNum), .str (a1.fText)]] (R_value_Compare_2_d r) := by
  unfold F_value_Compare_2_d at hF
  refine Con.walk _ Try.func80 rfl (enters_of Try.func80 rfl rfl) rfl (Or.inr rfl) ?_
  repeat' first
    | (refine AW.step ?_; conv => whnf)
    | (refine CondX.o hF (fun hF => ?_) (fun hF => ?_))
    | (refine CondX.t ?_)
    | (refine CondX.f ?_)
    | (refine CallX.o hF R_cmp_Compare_d (fun a h => con_cmp_Compare_d h) (fun a hF => ?_))
    | (refine And.intro ⟨by kernel_rfl, by kernel_rfl⟩ ?_)
    | (refine EqX.mk (by first | rfl | kernel_rfl) ?_)
    | (exact RetX.o hF (by repeat' first | exact Sub.nil _ | exact Sub.refl _ | refine Sub.agg ?_ | refine Sub.tup ?_ | refine Sub.fn ?_ | exact SubL.nil | refine SubL.cons ?_ ?_ | refine Sub.sl _ ?_ | exact SubE.nil | refine SubE.cons ?_ ?_))

def S_value_Compare_d_l1 (a1 : T_api_Value) (a0 : T_api_Value) (v1_0 : Int) : AS := ⟨[(2, .ptr 2 0), (3, .ptr 3 0), (8, .sl 1 [.fn 79 [], .fn 80 []]), (9, aI (2)), (10, aI (v1_0))], [(2, .box 77 [aI (a0.fKind), aI (a0.fNum), .str (a0.fText)]), (3, .box 77 [aI (a1.fKind), aI (a1.fNum), .str (a1.fText)])]⟩
theorem value_Compare_d_l1_o {n N : Nat} {a1 : T_api_Value} {a0 : T_api_Value} {k1_0_0 : Option (Int)} {R : Exit → AS → Prop} {K : List KItem} {c : Code} {σ : AS} {v0 : Int} {r : Int} (hF : F_value_Compare_d_l1 n a1 a0 k1_0_0 N v0 = some r) (hl : LeX E0d 27 σ (S_value_Compare_d_l1 a1 a0 v0)) (round : ∀ m v, F_value_Compare_d_l1 n a1 a0 k1_0_0 (m + 1) v = some r → AW E0d 27 (thenA (fun σ' => ∃ v', F_value_Compare_d_l1 n a1 a0 k1_0_0 m v' = some r ∧ LeX E0d 27 σ' (S_value_Compare_d_l1 a1 a0 v')) (AW E0d 27 R K)) [.code c] .normal (S_value_Compare_d_l1 a1 a0 v)) : LoopX E0d 27 (fun next σ' => AW E0d 27 (thenA next (AW E0d 27 R K)) [.code c] .normal σ') σ :=
  LoopA.o (S := S_value_Compare_d_l1 a1 a0) hF (fun _ => rfl) hl round
def R_value_Compare_d (r : Int) : AV := aI (r)
theorem con_value_Compare_d {n : Nat} {a0 : T_api_Value} {a1 : T_api_Value} {r : Int} (hF : F_value_Compare_d n a0 a1 = some r) : Con E0d true 66 [.agg [aI (a0.fKind), aI (a0.fNum), .str (a0.fText)], .agg [aI (a1.fKind), aI (a1.fNum), .str (a1.fText)]] (R_value_Compare_d r) := by
  unfold F_value_Compare_d at hF
  refine Con.walk _ Try.func66 rfl (enters_of Try.func66 rfl rfl) rfl (Or.inr rfl) ?_
  repeat' first
    | (refine AW.step ?_; conv => whnf)
    | (refine CondX.o hF (fun hF => ?_) (fun hF => ?_))
    | (refine CondX.t ?_)
    | (refine CondX.f ?_)
    | (refine CallX.o hF R_strCmp (fun a h => con_strCmp_d h) (fun a hF => ?_))
    | (refine IdxX.o2 hF (fun hF => ?_) (fun hF => ?_))
    | (refine CallX.o hF R_value_Compare_1_d (fun a h => con_value_Compare_1_d h) (fun a hF => ?_))
    | (exact ⟨_, hF, LeX.of [] rfl ⟨⟨rfl, rfl⟩, ⟨rfl, rfl⟩, ⟨rfl, rfl⟩, ⟨rfl, rfl⟩, ⟨rfl, rfl⟩, trivial⟩ ⟨⟨rfl, rfl⟩, ⟨rfl, rfl⟩, trivial⟩⟩)
    | (refine CallX.o hF R_value_Compare_2_d (fun a h => con_value_Compare_2_d h) (fun a hF => ?_))
    | (refine value_Compare_d_l1_o hF (LeX.of [] rfl ⟨⟨rfl, rfl⟩, ⟨rfl, rfl⟩, ⟨rfl, rfl⟩, ⟨rfl, rfl⟩, ⟨rfl, rfl⟩, trivial⟩ ⟨⟨rfl, rfl⟩, ⟨rfl, rfl⟩, trivial⟩) (fun m v hF => ?_); unfold F_value_Compare_d_l1 at hF)
    | (refine And.intro ⟨by kernel_rfl, by kernel_rfl⟩ ?_)
    | (refine EqX.mk (by first | rfl | kernel_rfl) ?_)
    | (exact RetX.o hF (by repeat' first | exact Sub.nil _ | exact Sub.refl _ | refine Sub.agg ?_ | refine Sub.tup ?_ | refine Sub.fn ?_ | exact SubL.nil | refine SubL.cons ?_ ?_ | refine Sub.sl _ ?_ | exact SubE.nil | refine SubE.cons ?_ ?_))

end Go.Proofs.Ytdbapaofibgfcaa
