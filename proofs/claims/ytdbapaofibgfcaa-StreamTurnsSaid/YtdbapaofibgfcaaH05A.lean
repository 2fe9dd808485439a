/- What some functions compute, over plain values. Printed by a program of mine (gen_fun.lean). -/
import Derived.Test.YtdbapaofibgfcaaH05F
set_option linter.unusedVariables false
set_option linter.unusedSimpArgs false
set_option maxRecDepth 100000
set_option maxHeartbeats 8000000
namespace Go.Proofs.Ytdbapaofibgfcaa
open Go.RowKit
def R_stream_placed (r : Bool) : AV := .bool (r)
theorem con_stream_placed {n : Nat} {a0 : T_api_Event} {r : Bool} (hF : F_stream_placed n a0 = some r) : Con E0 true 53 [.agg [aI (a0.fSource), aI (a0.fSeq), aI (a0.fType), aI (a0.fTime), .sl 3 (List.map e_api_Value (a0.fValues))]] (R_stream_placed r) := by
  unfold F_stream_placed at hF
  refine Con.walk _ Try.func53 rfl (enters_of Try.func53 rfl rfl) rfl (Or.inr rfl) ?_
  repeat' first
    | (refine AW.step ?_; conv => whnf)
    | (refine CondX.o hF (fun hF => ?_) (fun hF => ?_))
    | (refine CondX.t ?_)
    | (refine CondX.f ?_)
    | (refine And.intro ⟨by kernel_rfl, by kernel_rfl⟩ ?_)
    | (refine EqX.mk (by first | rfl | kernel_rfl) ?_)
    | (exact RetX.o hF (by repeat' first | exact Sub.nil _ | exact Sub.refl _ | refine Sub.agg ?_ | refine Sub.tup ?_ | refine Sub.fn ?_ | exact SubL.nil | refine SubL.cons ?_ ?_ | refine Sub.sl _ ?_ | exact SubE.nil | refine SubE.cons ?_ ?_))

def R_stream_of (r : T_stream_identity) : AV := .agg [aI (r.fsource), aI (r.fseq)]
theorem con_stream_of {n : Nat} {a0 : T_api_Event} {r : T_stream_identity} (hF : F_stream_of n a0 = some r) : Con E0 true 55 [.agg [aI (a0.fSource), aI (a0.fSeq), aI (a0.fType), aI (a0.fTime), .sl 3 (List.map e_api_Value (a0.fValues))]] (R_stream_of r) := by
  unfold F_stream_of at hF
  refine Con.walk _ Try.func55 rfl (enters_of Try.func55 rfl rfl) rfl (Or.inr rfl) ?_
  repeat' first
    | (refine AW.step ?_; conv => whnf)
    | (refine CondX.o hF (fun hF => ?_) (fun hF => ?_))
    | (refine CondX.t ?_)
    | (refine CondX.f ?_)
    | (refine And.intro ⟨by kernel_rfl, by kernel_rfl⟩ ?_)
    | (refine EqX.mk (by first | rfl | kernel_rfl) ?_)
    | (exact RetX.o hF (by repeat' first | exact Sub.nil _ | exact Sub.refl _ | refine Sub.agg ?_ | refine Sub.tup ?_ | refine Sub.fn ?_ | exact SubL.nil | refine SubL.cons ?_ ?_ | refine Sub.sl _ ?_ | exact SubE.nil | refine SubE.cons ?_ ?_))

theorem eqK_87 (a b : T_stream_identity) : eqK (e_stream_identity a) (e_stream_identity b) = some (decide (a = b)) := by cases a; cases b; simp [e_stream_identity, eqK, eqL, eq1, aI, bytes_dec]
def S_stream_Check_l1 (a0 : (List T_api_Event)) (v1_0 : Int × (List (T_stream_identity × Bool))) : AS := ⟨[(0, .sl 5 (List.map e_api_Event (a0))), (3, .row 9), (10, .sl 5 (List.map e_api_Event (a0))), (11, aI ((((List.map e_api_Event (a0)).length : Nat) : Int))), (12, aI (v1_0.1))], [(9, .mp (List.map (encM e_stream_identity AV.bool) (v1_0.2)))]⟩
theorem stream_Check_l1_o {n N : Nat} {a0 : (List T_api_Event)} {k1_0_0 : Option (Int)} {R : Exit → AS → Prop} {K : List KItem} {c : Code} {σ : AS} {v0 : Int × (List (T_stream_identity × Bool))} {r : Int} (hF : F_stream_Check_l1 n a0 k1_0_0 N v0 = some r) (hl : LeX E0 43 σ (S_stream_Check_l1 a0 v0)) (round : ∀ m v, F_stream_Check_l1 n a0 k1_0_0 (m + 1) v = some r → AW E0 43 (thenA (fun σ' => ∃ v', F_stream_Check_l1 n a0 k1_0_0 m v' = some r ∧ LeX E0 43 σ' (S_stream_Check_l1 a0 v')) (AW E0 43 R K)) [.code c] .normal (S_stream_Check_l1 a0 v)) : LoopX E0 43 (fun next σ' => AW E0 43 (thenA next (AW E0 43 R K)) [.code c] .normal σ') σ :=
  LoopA.o (S := S_stream_Check_l1 a0) hF (fun _ => rfl) hl round
def R_stream_Check (r : Int) : AV := aI (r)
theorem con_stream_Check {n : Nat} {a0 : (List T_api_Event)} {r : Int} (hF : F_stream_Check n a0 = some r) : Con E0 true 16 [.sl 5 (List.map e_api_Event (a0))] (R_stream_Check r) := by
  unfold F_stream_Check at hF
  refine Con.walk _ Try.func16 rfl (enters_of Try.func16 rfl rfl) rfl (Or.inr rfl) ?_
  repeat' first
    | (refine AW.step ?_; conv => whnf)
    | (refine CondX.o hF (fun hF => ?_) (fun hF => ?_))
    | (refine CondX.t ?_)
    | (refine CondX.f ?_)
    | (refine IdxX.o e_api_Event hF (fun x hF => ?_))
    | (refine CallX.o hF R_stream_placed (fun a h => con_stream_placed h) (fun a hF => ?_))
    | (refine CallX.o hF R_event_Compare_d (fun a h => con_evCmp h) (fun a hF => ?_))
    | (refine CallX.o hF R_stream_of (fun a h => con_stream_of h) (fun a hF => ?_))
    | (refine LkX.o e_stream_identity AV.bool hF (by first | rfl | kernel_rfl) eqK_87 (by repeat' first | exact Sub.nil _ | exact Sub.refl _ | refine Sub.agg ?_ | refine Sub.tup ?_ | refine Sub.fn ?_ | exact SubL.nil | refine SubL.cons ?_ ?_ | refine Sub.sl _ ?_ | exact SubE.nil | refine SubE.cons ?_ ?_) (fun v b hF => ?_))
    | (refine UpX.o e_stream_identity AV.bool hF (by first | rfl | kernel_rfl) eqK_87 (by repeat' first | exact Sub.nil _ | exact Sub.refl _ | refine Sub.agg ?_ | refine Sub.tup ?_ | refine Sub.fn ?_ | exact SubL.nil | refine SubL.cons ?_ ?_ | refine Sub.sl _ ?_ | exact SubE.nil | refine SubE.cons ?_ ?_) (fun l hF => ?_))
    | (exact ⟨_, hF, LeX.of [] rfl ⟨⟨rfl, rfl⟩, ⟨rfl, rfl⟩, ⟨rfl, rfl⟩, ⟨rfl, rfl⟩, ⟨rfl, rfl⟩, trivial⟩ ⟨⟨rfl, rfl⟩, trivial⟩⟩)
    | (refine stream_Check_l1_o hF (LeX.of [] rfl ⟨⟨rfl, rfl⟩, ⟨rfl, rfl⟩, ⟨rfl, rfl⟩, ⟨rfl, rfl⟩, ⟨rfl, rfl⟩, trivial⟩ ⟨⟨rfl, rfl⟩, trivial⟩) (fun m v hF => ?_); unfold F_stream_Check_l1 at hF)
    | (refine And.intro ⟨by kernel_rfl, by kernel_rfl⟩ ?_)
    | (refine EqX.mk (by first | rfl | kernel_rfl) ?_)
    | (exact RetX.o hF (by repeat' first | exact Sub.nil _ | exact Sub.refl _ | refine Sub.agg ?_ | refine Sub.tup ?_ | refine Sub.fn ?_ | exact SubL.nil | refine SubL.cons ?_ ?_ | refine Sub.sl _ ?_ | exact SubE.nil | refine SubE.cons ?_ ?_))

def R_tidegateref05_Placed (r : Bool) : AV := .bool (r)
theorem con_tidegateref05_Placed {n : Nat} {a0 : T_api_Event} {r : Bool} (hF : F_tidegateref05_Placed n a0 = some r) : Con E0 true 29 [.agg [aI (a0.fSource), aI (a0.fSeq), aI (a0.fType), aI (a0.fTime), .sl 3 (List.map e_api_Value (a0.fValues))]] (R_tidegateref05_Placed r) := by
  unfold F_tidegateref05_Placed at hF
  refine Con.walk _ Try.func29 rfl (enters_of Try.func29 rfl rfl) rfl (Or.inr rfl) ?_
  repeat' first
    | (refine AW.step ?_; conv => whnf)
    | (refine CondX.o hF (fun hF => ?_) (fun hF => ?_))
    | (refine CondX.t ?_)
    | (refine CondX.f ?_)
    | (refine And.intro ⟨by kernel_rfl, by kernel_rfl⟩ ?_)
    | (refine EqX.mk (by first | rfl | kernel_rfl) ?_)
    | (exact RetX.o hF (by repeat' first | exact Sub.nil _ | exact Sub.refl _ | refine Sub.agg ?_ | refine Sub.tup ?_ | refine Sub.fn ?_ | exact SubL.nil | refine SubL.cons ?_ ?_ | refine Sub.sl _ ?_ | exact SubE.nil | refine SubE.cons ?_ ?_))

def R_tidegateref05_Ref (r : T_api_Ref) : AV := .agg [aI (r.fTime), aI (r.fSource), aI (r.fSeq)]
theorem con_tidegateref05_Ref {n : Nat} {a0 : T_api_Event} {r : T_api_Ref} (hF : F_tidegateref05_Ref n a0 = some r) : Con E0 true 33 [.agg [aI (a0.fSource), aI (a0.fSeq), aI (a0.fType), aI (a0.fTime), .sl 3 (List.map e_api_Value (a0.fValues))]] (R_tidegateref05_Ref r) := by
  unfold F_tidegateref05_Ref at hF
  refine Con.walk _ Try.func33 rfl (enters_of Try.func33 rfl rfl) rfl (Or.inr rfl) ?_
  repeat' first
    | (refine AW.step ?_; conv => whnf)
    | (refine CondX.o hF (fun hF => ?_) (fun hF => ?_))
    | (refine CondX.t ?_)
    | (refine CondX.f ?_)
    | (refine And.intro ⟨by kernel_rfl, by kernel_rfl⟩ ?_)
    | (refine EqX.mk (by first | rfl | kernel_rfl) ?_)
    | (exact RetX.o hF (by repeat' first | exact Sub.nil _ | exact Sub.refl _ | refine Sub.agg ?_ | refine Sub.tup ?_ | refine Sub.fn ?_ | exact SubL.nil | refine SubL.cons ?_ ?_ | refine Sub.sl _ ?_ | exact SubE.nil | refine SubE.cons ?_ ?_))

def R_tidegateref05_Order (r : Int) : AV := aI (r)
theorem con_tidegateref05_Order {n : Nat} {a0 : T_api_Ref} {a1 : T_api_Ref} {r : Int} (hF : F_tidegateref05_Order n a0 a1 = some r) : Con E0 true 32 [.agg [aI (a0.fTime), aI (a0.fSource), aI (a0.fSeq)], .agg [aI (a1.fTime), aI (a1.fSource), aI (a1.fSeq)]] (R_tidegateref05_Order r) := by
  unfold F_tidegateref05_Order at hF
  refine Con.walk _ Try.func32 rfl (enters_of Try.func32 rfl rfl) rfl (Or.inr rfl) ?_
  repeat' first
    | (refine AW.step ?_; conv => whnf)
    | (refine CondX.o hF (fun hF => ?_) (fun hF => ?_))
    | (refine CondX.t ?_)
    | (refine CondX.f ?_)
    | (refine And.intro ⟨by kernel_rfl, by kernel_rfl⟩ ?_)
    | (refine EqX.mk (by first | rfl | kernel_rfl) ?_)
    | (exact RetX.o hF (by repeat' first | exact Sub.nil _ | exact Sub.refl _ | refine Sub.agg ?_ | refine Sub.tup ?_ | refine Sub.fn ?_ | exact SubL.nil | refine SubL.cons ?_ ?_ | refine Sub.sl _ ?_ | exact SubE.nil | refine SubE.cons ?_ ?_))

def R_tidegateref05_Twin (r : Bool) : AV := .bool (r)
theorem con_tidegateref05_Twin {n : Nat} {a0 : T_api_Event} {a1 : T_api_Event} {r : Bool} (hF : F_tidegateref05_Twin n a0 a1 = some r) : Con E0 true 56 [.agg [aI (a0.fSource), aI (a0.fSeq), aI (a0.fType), aI (a0.fTime), .sl 3 (List.map e_api_Value (a0.fValues))], .agg [aI (a1.fSource), aI (a1.fSeq), aI (a1.fType), aI (a1.fTime), .sl 3 (List.map e_api_Value (a1.fValues))]] (R_tidegateref05_Twin r) := by
  unfold F_tidegateref05_Twin at hF
  refine Con.walk _ Try.func56 rfl (enters_of Try.func56 rfl rfl) rfl (Or.inr rfl) ?_
  repeat' first
    | (refine AW.step ?_; conv => whnf)
    | (refine CondX.o hF (fun hF => ?_) (fun hF => ?_))
    | (refine CondX.t ?_)
    | (refine CondX.f ?_)
    | (refine And.intro ⟨by kernel_rfl, by kernel_rfl⟩ ?_)
    | (refine EqX.mk (by first | rfl | kernel_rfl) ?_)
    | (exact RetX.o hF (by repeat' first | exact Sub.nil _ | exact Sub.refl _ | refine Sub.agg ?_ | refine Sub.tup ?_ | refine Sub.fn ?_ | exact SubL.nil | refine SubL.cons ?_ ?_ | refine Sub.sl _ ?_ | exact SubE.nil | refine SubE.cons ?_ ?_))

def S_tidegateref05_Check_l2 (a0 : (List T_api_Event)) (v1_0 : Int) (v2_1 : Int) : AS := ⟨[(0, .sl 5 (List.map e_api_Event (a0))), (3, aI (v1_0)), (4, aI (v2_1))], []⟩
theorem tidegateref05_Check_l2_o {n N : Nat} {a0 : (List T_api_Event)} {v1_0 : Int} {k2_1_0 : Option (Int)} {R : Exit → AS → Prop} {K : List KItem} {c : Code} {σ : AS} {v0 : Int} {r : Int} (hF : F_tidegateref05_Check_l2 n a0 v1_0 k2_1_0 N v0 = some r) (hl : LeX E0 51 σ (S_tidegateref05_Check_l2 a0 v1_0 v0)) (round : ∀ m v, F_tidegateref05_Check_l2 n a0 v1_0 k2_1_0 (m + 1) v = some r → AW E0 51 (thenA (fun σ' => ∃ v', F_tidegateref05_Check_l2 n a0 v1_0 k2_1_0 m v' = some r ∧ LeX E0 51 σ' (S_tidegateref05_Check_l2 a0 v1_0 v')) (AW E0 51 R K)) [.code c] .normal (S_tidegateref05_Check_l2 a0 v1_0 v)) : LoopX E0 51 (fun next σ' => AW E0 51 (thenA next (AW E0 51 R K)) [.code c] .normal σ') σ :=
  LoopA.o (S := S_tidegateref05_Check_l2 a0 v1_0) hF (fun _ => rfl) hl round
def S_tidegateref05_Check_l3 (a0 : (List T_api_Event)) (v1_0 : Int) (v3_2 : Int) : AS := ⟨[(0, .sl 5 (List.map e_api_Event (a0))), (3, aI (v1_0)), (4, aI (v3_2))], []⟩
theorem tidegateref05_Check_l3_o {n N : Nat} {a0 : (List T_api_Event)} {v1_0 : Int} {k3_2_0 : Option (Int)} {R : Exit → AS → Prop} {K : List KItem} {c : Code} {σ : AS} {v0 : Int} {r : Int} (hF : F_tidegateref05_Check_l3 n a0 v1_0 k3_2_0 N v0 = some r) (hl : LeX E0 51 σ (S_tidegateref05_Check_l3 a0 v1_0 v0)) (round : ∀ m v, F_tidegateref05_Check_l3 n a0 v1_0 k3_2_0 (m + 1) v = some r → AW E0 51 (thenA (fun σ' => ∃ v', F_tidegateref05_Check_l3 n a0 v1_0 k3_2_0 m v' = some r ∧ LeX E0 51 σ' (S_tidegateref05_Check_l3 a0 v1_0 v')) (AW E0 51 R K)) [.code c] .normal (S_tidegateref05_Check_l3 a0 v1_0 v)) : LoopX E0 51 (fun next σ' => AW E0 51 (thenA next (AW E0 51 R K)) [.code c] .normal σ') σ :=
  LoopA.o (S := S_tidegateref05_Check_l3 a0 v1_0) hF (fun _ => rfl) hl round
def S_tidegateref05_Check_l1 (a0 : (List T_api_Event)) (v1_0 : Int) : AS := ⟨[(0, .sl 5 (List.map e_api_Event (a0))), (3, aI (v1_0))], []⟩
theorem tidegateref05_Check_l1_o {n N : Nat} {a0 : (List T_api_Event)} {k1_0_0 : Option (Int)} {R : Exit → AS → Prop} {K : List KItem} {c : Code} {σ : AS} {v0 : Int} {r : Int} (hF : F_tidegateref05_Check_l1 n a0 k1_0_0 N v0 = some r) (hl : LeX E0 51 σ (S_tidegateref05_Check_l1 a0 v0)) (round : ∀ m v, F_tidegateref05_Check_l1 n a0 k1_0_0 (m + 1) v = some r → AW E0 51 (thenA (fun σ' => ∃ v', F_tidegateref05_Check_l1 n a0 k1_0_0 m v' = some r ∧ LeX E0 51 σ' (S_tidegateref05_Check_l1 a0 v')) (AW E0 51 R K)) [.code c] .normal (S_tidegateref05_Check_l1 a0 v)) : LoopX E0 51 (fun next σ' => AW E0 51 (thenA next (AW E0 51 R K)) [.code c] .normal σ') σ :=
  LoopA.o (S := S_tidegateref05_Check_l1 a0) hF (fun _ => rfl) hl round
def R_tidegateref05_Check (r : Int) : AV := aI (r)
theorem con_tidegateref05_Check {n : Nat} {a0 : (List T_api_Event)} {r : Int} (hF : F_tidegateref05_Check n a0 = some r) : Con E0 true 17 [.sl 5 (List.map e_api_Event (a0))] (R_tidegateref05_Check r) := by
  unfold F_tidegateref05_Check at hF
  refine Con.walk _ Try.func17 rfl (enters_of Try.func17 rfl rfl) rfl (Or.inr rfl) ?_
  repeat' first
    | (refine AW.step ?_; conv => whnf)
    | (refine CondX.o hF (fun hF => ?_) (fun hF => ?_))
    | (refine CondX.t ?_)
    | (refine CondX.f ?_)
    | (refine IdxX.o e_api_Event hF (fun x hF => ?_))
    | (refine CallX.o hF R_tidegateref05_Placed (fun a h => con_tidegateref05_Placed h) (fun a hF => ?_))
    | (refine CallX.o hF R_tidegateref05_Ref (fun a h => con_tidegateref05_Ref h) (fun a hF => ?_))
    | (refine CallX.o hF R_tidegateref05_Order (fun a h => con_tidegateref05_Order h) (fun a hF => ?_))
    | (exact ⟨_, hF, LeX.of [] rfl ⟨⟨rfl, rfl⟩, ⟨rfl, rfl⟩, trivial⟩ trivial⟩)
    | (refine CallX.o hF R_tidegateref05_Twin (fun a h => con_tidegateref05_Twin h) (fun a hF => ?_))
    | (exact ⟨_, hF, LeX.of [] rfl ⟨⟨rfl, rfl⟩, ⟨rfl, rfl⟩, ⟨rfl, rfl⟩, trivial⟩ trivial⟩)
    | (refine tidegateref05_Check_l2_o hF (LeX.of [] rfl ⟨⟨rfl, rfl⟩, ⟨rfl, rfl⟩, ⟨rfl, rfl⟩, trivial⟩ trivial) (fun m v hF => ?_); unfold F_tidegateref05_Check_l2 at hF)
    | (refine tidegateref05_Check_l3_o hF (LeX.of [] rfl ⟨⟨rfl, rfl⟩, ⟨rfl, rfl⟩, ⟨rfl, rfl⟩, trivial⟩ trivial) (fun m v hF => ?_); unfold F_tidegateref05_Check_l3 at hF)
    | (refine tidegateref05_Check_l1_o hF (LeX.of [] rfl ⟨⟨rfl, rfl⟩, ⟨rfl, rfl⟩, trivial⟩ trivial) (fun m v hF => ?_); unfold F_tidegateref05_Check_l1 at hF)
    | (refine And.intro ⟨by kernel_rfl, by kernel_rfl⟩ ?_)
    | (refine EqX.mk (by first | rfl | kernel_rfl) ?_)
    | (exact RetX.o hF (by repeat' first | exact Sub.nil _ | exact Sub.refl _ | refine Sub.agg ?_ | refine Sub.tup ?_ | refine Sub.fn ?_ | exact SubL.nil | refine SubL.cons ?_ ?_ | refine Sub.sl _ ?_ | exact SubE.nil | refine SubE.cons ?_ ?_))

def R_stream_all_1 (r : Bool) : AV := .bool (r)
theorem con_stream_all_1 {n : Nat} {a0 : T_api_Event} {r : Bool} (hF : F_stream_all_1 n a0 = some r) : Con E0 true 69 [.agg [aI (a0.fSource), aI (a0.fSeq), aI (a0.fType), aI (a0.fTime), .sl 3 (List.map e_api_Value (a0.fValues))]] (R_stream_all_1 r) := by
  unfold F_stream_all_1 at hF
  refine Con.walk _ Try.func69 rfl (enters_of Try.func69 rfl rfl) rfl (Or.inr rfl) ?_
  repeat' first
    | (refine AW.step ?_; conv => whnf)
    | (refine CondX.o hF (fun hF => ?_) (fun hF => ?_))
    | (refine CondX.t ?_)
    | (refine CondX.f ?_)
    | (refine CallX.o hF R_stream_placed (fun a h => con_stream_placed h) (fun a hF => ?_))
    | (refine And.intro ⟨by kernel_rfl, by kernel_rfl⟩ ?_)
    | (refine EqX.mk (by first | rfl | kernel_rfl) ?_)
    | (exact RetX.o hF (by repeat' first | exact Sub.nil _ | exact Sub.refl _ | refine Sub.agg ?_ | refine Sub.tup ?_ | refine Sub.fn ?_ | exact SubL.nil | refine SubL.cons ?_ ?_ | refine Sub.sl _ ?_ | exact SubE.nil | refine SubE.cons ?_ ?_))

def S_slices_IndexFunc_l1 (a0 : (List T_api_Event)) (v1_0 : Int) : AS := ⟨[(0, .sl 5 (List.map e_api_Event (a0))), (1, .fn 69 []), (7, aI ((((List.map e_api_Event (a0)).length : Nat) : Int))), (8, aI (v1_0))], []⟩
theorem slices_IndexFunc_l1_o {n N : Nat} {a0 : (List T_api_Event)} {k1_0_0 : Option (Int)} {R : Exit → AS → Prop} {K : List KItem} {c : Code} {σ : AS} {v0 : Int} {r : Int} (hF : F_slices_IndexFunc_l1 n a0 k1_0_0 N v0 = some r) (hl : LeX E0 19 σ (S_slices_IndexFunc_l1 a0 v0)) (round : ∀ m v, F_slices_IndexFunc_l1 n a0 k1_0_0 (m + 1) v = some r → AW E0 19 (thenA (fun σ' => ∃ v', F_slices_IndexFunc_l1 n a0 k1_0_0 m v' = some r ∧ LeX E0 19 σ' (S_slices_IndexFunc_l1 a0 v')) (AW E0 19 R K)) [.code c] .normal (S_slices_IndexFunc_l1 a0 v)) : LoopX E0 19 (fun next σ' => AW E0 19 (thenA next (AW E0 19 R K)) [.code c] .normal σ') σ :=
  LoopA.o (S := S_slices_IndexFunc_l1 a0) hF (fun _ => rfl) hl round
def R_slices_IndexFunc (r : Int) : AV := aI (r)
theorem con_slices_IndexFunc {n : Nat} {a0 : (List T_api_Event)} {r : Int} (hF : F_slices_IndexFunc n a0 = some r) : Con E0 true 62 [.sl 5 (List.map e_api_Event (a0)), .fn 69 []] (R_slices_IndexFunc r) := by
  unfold F_slices_IndexFunc at hF
  refine Con.walk _ Try.func62 rfl (enters_of Try.func62 rfl rfl) rfl (Or.inr rfl) ?_
  repeat' first
    | (refine AW.step ?_; conv => whnf)
    | (refine CondX.o hF (fun hF => ?_) (fun hF => ?_))
    | (refine CondX.t ?_)
    | (refine CondX.f ?_)
    | (refine IdxX.o e_api_Event hF (fun x hF => ?_))
    | (refine CallX.o hF R_stream_all_1 (fun a h => con_stream_all_1 h) (fun a hF => ?_))
    | (exact ⟨_, hF, LeX.of [] rfl ⟨⟨rfl, rfl⟩, ⟨rfl, rfl⟩, ⟨rfl, rfl⟩, ⟨rfl, rfl⟩, trivial⟩ trivial⟩)
    | (refine slices_IndexFunc_l1_o hF (LeX.of [] rfl ⟨⟨rfl, rfl⟩, ⟨rfl, rfl⟩, ⟨rfl, rfl⟩, ⟨rfl, rfl⟩, trivial⟩ trivial) (fun m v hF => ?_); unfold F_slices_IndexFunc_l1 at hF)
    | (refine And.intro ⟨by kernel_rfl, by kernel_rfl⟩ ?_)
    | (refine EqX.mk (by first | rfl | kernel_rfl) ?_)
    | (exact RetX.o hF (by repeat' first | exact Sub.nil _ | exact Sub.refl _ | refine Sub.agg ?_ | refine Sub.tup ?_ | refine Sub.fn ?_ | exact SubL.nil | refine SubL.cons ?_ ?_ | refine Sub.sl _ ?_ | exact SubE.nil | refine SubE.cons ?_ ?_))

def R_slices_ContainsFunc (r : Bool) : AV := .bool (r)
theorem con_slices_ContainsFunc {n : Nat} {a0 : (List T_api_Event)} {r : Bool} (hF : F_slices_ContainsFunc n a0 = some r) : Con E0 true 27 [.sl 5 (List.map e_api_Event (a0)), .fn 69 []] (R_slices_ContainsFunc r) := by
  unfold F_slices_ContainsFunc at hF
  refine Con.walk _ Try.func27 rfl (enters_of Try.func27 rfl rfl) rfl (Or.inr rfl) ?_
  repeat' first
    | (refine AW.step ?_; conv => whnf)
    | (refine CondX.o hF (fun hF => ?_) (fun hF => ?_))
    | (refine CondX.t ?_)
    | (refine CondX.f ?_)
    | (refine CallX.o hF R_slices_IndexFunc (fun a h => con_slices_IndexFunc h) (fun a hF => ?_))
    | (refine And.intro ⟨by kernel_rfl, by kernel_rfl⟩ ?_)
    | (refine EqX.mk (by first | rfl | kernel_rfl) ?_)
    | (exact RetX.o hF (by repeat' first | exact Sub.nil _ | exact Sub.refl _ | refine Sub.agg ?_ | refine Sub.tup ?_ | refine Sub.fn ?_ | exact SubL.nil | refine SubL.cons ?_ ?_ | refine Sub.sl _ ?_ | exact SubE.nil | refine SubE.cons ?_ ?_))

def R_stream_all (r : Int) : AV := aI (r)
theorem con_stream_all {n : Nat} {a0 : (List T_api_Event)} {r : Int} (hF : F_stream_all n a0 = some r) : Con E0 true 48 [.sl 5 (List.map e_api_Event (a0))] (R_stream_all r) := by
  unfold F_stream_all at hF
  refine Con.walk _ Try.func48 rfl (enters_of Try.func48 rfl rfl) rfl (Or.inr rfl) ?_
  repeat' first
    | (refine AW.step ?_; conv => whnf)
    | (refine CondX.o hF (fun hF => ?_) (fun hF => ?_))
    | (refine CondX.t ?_)
    | (refine CondX.f ?_)
    | (refine CallX.o hF R_slices_ContainsFunc (fun a h => con_slices_ContainsFunc h) (fun a hF => ?_))
    | (refine And.intro ⟨by kernel_rfl, by kernel_rfl⟩ ?_)
    | (refine EqX.mk (by first | rfl | kernel_rfl) ?_)
    | (exact RetX.o hF (by repeat' first | exact Sub.nil _ | exact Sub.refl _ | refine Sub.agg ?_ | refine Sub.tup ?_ | refine Sub.fn ?_ | exact SubL.nil | refine SubL.cons ?_ ?_ | refine Sub.sl _ ?_ | exact SubE.nil | refine SubE.cons ?_ ?_))

def S_slices_Equal_l1 (a1 : (List T_api_Value)) (a0 : (List T_api_Value)) (v1_0 : Int) : AS := ⟨[(0, .sl 3 (List.map e_api_Value (a0))), (1, .sl 3 (List.map e_api_Value (a1))), (12, aI ((((List.map e_api_Value (a0)).length : Nat) : Int))), (13, aI (v1_0))], []⟩
theorem slices_Equal_l1_o {n N : Nat} {a1 : (List T_api_Value)} {a0 : (List T_api_Value)} {k1_0_0 : Option (Bool)} {R : Exit → AS → Prop} {K : List KItem} {c : Code} {σ : AS} {v0 : Int} {r : Bool} (hF : F_slices_Equal_l1 n a1 a0 k1_0_0 N v0 = some r) (hl : LeX E0 26 σ (S_slices_Equal_l1 a1 a0 v0)) (round : ∀ m v, F_slices_Equal_l1 n a1 a0 k1_0_0 (m + 1) v = some r → AW E0 26 (thenA (fun σ' => ∃ v', F_slices_Equal_l1 n a1 a0 k1_0_0 m v' = some r ∧ LeX E0 26 σ' (S_slices_Equal_l1 a1 a0 v')) (AW E0 26 R K)) [.code c] .normal (S_slices_Equal_l1 a1 a0 v)) : LoopX E0 26 (fun next σ' => AW E0 26 (thenA next (AW E0 26 R K)) [.code c] .normal σ') σ :=
  LoopA.o (S := S_slices_Equal_l1 a1 a0) hF (fun _ => rfl) hl round
def R_slices_Equal (r : Bool) : AV := .bool (r)
theorem con_slices_Equal {n : Nat} {a0 : (List T_api_Value)} {a1 : (List T_api_Value)} {r : Bool} (hF : F_slices_Equal n a0 a1 = some r) : Con E0 true 82 [.sl 3 (List.map e_api_Value (a0)), .sl 3 (List.map e_api_Value (a1))] (R_slices_Equal r) := by
  unfold F_slices_Equal at hF
  refine Con.walk _ Try.func82 rfl (enters_of Try.func82 rfl rfl) rfl (Or.inr rfl) ?_
  repeat' first
    | (refine AW.step ?_; conv => whnf)
    | (refine CondX.o hF (fun hF => ?_) (fun hF => ?_))
    | (refine CondX.t ?_)
    | (refine CondX.f ?_)
    | (refine IdxX.o e_api_Value hF (fun x hF => ?_))
    | (exact ⟨_, hF, LeX.of [] rfl ⟨⟨rfl, rfl⟩, ⟨rfl, rfl⟩, ⟨rfl, rfl⟩, ⟨rfl, rfl⟩, trivial⟩ trivial⟩)
    | (refine slices_Equal_l1_o hF (LeX.of [] rfl ⟨⟨rfl, rfl⟩, ⟨rfl, rfl⟩, ⟨rfl, rfl⟩, ⟨rfl, rfl⟩, trivial⟩ trivial) (fun m v hF => ?_); unfold F_slices_Equal_l1 at hF)
    | (refine And.intro ⟨by kernel_rfl, by kernel_rfl⟩ ?_)
    | (refine EqX.mk (by first | rfl | kernel_rfl) ?_)
    | (exact RetX.o hF (by repeat' first | exact Sub.nil _ | exact Sub.refl _ | refine Sub.agg ?_ | refine Sub.tup ?_ | refine Sub.fn ?_ | exact SubL.nil | refine SubL.cons ?_ ?_ | refine Sub.sl _ ?_ | exact SubE.nil | refine SubE.cons ?_ ?_))

def R_stream_equal (r : Bool) : AV := .bool (r)
theorem con_stream_equal {n : Nat} {a0 : T_api_Event} {a1 : T_api_Event} {r : Bool} (hF : F_stream_equal n a0 a1 = some r) : Con E0 true 70 [.agg [aI (a0.fSource), aI (a0.fSeq), aI (a0.fType), aI (a0.fTime), .sl 3 (List.map e_api_Value (a0.fValues))], .agg [aI (a1.fSource), aI (a1.fSeq), aI (a1.fType), aI (a1.fTime), .sl 3 (List.map e_api_Value (a1.fValues))]] (R_stream_equal r) := by
  unfold F_stream_equal at hF
  refine Con.walk _ Try.func70 rfl (enters_of Try.func70 rfl rfl) rfl (Or.inr rfl) ?_
  repeat' first
    | (refine AW.step ?_; conv => whnf)
    | (refine CondX.o hF (fun hF => ?_) (fun hF => ?_))
    | (refine CondX.t ?_)
    | (refine CondX.f ?_)
    | (refine CallX.o hF R_stream_of (fun a h => con_stream_of h) (fun a hF => ?_))
    | (refine CallX.o hF R_slices_Equal (fun a h => con_slices_Equal h) (fun a hF => ?_))
    | (refine And.intro ⟨by kernel_rfl, by kernel_rfl⟩ ?_)
    | (refine EqX.mk (by first | rfl | kernel_rfl) ?_)
    | (exact RetX.o hF (by repeat' first | exact Sub.nil _ | exact Sub.refl _ | refine Sub.agg ?_ | refine Sub.tup ?_ | refine Sub.fn ?_ | exact SubL.nil | refine SubL.cons ?_ ?_ | refine Sub.sl _ ?_ | exact SubE.nil | refine SubE.cons ?_ ?_))

set_option maxHeartbeats 400000 in
theorem clone75_any (l : List (Cel 3)) (S : Nat → Prop) (v : Value) (w : World) (h : Sl w S 3 encC v l) (hl : l.length ≤ 1000000000) :
    Calls Try.prog 75 #[v] w (RetOwn 77 3 encC l w) := by
  have eok : EOk Try.prog 49 77 3 32 (encC (n := 3)) := eokC (sz := 3) tyOk49 rfl tyOk77 (by omega) rfl
  obtain ⟨A, c, rfl, hc, _⟩ := h.form
  have hq := fun (W : World) => Lib.run_eql_slice_nil W 49 77 A l.length c 0 0 Try.underlying49
  have H := hide h
  cases A with
  | none =>
    have h0 : l = [] := h.none_nil
    subst h0
    clear h H hl hc
    simp only [List.length_nil, Option.isNone_none] at hq ⊢
    go_enter Try.func75, Try.ntmps75
    go_wp2
    go_ret
    exact ⟨none, 0, rfl, Own.nil_, by go_grown⟩
  | some ad =>
    clear h
    go_enter Try.func75, Try.ntmps75
    go_wp2_with (at_builtin; refine wpList_append_sl rfl _ _ rfl eok rfl Own.made_ rfl (H.out.alloc _) (by simp; omega) (by omega) (by simp) ?_; intro A' c' w1 ho hg _)
    go_ret
    exact ⟨A', c', rfl, ho, (Own.made_ (sz := 3) (enc := encC (n := 3))).grown ((Below.refl _ _).alloc (Nat.le_refl _) _) (Nat.le_refl _) (by simp) hg⟩
theorem conT_clone75 {n : Nat} {a r : List T_api_Value} (hF : F_clone n a = some r) : ConT E0 75 [.sl 3 (List.map e_api_Value a)] 77 3 (List.map e_api_Value r) (.row 0) := clone_gen rfl (enters_of Try.func75 rfl rfl) clone75_any hF
theorem con_clone75 {n : Nat} {a r : List T_api_Value} (hF : F_clone n a = some r) : Con E0 false 75 [.sl 3 (List.map e_api_Value a)] (.sl 3 (List.map e_api_Value r)) := (conT_clone75 hF).close rfl
def R_stream_copied (r : T_api_Event) : AV := .agg [aI (r.fSource), aI (r.fSeq), aI (r.fType), aI (r.fTime), .sl 3 (List.map e_api_Value (r.fValues))]
theorem con_stream_copied {n : Nat} {a0 : T_api_Event} {r : T_api_Event} (hF : F_stream_copied n a0 = some r) : Con E0 false 60 [.agg [aI (a0.fSource), aI (a0.fSeq), aI (a0.fType), aI (a0.fTime), .sl 3 (List.map e_api_Value (a0.fValues))]] (R_stream_copied r) := by
  unfold F_stream_copied at hF
  refine Con.walk _ Try.func60 rfl (enters_of Try.func60 rfl rfl) rfl (Or.inl rfl) ?_
  repeat' first
    | (refine AW.step ?_; conv => whnf)
    | (refine CondX.o hF (fun hF => ?_) (fun hF => ?_))
    | (refine CondX.t ?_)
    | (refine CondX.f ?_)
    | (refine CallX.o hF (fun q => AV.sl 3 (List.map e_api_Value q)) (fun a h => con_clone75 h) (fun a hF => ?_))
    | (refine And.intro ⟨by kernel_rfl, by kernel_rfl⟩ ?_)
    | (refine EqX.mk (by first | rfl | kernel_rfl) ?_)
    | (exact RetX.o hF (by repeat' first | exact Sub.nil _ | exact Sub.refl _ | refine Sub.agg ?_ | refine Sub.tup ?_ | refine Sub.fn ?_ | exact SubL.nil | refine SubL.cons ?_ ?_ | refine Sub.sl _ ?_ | exact SubE.nil | refine SubE.cons ?_ ?_))

def S_stream_sorted_l1 (a0 : (List T_api_Event)) (v1_0 : Int × (List (T_stream_identity × T_api_Event)) × (List T_api_Event)) : AS := ⟨[(4, .row 10), (5, .row 7041), (11, .sl 5 (List.map e_api_Event (a0))), (12, aI ((((List.map e_api_Event (a0)).length : Nat) : Int))), (13, aI (v1_0.1))], [(10, .mp (List.map (encM e_stream_identity e_api_Event) (v1_0.2.1))), (7041, .row 51 5 (List.map e_api_Event (v1_0.2.2)))]⟩
theorem stream_sorted_l1_o {n N : Nat} {a0 : (List T_api_Event)} {k1_0_0 : (List T_api_Event) → Option ((List T_api_Event) × Bool)} {R : Exit → AS → Prop} {K : List KItem} {c : Code} {σ : AS} {v0 : Int × (List (T_stream_identity × T_api_Event)) × (List T_api_Event)} {r : (List T_api_Event) × Bool} (hF : F_stream_sorted_l1 n a0 k1_0_0 N v0 = some r) (hl : LeX E0 46 σ (S_stream_sorted_l1 a0 v0)) (round : ∀ m v, F_stream_sorted_l1 n a0 k1_0_0 (m + 1) v = some r → AW E0 46 (thenA (fun σ' => ∃ v', F_stream_sorted_l1 n a0 k1_0_0 m v' = some r ∧ LeX E0 46 σ' (S_stream_sorted_l1 a0 v')) (AW E0 46 R K)) [.code c] .normal (S_stream_sorted_l1 a0 v)) : LoopX E0 46 (fun next σ' => AW E0 46 (thenA next (AW E0 46 R K)) [.code c] .normal σ') σ :=
  LoopA.o (S := S_stream_sorted_l1 a0) hF (fun _ => rfl) hl round
def R_stream_sorted (r : (List T_api_Event) × Bool) : AV := .tup [.sl 5 (List.map e_api_Event (r.1)), .bool (r.2)]
theorem con_stream_sorted {n : Nat} {a0 : (List T_api_Event)} {r : (List T_api_Event) × Bool} (hF : F_stream_sorted n a0 = some r) : Con E0 false 49 [.sl 5 (List.map e_api_Event (a0))] (R_stream_sorted r) := by
  unfold F_stream_sorted at hF
  refine Con.walk _ Try.func49 rfl (enters_of Try.func49 rfl rfl) rfl (Or.inl rfl) ?_
  repeat' first
    | (refine AW.step ?_; conv => whnf)
    | (refine CondX.o hF (fun hF => ?_) (fun hF => ?_))
    | (refine CondX.t ?_)
    | (refine CondX.f ?_)
    | (refine CallC.oI hF 7041 (fun r => r) e_api_Event (fun _ => AV.tup []) rfl (fun a h => sortEv_con h) rfl rfl rfl (fun a hF => ?_))
    | (refine IdxX.o e_api_Event hF (fun x hF => ?_))
    | (refine CallX.o hF R_stream_of (fun a h => con_stream_of h) (fun a hF => ?_))
    | (refine LkX.o e_stream_identity e_api_Event hF (by first | rfl | kernel_rfl) eqK_87 (by repeat' first | exact Sub.nil _ | exact Sub.refl _ | refine Sub.agg ?_ | refine Sub.tup ?_ | refine Sub.fn ?_ | exact SubL.nil | refine SubL.cons ?_ ?_ | refine Sub.sl _ ?_ | exact SubE.nil | refine SubE.cons ?_ ?_) (fun v b hF => ?_))
    | (refine CallX.o hF R_stream_equal (fun a h => con_stream_equal h) (fun a hF => ?_))
    | (refine UpX.o e_stream_identity e_api_Event hF (by first | rfl | kernel_rfl) eqK_87 (by repeat' first | exact Sub.nil _ | exact Sub.refl _ | refine Sub.agg ?_ | refine Sub.tup ?_ | refine Sub.fn ?_ | exact SubL.nil | refine SubL.cons ?_ ?_ | refine Sub.sl _ ?_ | exact SubE.nil | refine SubE.cons ?_ ?_) (fun l hF => ?_))
    | (refine CallX.o hF R_stream_copied (fun a h => con_stream_copied h) (fun a hF => ?_))
    | (refine AppX.o e_api_Event hF (by first | exact SubR.refl _ | (repeat' first | exact SubR.nil | refine SubR.cons ?_ ?_ | exact SubL.nil | refine SubL.cons ?_ ?_ | exact Sub.refl _ | exact Sub.nil _)) (fun l hF => ?_))
    | (exact ⟨_, hF, LeX.of [(7041, 41)] rfl ⟨⟨rfl, rfl⟩, ⟨rfl, rfl⟩, ⟨rfl, rfl⟩, ⟨rfl, rfl⟩, ⟨rfl, rfl⟩, trivial⟩ ⟨⟨rfl, rfl⟩, ⟨rfl, rfl⟩, trivial⟩⟩)
    | (exact ⟨_, hF, LeX.of [] rfl ⟨⟨rfl, rfl⟩, ⟨rfl, rfl⟩, ⟨rfl, rfl⟩, ⟨rfl, rfl⟩, ⟨rfl, rfl⟩, trivial⟩ ⟨⟨rfl, rfl⟩, ⟨rfl, rfl⟩, trivial⟩⟩)
    | (refine stream_sorted_l1_o hF (LeX.trans (LeX.adopt 5 7041 51 5 rfl rfl) (LeX.of [] rfl ⟨⟨rfl, rfl⟩, ⟨rfl, rfl⟩, ⟨rfl, rfl⟩, ⟨rfl, rfl⟩, ⟨rfl, rfl⟩, trivial⟩ ⟨⟨rfl, rfl⟩, ⟨rfl, rfl⟩, trivial⟩)) (fun m v hF => ?_); unfold F_stream_sorted_l1 at hF)
    | (refine And.intro ⟨by kernel_rfl, by kernel_rfl⟩ ?_)
    | (refine EqX.mk (by first | rfl | kernel_rfl) ?_)
    | (exact RetX.o hF (by repeat' first | exact Sub.nil _ | exact Sub.refl _ | refine Sub.agg ?_ | refine Sub.tup ?_ | refine Sub.fn ?_ | exact SubL.nil | refine SubL.cons ?_ ?_ | refine Sub.sl _ ?_ | exact SubE.nil | refine SubE.cons ?_ ?_))

def T_stream_sorted (r : (List T_api_Event) × Bool) : AV := .tup [.row 0, .bool (r.2)]
theorem conT_stream_sorted {n : Nat} {a0 : (List T_api_Event)} {r : (List T_api_Event) × Bool} (hF : F_stream_sorted n a0 = some r) : ConT E0 49 [.sl 5 (List.map e_api_Event (a0))] 51 5 (List.map e_api_Event (r.1)) (T_stream_sorted r) := by
  unfold F_stream_sorted at hF
  refine ConT.walk _ Try.func49 rfl (enters_of Try.func49 rfl rfl) rfl rfl ?_
  repeat' first
    | (refine AW.step ?_; conv => whnf)
    | (refine CondX.o hF (fun hF => ?_) (fun hF => ?_))
    | (refine CondX.t ?_)
    | (refine CondX.f ?_)
    | (refine CallC.oI hF 7041 (fun r => r) e_api_Event (fun _ => AV.tup []) rfl (fun a h => sortEv_con h) rfl rfl rfl (fun a hF => ?_))
    | (refine IdxX.o e_api_Event hF (fun x hF => ?_))
    | (refine CallX.o hF R_stream_of (fun a h => con_stream_of h) (fun a hF => ?_))
    | (refine LkX.o e_stream_identity e_api_Event hF (by first | rfl | kernel_rfl) eqK_87 (by repeat' first | exact Sub.nil _ | exact Sub.refl _ | refine Sub.agg ?_ | refine Sub.tup ?_ | refine Sub.fn ?_ | exact SubL.nil | refine SubL.cons ?_ ?_ | refine Sub.sl _ ?_ | exact SubE.nil | refine SubE.cons ?_ ?_) (fun v b hF => ?_))
    | (refine CallX.o hF R_stream_equal (fun a h => con_stream_equal h) (fun a hF => ?_))
    | (refine UpX.o e_stream_identity e_api_Event hF (by first | rfl | kernel_rfl) eqK_87 (by repeat' first | exact Sub.nil _ | exact Sub.refl _ | refine Sub.agg ?_ | refine Sub.tup ?_ | refine Sub.fn ?_ | exact SubL.nil | refine SubL.cons ?_ ?_ | refine Sub.sl _ ?_ | exact SubE.nil | refine SubE.cons ?_ ?_) (fun l hF => ?_))
    | (refine CallX.o hF R_stream_copied (fun a h => con_stream_copied h) (fun a hF => ?_))
    | (refine AppX.o e_api_Event hF (by first | exact SubR.refl _ | (repeat' first | exact SubR.nil | refine SubR.cons ?_ ?_ | exact SubL.nil | refine SubL.cons ?_ ?_ | exact Sub.refl _ | exact Sub.nil _)) (fun l hF => ?_))
    | (exact ⟨_, hF, LeX.of [(7041, 41)] rfl ⟨⟨rfl, rfl⟩, ⟨rfl, rfl⟩, ⟨rfl, rfl⟩, ⟨rfl, rfl⟩, ⟨rfl, rfl⟩, trivial⟩ ⟨⟨rfl, rfl⟩, ⟨rfl, rfl⟩, trivial⟩⟩)
    | (exact ⟨_, hF, LeX.of [] rfl ⟨⟨rfl, rfl⟩, ⟨rfl, rfl⟩, ⟨rfl, rfl⟩, ⟨rfl, rfl⟩, ⟨rfl, rfl⟩, trivial⟩ ⟨⟨rfl, rfl⟩, ⟨rfl, rfl⟩, trivial⟩⟩)
    | (refine stream_sorted_l1_o hF (LeX.trans (LeX.adopt 5 7041 51 5 rfl rfl) (LeX.of [] rfl ⟨⟨rfl, rfl⟩, ⟨rfl, rfl⟩, ⟨rfl, rfl⟩, ⟨rfl, rfl⟩, ⟨rfl, rfl⟩, trivial⟩ ⟨⟨rfl, rfl⟩, ⟨rfl, rfl⟩, trivial⟩)) (fun m v hF => ?_); unfold F_stream_sorted_l1 at hF)
    | (refine And.intro ⟨by kernel_rfl, by kernel_rfl⟩ ?_)
    | (refine EqX.mk (by first | rfl | kernel_rfl) ?_)
    | (refine TX.o (rl := fun r => List.map e_api_Event (r.1)) (res := T_stream_sorted) hF ?_; exact TX.mk _ 7041 (LeX.refl _ _ _) _ rfl rfl (by repeat' first | exact Sub.nil _ | exact Sub.refl _ | refine Sub.agg ?_ | refine Sub.tup ?_ | refine Sub.fn ?_ | exact SubL.nil | refine SubL.cons ?_ ?_ | refine Sub.sl _ ?_ | exact SubE.nil | refine SubE.cons ?_ ?_))
    | (refine TX.o (rl := fun r => List.map e_api_Event (r.1)) (res := T_stream_sorted) hF ?_; exact TX.mk _ 41 (LeX.refl _ _ _) _ rfl rfl (by repeat' first | exact Sub.nil _ | exact Sub.refl _ | refine Sub.agg ?_ | refine Sub.tup ?_ | refine Sub.fn ?_ | exact SubL.nil | refine SubL.cons ?_ ?_ | refine Sub.sl _ ?_ | exact SubE.nil | refine SubE.cons ?_ ?_))
    | (refine TX.o (rl := fun r => List.map e_api_Event (r.1)) (res := T_stream_sorted) hF ?_; exact TX.mk _ 9000 (LeX.adopt 2 9000 51 5 rfl rfl) _ rfl rfl (by repeat' first | exact Sub.nil _ | exact Sub.refl _ | refine Sub.agg ?_ | refine Sub.tup ?_ | refine Sub.fn ?_ | exact SubL.nil | refine SubL.cons ?_ ?_ | refine Sub.sl _ ?_ | exact SubE.nil | refine SubE.cons ?_ ?_))

def R_stream_Sort (r : (List T_api_Event) × Int) : AV := .tup [.sl 5 (List.map e_api_Event (r.1)), aI (r.2)]
theorem con_stream_Sort {n : Nat} {a0 : (List T_api_Event)} {r : (List T_api_Event) × Int} (hF : F_stream_Sort n a0 = some r) : Con E0 false 14 [.sl 5 (List.map e_api_Event (a0))] (R_stream_Sort r) := by
  unfold F_stream_Sort at hF
  refine Con.walk _ Try.func14 rfl (enters_of Try.func14 rfl rfl) rfl (Or.inl rfl) ?_
  repeat' first
    | (refine AW.step ?_; conv => whnf)
    | (refine CondX.o hF (fun hF => ?_) (fun hF => ?_))
    | (refine CondX.t ?_)
    | (refine CondX.f ?_)
    | (refine CallX.o hF R_stream_all (fun a h => con_stream_all h) (fun a hF => ?_))
    | (refine CallX.o hF R_stream_sorted (fun a h => con_stream_sorted h) (fun a hF => ?_))
    | (refine And.intro ⟨by kernel_rfl, by kernel_rfl⟩ ?_)
    | (refine EqX.mk (by first | rfl | kernel_rfl) ?_)
    | (exact RetX.o hF (by repeat' first | exact Sub.nil _ | exact Sub.refl _ | refine Sub.agg ?_ | refine Sub.tup ?_ | refine Sub.fn ?_ | exact SubL.nil | refine SubL.cons ?_ ?_ | refine Sub.sl _ ?_ | exact SubE.nil | refine SubE.cons ?_ ?_))

def S_tidegateref05_list_l1 (a0 : (List T_api_Event)) (v1_0 : Int) : AS := ⟨[(0, .sl 5 (List.map e_api_Event (a0))), (3, aI (v1_0))], []⟩
theorem tidegateref05_list_l1_o {n N : Nat} {a0 : (List T_api_Event)} {k1_0_0 : Option (Int)} {R : Exit → AS → Prop} {K : List KItem} {c : Code} {σ : AS} {v0 : Int} {r : Int} (hF : F_tidegateref05_list_l1 n a0 k1_0_0 N v0 = some r) (hl : LeX E0 19 σ (S_tidegateref05_list_l1 a0 v0)) (round : ∀ m v, F_tidegateref05_list_l1 n a0 k1_0_0 (m + 1) v = some r → AW E0 19 (thenA (fun σ' => ∃ v', F_tidegateref05_list_l1 n a0 k1_0_0 m v' = some r ∧ LeX E0 19 σ' (S_tidegateref05_list_l1 a0 v')) (AW E0 19 R K)) [.code c] .normal (S_tidegateref05_list_l1 a0 v)) : LoopX E0 19 (fun next σ' => AW E0 19 (thenA next (AW E0 19 R K)) [.code c] .normal σ') σ :=
  LoopA.o (S := S_tidegateref05_list_l1 a0) hF (fun _ => rfl) hl round
def R_tidegateref05_list (r : Int) : AV := aI (r)
theorem con_tidegateref05_list {n : Nat} {a0 : (List T_api_Event)} {r : Int} (hF : F_tidegateref05_list n a0 = some r) : Con E0 true 50 [.sl 5 (List.map e_api_Event (a0))] (R_tidegateref05_list r) := by
  unfold F_tidegateref05_list at hF
  refine Con.walk _ Try.func50 rfl (enters_of Try.func50 rfl rfl) rfl (Or.inr rfl) ?_
  repeat' first
    | (refine AW.step ?_; conv => whnf)
    | (refine CondX.o hF (fun hF => ?_) (fun hF => ?_))
    | (refine CondX.t ?_)
    | (refine CondX.f ?_)
    | (refine IdxX.o e_api_Event hF (fun x hF => ?_))
    | (refine CallX.o hF R_tidegateref05_Placed (fun a h => con_tidegateref05_Placed h) (fun a hF => ?_))
    | (exact ⟨_, hF, LeX.of [] rfl ⟨⟨rfl, rfl⟩, ⟨rfl, rfl⟩, trivial⟩ trivial⟩)
    | (refine tidegateref05_list_l1_o hF (LeX.of [] rfl ⟨⟨rfl, rfl⟩, ⟨rfl, rfl⟩, trivial⟩ trivial) (fun m v hF => ?_); unfold F_tidegateref05_list_l1 at hF)
    | (refine And.intro ⟨by kernel_rfl, by kernel_rfl⟩ ?_)
    | (refine EqX.mk (by first | rfl | kernel_rfl) ?_)
    | (exact RetX.o hF (by repeat' first | exact Sub.nil _ | exact Sub.refl _ | refine Sub.agg ?_ | refine Sub.tup ?_ | refine Sub.fn ?_ | exact SubL.nil | refine SubL.cons ?_ ?_ | refine Sub.sl _ ?_ | exact SubE.nil | refine SubE.cons ?_ ?_))

def S_tidegateref01_Same_l1 (a1 : (List T_api_Value)) (a0 : (List T_api_Value)) (v1_0 : Int) : AS := ⟨[(0, .sl 3 (List.map e_api_Value (a0))), (1, .sl 3 (List.map e_api_Value (a1))), (5, aI (v1_0))], []⟩
theorem tidegateref01_Same_l1_o {n N : Nat} {a1 : (List T_api_Value)} {a0 : (List T_api_Value)} {k1_0_0 : Option (Bool)} {R : Exit → AS → Prop} {K : List KItem} {c : Code} {σ : AS} {v0 : Int} {r : Bool} (hF : F_tidegateref01_Same_l1 n a1 a0 k1_0_0 N v0 = some r) (hl : LeX E0 26 σ (S_tidegateref01_Same_l1 a1 a0 v0)) (round : ∀ m v, F_tidegateref01_Same_l1 n a1 a0 k1_0_0 (m + 1) v = some r → AW E0 26 (thenA (fun σ' => ∃ v', F_tidegateref01_Same_l1 n a1 a0 k1_0_0 m v' = some r ∧ LeX E0 26 σ' (S_tidegateref01_Same_l1 a1 a0 v')) (AW E0 26 R K)) [.code c] .normal (S_tidegateref01_Same_l1 a1 a0 v)) : LoopX E0 26 (fun next σ' => AW E0 26 (thenA next (AW E0 26 R K)) [.code c] .normal σ') σ :=
  LoopA.o (S := S_tidegateref01_Same_l1 a1 a0) hF (fun _ => rfl) hl round
def R_tidegateref01_Same (r : Bool) : AV := .bool (r)
theorem con_tidegateref01_Same {n : Nat} {a0 : (List T_api_Value)} {a1 : (List T_api_Value)} {r : Bool} (hF : F_tidegateref01_Same n a0 a1 = some r) : Con E0 true 41 [.sl 3 (List.map e_api_Value (a0)), .sl 3 (List.map e_api_Value (a1))] (R_tidegateref01_Same r) := by
  unfold F_tidegateref01_Same at hF
  refine Con.walk _ Try.func41 rfl (enters_of Try.func41 rfl rfl) rfl (Or.inr rfl) ?_
  repeat' first
    | (refine AW.step ?_; conv => whnf)
    | (refine CondX.o hF (fun hF => ?_) (fun hF => ?_))
    | (refine CondX.t ?_)
    | (refine CondX.f ?_)
    | (refine IdxX.o e_api_Value hF (fun x hF => ?_))
    | (exact ⟨_, hF, LeX.of [] rfl ⟨⟨rfl, rfl⟩, ⟨rfl, rfl⟩, ⟨rfl, rfl⟩, trivial⟩ trivial⟩)
    | (refine tidegateref01_Same_l1_o hF (LeX.of [] rfl ⟨⟨rfl, rfl⟩, ⟨rfl, rfl⟩, ⟨rfl, rfl⟩, trivial⟩ trivial) (fun m v hF => ?_); unfold F_tidegateref01_Same_l1 at hF)
    | (refine And.intro ⟨by kernel_rfl, by kernel_rfl⟩ ?_)
    | (refine EqX.mk (by first | rfl | kernel_rfl) ?_)
    | (exact RetX.o hF (by repeat' first | exact Sub.nil _ | exact Sub.refl _ | refine Sub.agg ?_ | refine Sub.tup ?_ | refine Sub.fn ?_ | exact SubL.nil | refine SubL.cons ?_ ?_ | refine Sub.sl _ ?_ | exact SubE.nil | refine SubE.cons ?_ ?_))

def R_tidegateref05_Equal (r : Bool) : AV := .bool (r)
theorem con_tidegateref05_Equal {n : Nat} {a0 : T_api_Event} {a1 : T_api_Event} {r : Bool} (hF : F_tidegateref05_Equal n a0 a1 = some r) : Con E0 true 57 [.agg [aI (a0.fSource), aI (a0.fSeq), aI (a0.fType), aI (a0.fTime), .sl 3 (List.map e_api_Value (a0.fValues))], .agg [aI (a1.fSource), aI (a1.fSeq), aI (a1.fType), aI (a1.fTime), .sl 3 (List.map e_api_Value (a1.fValues))]] (R_tidegateref05_Equal r) := by
  unfold F_tidegateref05_Equal at hF
  refine Con.walk _ Try.func57 rfl (enters_of Try.func57 rfl rfl) rfl (Or.inr rfl) ?_
  repeat' first
    | (refine AW.step ?_; conv => whnf)
    | (refine CondX.o hF (fun hF => ?_) (fun hF => ?_))
    | (refine CondX.t ?_)
    | (refine CondX.f ?_)
    | (refine CallX.o hF R_tidegateref05_Ref (fun a h => con_tidegateref05_Ref h) (fun a hF => ?_))
    | (refine CallX.o hF R_tidegateref01_Same (fun a h => con_tidegateref01_Same h) (fun a hF => ?_))
    | (refine And.intro ⟨by kernel_rfl, by kernel_rfl⟩ ?_)
    | (refine EqX.mk (by first | rfl | kernel_rfl) ?_)
    | (exact RetX.o hF (by repeat' first | exact Sub.nil _ | exact Sub.refl _ | refine Sub.agg ?_ | refine Sub.tup ?_ | refine Sub.fn ?_ | exact SubL.nil | refine SubL.cons ?_ ?_ | refine Sub.sl _ ?_ | exact SubE.nil | refine SubE.cons ?_ ?_))

def S_tidegateref05_conflict_l1 (a1 : T_api_Event) (a0 : (List T_api_Event)) (v1_0 : Int) : AS := ⟨[(0, .sl 5 (List.map e_api_Event (a0))), (3, .ptr 3 0), (5, aI (v1_0))], [(3, .box 51 [aI (a1.fSource), aI (a1.fSeq), aI (a1.fType), aI (a1.fTime), .sl 3 (List.map e_api_Value (a1.fValues))])]⟩
theorem tidegateref05_conflict_l1_o {n N : Nat} {a1 : T_api_Event} {a0 : (List T_api_Event)} {k1_0_0 : Option (Bool)} {R : Exit → AS → Prop} {K : List KItem} {c : Code} {σ : AS} {v0 : Int} {r : Bool} (hF : F_tidegateref05_conflict_l1 n a1 a0 k1_0_0 N v0 = some r) (hl : LeX E0 27 σ (S_tidegateref05_conflict_l1 a1 a0 v0)) (round : ∀ m v, F_tidegateref05_conflict_l1 n a1 a0 k1_0_0 (m + 1) v = some r → AW E0 27 (thenA (fun σ' => ∃ v', F_tidegateref05_conflict_l1 n a1 a0 k1_0_0 m v' = some r ∧ LeX E0 27 σ' (S_tidegateref05_conflict_l1 a1 a0 v')) (AW E0 27 R K)) [.code c] .normal (S_tidegateref05_conflict_l1 a1 a0 v)) : LoopX E0 27 (fun next σ' => AW E0 27 (thenA next (AW E0 27 R K)) [.code c] .normal σ') σ :=
  LoopA.o (S := S_tidegateref05_conflict_l1 a1 a0) hF (fun _ => rfl) hl round
def R_tidegateref05_conflict (r : Bool) : AV := .bool (r)
theorem con_tidegateref05_conflict {n : Nat} {a0 : (List T_api_Event)} {a1 : T_api_Event} {r : Bool} (hF : F_tidegateref05_conflict n a0 a1 = some r) : Con E0 true 51 [.sl 5 (List.map e_api_Event (a0)), .agg [aI (a1.fSource), aI (a1.fSeq), aI (a1.fType), aI (a1.fTime), .sl 3 (List.map e_api_Value (a1.fValues))]] (R_tidegateref05_conflict r) := by
  unfold F_tidegateref05_conflict at hF
  refine Con.walk _ Try.func51 rfl (enters_of Try.func51 rfl rfl) rfl (Or.inr rfl) ?_
  repeat' first
    | (refine AW.step ?_; conv => whnf)
    | (refine CondX.o hF (fun hF => ?_) (fun hF => ?_))
    | (refine CondX.t ?_)
    | (refine CondX.f ?_)
    | (refine IdxX.o e_api_Event hF (fun x hF => ?_))
    | (refine CallX.o hF R_tidegateref05_Twin (fun a h => con_tidegateref05_Twin h) (fun a hF => ?_))
    | (refine CallX.o hF R_tidegateref05_Equal (fun a h => con_tidegateref05_Equal h) (fun a hF => ?_))
    | (exact ⟨_, hF, LeX.of [] rfl ⟨⟨rfl, rfl⟩, ⟨rfl, rfl⟩, ⟨rfl, rfl⟩, trivial⟩ ⟨⟨rfl, rfl⟩, trivial⟩⟩)
    | (refine tidegateref05_conflict_l1_o hF (LeX.of [] rfl ⟨⟨rfl, rfl⟩, ⟨rfl, rfl⟩, ⟨rfl, rfl⟩, trivial⟩ ⟨⟨rfl, rfl⟩, trivial⟩) (fun m v hF => ?_); unfold F_tidegateref05_conflict_l1 at hF)
    | (refine And.intro ⟨by kernel_rfl, by kernel_rfl⟩ ?_)
    | (refine EqX.mk (by first | rfl | kernel_rfl) ?_)
    | (exact RetX.o hF (by repeat' first | exact Sub.nil _ | exact Sub.refl _ | refine Sub.agg ?_ | refine Sub.tup ?_ | refine Sub.fn ?_ | exact SubL.nil | refine SubL.cons ?_ ?_ | refine Sub.sl _ ?_ | exact SubE.nil | refine SubE.cons ?_ ?_))

def S_tidegateref05_Has_l1 (a1 : T_api_Event) (a0 : (List T_api_Event)) (v1_0 : Int) : AS := ⟨[(0, .sl 5 (List.map e_api_Event (a0))), (3, .ptr 3 0), (5, aI (v1_0))], [(3, .box 51 [aI (a1.fSource), aI (a1.fSeq), aI (a1.fType), aI (a1.fTime), .sl 3 (List.map e_api_Value (a1.fValues))])]⟩
theorem tidegateref05_Has_l1_o {n N : Nat} {a1 : T_api_Event} {a0 : (List T_api_Event)} {k1_0_0 : Option (Bool)} {R : Exit → AS → Prop} {K : List KItem} {c : Code} {σ : AS} {v0 : Int} {r : Bool} (hF : F_tidegateref05_Has_l1 n a1 a0 k1_0_0 N v0 = some r) (hl : LeX E0 18 σ (S_tidegateref05_Has_l1 a1 a0 v0)) (round : ∀ m v, F_tidegateref05_Has_l1 n a1 a0 k1_0_0 (m + 1) v = some r → AW E0 18 (thenA (fun σ' => ∃ v', F_tidegateref05_Has_l1 n a1 a0 k1_0_0 m v' = some r ∧ LeX E0 18 σ' (S_tidegateref05_Has_l1 a1 a0 v')) (AW E0 18 R K)) [.code c] .normal (S_tidegateref05_Has_l1 a1 a0 v)) : LoopX E0 18 (fun next σ' => AW E0 18 (thenA next (AW E0 18 R K)) [.code c] .normal σ') σ :=
  LoopA.o (S := S_tidegateref05_Has_l1 a1 a0) hF (fun _ => rfl) hl round
def R_tidegateref05_Has (r : Bool) : AV := .bool (r)
theorem con_tidegateref05_Has {n : Nat} {a0 : (List T_api_Event)} {a1 : T_api_Event} {r : Bool} (hF : F_tidegateref05_Has n a0 a1 = some r) : Con E0 true 38 [.sl 5 (List.map e_api_Event (a0)), .agg [aI (a1.fSource), aI (a1.fSeq), aI (a1.fType), aI (a1.fTime), .sl 3 (List.map e_api_Value (a1.fValues))]] (R_tidegateref05_Has r) := by
  unfold F_tidegateref05_Has at hF
  refine Con.walk _ Try.func38 rfl (enters_of Try.func38 rfl rfl) rfl (Or.inr rfl) ?_
  repeat' first
    | (refine AW.step ?_; conv => whnf)
    | (refine CondX.o hF (fun hF => ?_) (fun hF => ?_))
    | (refine CondX.t ?_)
    | (refine CondX.f ?_)
    | (refine IdxX.o e_api_Event hF (fun x hF => ?_))
    | (refine CallX.o hF R_tidegateref05_Equal (fun a h => con_tidegateref05_Equal h) (fun a hF => ?_))
    | (exact ⟨_, hF, LeX.of [] rfl ⟨⟨rfl, rfl⟩, ⟨rfl, rfl⟩, ⟨rfl, rfl⟩, trivial⟩ ⟨⟨rfl, rfl⟩, trivial⟩⟩)
    | (refine tidegateref05_Has_l1_o hF (LeX.of [] rfl ⟨⟨rfl, rfl⟩, ⟨rfl, rfl⟩, ⟨rfl, rfl⟩, trivial⟩ ⟨⟨rfl, rfl⟩, trivial⟩) (fun m v hF => ?_); unfold F_tidegateref05_Has_l1 at hF)
    | (refine And.intro ⟨by kernel_rfl, by kernel_rfl⟩ ?_)
    | (refine EqX.mk (by first | rfl | kernel_rfl) ?_)
    | (exact RetX.o hF (by repeat' first | exact Sub.nil _ | exact Sub.refl _ | refine Sub.agg ?_ | refine Sub.tup ?_ | refine Sub.fn ?_ | exact SubL.nil | refine SubL.cons ?_ ?_ | refine Sub.sl _ ?_ | exact SubE.nil | refine SubE.cons ?_ ?_))

def S_tidegateref05_put_l1 (a1 : T_api_Event) (a0 : (List T_api_Event)) (v1_0 : Int × (List T_api_Event)) : AS := ⟨[(0, .sl 5 (List.map e_api_Event (a0))), (3, .ptr 3 0), (5, .row 7028), (6, aI (v1_0.1))], [(3, .box 51 [aI (a1.fSource), aI (a1.fSeq), aI (a1.fType), aI (a1.fTime), .sl 3 (List.map e_api_Value (a1.fValues))]), (7028, .row 51 5 (List.map e_api_Event (v1_0.2)))]⟩
theorem tidegateref05_put_l1_o {n N : Nat} {a1 : T_api_Event} {a0 : (List T_api_Event)} {k1_0_0 : Int → (List T_api_Event) → Option ((List T_api_Event))} {R : Exit → AS → Prop} {K : List KItem} {c : Code} {σ : AS} {v0 : Int × (List T_api_Event)} {r : (List T_api_Event)} (hF : F_tidegateref05_put_l1 n a1 a0 k1_0_0 N v0 = some r) (hl : LeX E0 40 σ (S_tidegateref05_put_l1 a1 a0 v0)) (round : ∀ m v, F_tidegateref05_put_l1 n a1 a0 k1_0_0 (m + 1) v = some r → AW E0 40 (thenA (fun σ' => ∃ v', F_tidegateref05_put_l1 n a1 a0 k1_0_0 m v' = some r ∧ LeX E0 40 σ' (S_tidegateref05_put_l1 a1 a0 v')) (AW E0 40 R K)) [.code c] .normal (S_tidegateref05_put_l1 a1 a0 v)) : LoopX E0 40 (fun next σ' => AW E0 40 (thenA next (AW E0 40 R K)) [.code c] .normal σ') σ :=
  LoopA.o (S := S_tidegateref05_put_l1 a1 a0) hF (fun _ => rfl) hl round
def R_tidegateref05_put (r : (List T_api_Event)) : AV := .sl 5 (List.map e_api_Event (r))
theorem con_tidegateref05_put {n : Nat} {a0 : (List T_api_Event)} {a1 : T_api_Event} {r : (List T_api_Event)} (hF : F_tidegateref05_put n a0 a1 = some r) : Con E0 false 63 [.sl 5 (List.map e_api_Event (a0)), .agg [aI (a1.fSource), aI (a1.fSeq), aI (a1.fType), aI (a1.fTime), .sl 3 (List.map e_api_Value (a1.fValues))]] (R_tidegateref05_put r) := by
  unfold F_tidegateref05_put at hF
  refine Con.walk _ Try.func63 rfl (enters_of Try.func63 rfl rfl) rfl (Or.inl rfl) ?_
  repeat' first
    | (refine AW.step ?_; conv => whnf)
    | (refine CondX.o hF (fun hF => ?_) (fun hF => ?_))
    | (refine CondX.t ?_)
    | (refine CondX.f ?_)
    | (refine AppX.o e_api_Event hF (by first | exact SubR.refl _ | (repeat' first | exact SubR.nil | refine SubR.cons ?_ ?_ | exact SubL.nil | refine SubL.cons ?_ ?_ | exact Sub.refl _ | exact Sub.nil _)) (fun l hF => ?_))
    | (refine SlsX.o e_api_Event hF (fun l hF => ?_))
    | (refine IdxX.o e_api_Event hF (fun x hF => ?_))
    | (refine CallX.o hF R_tidegateref05_Ref (fun a h => con_tidegateref05_Ref h) (fun a hF => ?_))
    | (refine CallX.o hF R_tidegateref05_Order (fun a h => con_tidegateref05_Order h) (fun a hF => ?_))
    | (exact ⟨_, hF, LeX.of [(7028, 28)] rfl ⟨⟨rfl, rfl⟩, ⟨rfl, rfl⟩, ⟨rfl, rfl⟩, ⟨rfl, rfl⟩, trivial⟩ ⟨⟨rfl, rfl⟩, ⟨rfl, rfl⟩, trivial⟩⟩)
    | (refine tidegateref05_put_l1_o hF (LeX.trans (LeX.adopt 5 7028 51 5 rfl rfl) (LeX.of [] rfl ⟨⟨rfl, rfl⟩, ⟨rfl, rfl⟩, ⟨rfl, rfl⟩, ⟨rfl, rfl⟩, trivial⟩ ⟨⟨rfl, rfl⟩, ⟨rfl, rfl⟩, trivial⟩)) (fun m v hF => ?_); unfold F_tidegateref05_put_l1 at hF)
    | (refine And.intro ⟨by kernel_rfl, by kernel_rfl⟩ ?_)
    | (refine EqX.mk (by first | rfl | kernel_rfl) ?_)
    | (exact RetX.o hF (by repeat' first | exact Sub.nil _ | exact Sub.refl _ | refine Sub.agg ?_ | refine Sub.tup ?_ | refine Sub.fn ?_ | exact SubL.nil | refine SubL.cons ?_ ?_ | refine Sub.sl _ ?_ | exact SubE.nil | refine SubE.cons ?_ ?_))

def T_tidegateref05_put (r : (List T_api_Event)) : AV := .row 0
end Go.Proofs.Ytdbapaofibgfcaa
