/- What some functions compute, over plain values. Printed by a program of mine (gen_fun.lean). -/
import Derived.Test.YtcbdhigllelmcaaGreatK11
import Derived.Test.YtcbdhigllelmcaaGreatK10
set_option linter.unusedVariables false
set_option linter.unusedSimpArgs false
set_option maxRecDepth 100000
set_option maxHeartbeats 8000000
namespace Go.Proofs.YtcbdhigllelmcaaGreat
open Go.RowKit
theorem con_watermark_kinds : Con E0 true 109 [] (.agg [.fn 113 [], .fn 114 [], .fn 115 [], .fn 116 [], .fn 117 [], .fn 118 []]) := by
  refine Con.walk _ Tryz.func109 rfl (enters_of Tryz.func109 rfl rfl) rfl (Or.inr rfl) ?_
  repeat' first
    | (refine AW.step ?_; conv => whnf)
    | (refine CondX.o hF (fun hF => ?_) (fun hF => ?_))
    | (refine CondX.t ?_)
    | (refine CondX.f ?_)
    | (refine And.intro ⟨by kernel_rfl, by kernel_rfl⟩ ?_)
    | (refine EqX.mk (by first | rfl | kernel_rfl) ?_)
    | (exact RetX.mk rfl)

def R_watermark_ranged (r : Bool) : AV := .bool (r)
theorem con_watermark_ranged {n : Nat} {a0 : Int} {a1 : Int} {r : Bool} (hF : F_watermark_ranged n a0 a1 = some r) : Con E0 true 120 [aI (a0), aI (a1)] (R_watermark_ranged r) := by
  unfold F_watermark_ranged at hF
  refine Con.walk _ Tryz.func120 rfl (enters_of Tryz.func120 rfl rfl) rfl (Or.inr rfl) ?_
  repeat' first
    | (refine AW.step ?_; conv => whnf)
    | (refine CondX.o hF (fun hF => ?_) (fun hF => ?_))
    | (refine CondX.t ?_)
    | (refine CondX.f ?_)
    | (refine And.intro ⟨by kernel_rfl, by kernel_rfl⟩ ?_)
    | (refine EqX.mk (by first | rfl | kernel_rfl) ?_)
    | (exact RetX.o hF (by repeat' first | exact Sub.nil _ | exact Sub.refl _ | refine Sub.agg ?_ | refine Sub.tup ?_ | refine Sub.fn ?_ | exact SubL.nil | refine SubL.cons ?_ ?_ | refine Sub.sl _ ?_ | exact SubE.nil | refine SubE.cons ?_ ?_))

def R_watermark_checkEvent (r : Int) : AV := aI (r)
theorem con_watermark_checkEvent {n : Nat} {a0 : T_api_Message} {r : Int} (hF : F_watermark_checkEvent n a0 = some r) : Con E0 true 113 [.agg [aI (a0.fKind), aI (a0.fEvent.fSource), aI (a0.fEvent.fSeq), aI (a0.fEvent.fType), aI (a0.fEvent.fTime), .sl 3 (List.map e_api_Value (a0.fEvent.fValues)), aI (a0.fSource), aI (a0.fSeq), aI (a0.fTime)]] (R_watermark_checkEvent r) := by
  unfold F_watermark_checkEvent at hF
  refine Con.walk _ Tryz.func113 rfl (enters_of Tryz.func113 rfl rfl) rfl (Or.inr rfl) ?_
  repeat' first
    | (refine AW.step ?_; conv => whnf)
    | (refine CondX.o hF (fun hF => ?_) (fun hF => ?_))
    | (refine CondX.t ?_)
    | (refine CondX.f ?_)
    | (refine CallX.o hF R_watermark_ranged (fun a h => con_watermark_ranged h) (fun a hF => ?_))
    | (refine And.intro ⟨by kernel_rfl, by kernel_rfl⟩ ?_)
    | (refine EqX.mk (by first | rfl | kernel_rfl) ?_)
    | (exact RetX.o hF (by repeat' first | exact Sub.nil _ | exact Sub.refl _ | refine Sub.agg ?_ | refine Sub.tup ?_ | refine Sub.fn ?_ | exact SubL.nil | refine SubL.cons ?_ ?_ | refine Sub.sl _ ?_ | exact SubE.nil | refine SubE.cons ?_ ?_))

def R_sequence_Begin (r : Trk) : AV := .agg [aI (r.next), .sl 1 (List.map aI (r.beyond)), .sl 2 (List.map aPt (r.points)), aI (r.mark)]
theorem con_sequence_Begin {n : Nat} {r : Trk} (hF : F_sequence_Begin n = some r) : Con E0 false 37 [] (R_sequence_Begin r) := by
  unfold F_sequence_Begin at hF
  refine Con.walk _ Tryz.func37 rfl (enters_of Tryz.func37 rfl rfl) rfl (Or.inl rfl) ?_
  repeat' first
    | (refine AW.step ?_; conv => whnf)
    | (refine CondX.o hF (fun hF => ?_) (fun hF => ?_))
    | (refine CondX.t ?_)
    | (refine CondX.f ?_)
    | (refine And.intro ⟨by kernel_rfl, by kernel_rfl⟩ ?_)
    | (refine EqX.mk (by first | rfl | kernel_rfl) ?_)
    | (exact RetX.o hF (by repeat' first | exact Sub.nil _ | exact Sub.refl _ | refine Sub.agg ?_ | refine Sub.tup ?_ | refine Sub.fn ?_ | exact SubL.nil | refine SubL.cons ?_ ?_ | refine Sub.sl _ ?_ | exact SubE.nil | refine SubE.cons ?_ ?_))

def R_watermark_valid (r : Bool) : AV := .bool (r)
theorem con_watermark_valid {n : Nat} {a0 : T_api_Message} {r : Bool} (hF : F_watermark_valid n a0 = some r) : Con E0 true 125 [.agg [aI (a0.fKind), aI (a0.fEvent.fSource), aI (a0.fEvent.fSeq), aI (a0.fEvent.fType), aI (a0.fEvent.fTime), .sl 3 (List.map e_api_Value (a0.fEvent.fValues)), aI (a0.fSource), aI (a0.fSeq), aI (a0.fTime)]] (R_watermark_valid r) := by
  unfold F_watermark_valid at hF
  refine Con.walk _ Tryz.func125 rfl (enters_of Tryz.func125 rfl rfl) rfl (Or.inr rfl) ?_
  repeat' first
    | (refine AW.step ?_; conv => whnf)
    | (refine CondX.o hF (fun hF => ?_) (fun hF => ?_))
    | (refine CondX.t ?_)
    | (refine CondX.f ?_)
    | (refine CallX.o hF R_sequence_Begin (fun a h => con_sequence_Begin h) (fun a hF => ?_))
    | (refine CallX.o hF R_puAdd (fun a h => con_puAdd h) (fun a hF => ?_))
    | (refine And.intro ⟨by kernel_rfl, by kernel_rfl⟩ ?_)
    | (refine EqX.mk (by first | rfl | kernel_rfl) ?_)
    | (exact RetX.o hF (by repeat' first | exact Sub.nil _ | exact Sub.refl _ | refine Sub.agg ?_ | refine Sub.tup ?_ | refine Sub.fn ?_ | exact SubL.nil | refine SubL.cons ?_ ?_ | refine Sub.sl _ ?_ | exact SubE.nil | refine SubE.cons ?_ ?_))

def R_watermark_checkPoint (r : Int) : AV := aI (r)
theorem con_watermark_checkPoint {n : Nat} {a0 : T_api_Message} {r : Int} (hF : F_watermark_checkPoint n a0 = some r) : Con E0 true 116 [.agg [aI (a0.fKind), aI (a0.fEvent.fSource), aI (a0.fEvent.fSeq), aI (a0.fEvent.fType), aI (a0.fEvent.fTime), .sl 3 (List.map e_api_Value (a0.fEvent.fValues)), aI (a0.fSource), aI (a0.fSeq), aI (a0.fTime)]] (R_watermark_checkPoint r) := by
  unfold F_watermark_checkPoint at hF
  refine Con.walk _ Tryz.func116 rfl (enters_of Tryz.func116 rfl rfl) rfl (Or.inr rfl) ?_
  repeat' first
    | (refine AW.step ?_; conv => whnf)
    | (refine CondX.o hF (fun hF => ?_) (fun hF => ?_))
    | (refine CondX.t ?_)
    | (refine CondX.f ?_)
    | (refine CallX.o hF R_watermark_ranged (fun a h => con_watermark_ranged h) (fun a hF => ?_))
    | (refine CallX.o hF R_watermark_valid (fun a h => con_watermark_valid h) (fun a hF => ?_))
    | (refine And.intro ⟨by kernel_rfl, by kernel_rfl⟩ ?_)
    | (refine EqX.mk (by first | rfl | kernel_rfl) ?_)
    | (exact RetX.o hF (by repeat' first | exact Sub.nil _ | exact Sub.refl _ | refine Sub.agg ?_ | refine Sub.tup ?_ | refine Sub.fn ?_ | exact SubL.nil | refine SubL.cons ?_ ?_ | refine Sub.sl _ ?_ | exact SubE.nil | refine SubE.cons ?_ ?_))

def R_watermark_CheckMessage (r : Int) : AV := aI (r)
theorem con_watermark_CheckMessage {n : Nat} {a0 : T_api_Message} {r : Int} (hF : F_watermark_CheckMessage n a0 = some r) : Con E0 true 94 [.agg [aI (a0.fKind), aI (a0.fEvent.fSource), aI (a0.fEvent.fSeq), aI (a0.fEvent.fType), aI (a0.fEvent.fTime), .sl 3 (List.map e_api_Value (a0.fEvent.fValues)), aI (a0.fSource), aI (a0.fSeq), aI (a0.fTime)]] (R_watermark_CheckMessage r) := by
  unfold F_watermark_CheckMessage at hF
  refine Con.walk _ Tryz.func94 rfl (enters_of Tryz.func94 rfl rfl) rfl (Or.inr rfl) ?_
  repeat' first
    | (refine AW.step ?_; conv => whnf)
    | (refine CondX.o hF (fun hF => ?_) (fun hF => ?_))
    | (refine CondX.t ?_)
    | (refine CondX.f ?_)
    | (refine CallX.mk _ _ con_watermark_kinds ?_)
    | (refine NatX.o2 hF (fun hF => ?_) (fun hF => ?_))
    | (refine CallX.o hF R_watermark_checkEvent (fun a h => con_watermark_checkEvent h) (fun a hF => ?_))
    | (refine CallX.o hF R_watermark_checkPoint (fun a h => con_watermark_checkPoint h) (fun a hF => ?_))
    | (refine And.intro ⟨by kernel_rfl, by kernel_rfl⟩ ?_)
    | (refine EqX.mk (by first | rfl | kernel_rfl) ?_)
    | (exact RetX.o hF (by repeat' first | exact Sub.nil _ | exact Sub.refl _ | refine Sub.agg ?_ | refine Sub.tup ?_ | refine Sub.fn ?_ | exact SubL.nil | refine SubL.cons ?_ ?_ | refine Sub.sl _ ?_ | exact SubE.nil | refine SubE.cons ?_ ?_))

def R_tidegateref36_within (r : Bool) : AV := .bool (r)
theorem con_tidegateref36_within {n : Nat} {a0 : Int} {a1 : Int} {r : Bool} (hF : F_tidegateref36_within n a0 a1 = some r) : Con E0 true 81 [aI (a0), aI (a1)] (R_tidegateref36_within r) := by
  unfold F_tidegateref36_within at hF
  refine Con.walk _ Tryz.func81 rfl (enters_of Tryz.func81 rfl rfl) rfl (Or.inr rfl) ?_
  repeat' first
    | (refine AW.step ?_; conv => whnf)
    | (refine CondX.o hF (fun hF => ?_) (fun hF => ?_))
    | (refine CondX.t ?_)
    | (refine CondX.f ?_)
    | (refine And.intro ⟨by kernel_rfl, by kernel_rfl⟩ ?_)
    | (refine EqX.mk (by first | rfl | kernel_rfl) ?_)
    | (exact RetX.o hF (by repeat' first | exact Sub.nil _ | exact Sub.refl _ | refine Sub.agg ?_ | refine Sub.tup ?_ | refine Sub.fn ?_ | exact SubL.nil | refine SubL.cons ?_ ?_ | refine Sub.sl _ ?_ | exact SubE.nil | refine SubE.cons ?_ ?_))

def R_tidegateref35_Valid (r : Bool) : AV := .bool (r)
theorem con_tidegateref35_Valid {n : Nat} {a0 : Pt} {r : Bool} (hF : F_tidegateref35_Valid n a0 = some r) : Con E0 true 82 [.agg [aI (a0.seq), aI (a0.time)]] (R_tidegateref35_Valid r) := by
  unfold F_tidegateref35_Valid at hF
  refine Con.walk _ Tryz.func82 rfl (enters_of Tryz.func82 rfl rfl) rfl (Or.inr rfl) ?_
  repeat' first
    | (refine AW.step ?_; conv => whnf)
    | (refine CondX.o hF (fun hF => ?_) (fun hF => ?_))
    | (refine CondX.t ?_)
    | (refine CondX.f ?_)
    | (refine And.intro ⟨by kernel_rfl, by kernel_rfl⟩ ?_)
    | (refine EqX.mk (by first | rfl | kernel_rfl) ?_)
    | (exact RetX.o hF (by repeat' first | exact Sub.nil _ | exact Sub.refl _ | refine Sub.agg ?_ | refine Sub.tup ?_ | refine Sub.fn ?_ | exact SubL.nil | refine SubL.cons ?_ ?_ | refine Sub.sl _ ?_ | exact SubE.nil | refine SubE.cons ?_ ?_))

def R_tidegateref36_CheckMessage (r : Int) : AV := aI (r)
theorem con_tidegateref36_CheckMessage {n : Nat} {a0 : T_api_Message} {r : Int} (hF : F_tidegateref36_CheckMessage n a0 = some r) : Con E0 true 60 [.agg [aI (a0.fKind), aI (a0.fEvent.fSource), aI (a0.fEvent.fSeq), aI (a0.fEvent.fType), aI (a0.fEvent.fTime), .sl 3 (List.map e_api_Value (a0.fEvent.fValues)), aI (a0.fSource), aI (a0.fSeq), aI (a0.fTime)]] (R_tidegateref36_CheckMessage r) := by
  unfold F_tidegateref36_CheckMessage at hF
  refine Con.walk _ Tryz.func60 rfl (enters_of Tryz.func60 rfl rfl) rfl (Or.inr rfl) ?_
  repeat' first
    | (refine AW.step ?_; conv => whnf)
    | (refine CondX.o hF (fun hF => ?_) (fun hF => ?_))
    | (refine CondX.t ?_)
    | (refine CondX.f ?_)
    | (refine CallX.o hF R_tidegateref36_within (fun a h => con_tidegateref36_within h) (fun a hF => ?_))
    | (refine CallX.o hF R_tidegateref35_Valid (fun a h => con_tidegateref35_Valid h) (fun a hF => ?_))
    | (refine And.intro ⟨by kernel_rfl, by kernel_rfl⟩ ?_)
    | (refine EqX.mk (by first | rfl | kernel_rfl) ?_)
    | (exact RetX.o hF (by repeat' first | exact Sub.nil _ | exact Sub.refl _ | refine Sub.agg ?_ | refine Sub.tup ?_ | refine Sub.fn ?_ | exact SubL.nil | refine SubL.cons ?_ ?_ | refine Sub.sl _ ?_ | exact SubE.nil | refine SubE.cons ?_ ?_))

def S_watermark_Check_l1 (a0 : (List Trk)) (v1_0 : Int) : AS := ⟨[(9, .sl 4 (List.map aTrk (a0))), (10, aI ((((List.map aTrk (a0)).length : Nat) : Int))), (11, aI (v1_0))], []⟩
theorem watermark_Check_l1_o {n N : Nat} {a0 : (List Trk)} {k1_0_0 : Option (Int)} {R : Exit → AS → Prop} {K : List KItem} {c : Code} {σ : AS} {v0 : Int} {r : Int} (hF : F_watermark_Check_l1 n a0 k1_0_0 N v0 = some r) (hl : LeX E0 21 σ (S_watermark_Check_l1 a0 v0)) (round : ∀ m v, F_watermark_Check_l1 n a0 k1_0_0 (m + 1) v = some r → AW E0 21 (thenA (fun σ' => ∃ v', F_watermark_Check_l1 n a0 k1_0_0 m v' = some r ∧ LeX E0 21 σ' (S_watermark_Check_l1 a0 v')) (AW E0 21 R K)) [.code c] .normal (S_watermark_Check_l1 a0 v)) : LoopX E0 21 (fun next σ' => AW E0 21 (thenA next (AW E0 21 R K)) [.code c] .normal σ') σ :=
  LoopA.o (S := S_watermark_Check_l1 a0) hF (fun _ => rfl) hl round
def R_watermark_Check (r : Int) : AV := aI (r)
theorem con_watermark_Check {n : Nat} {a0 : (List Trk)} {r : Int} (hF : F_watermark_Check n a0 = some r) : Con E0 true 110 [.sl 4 (List.map aTrk (a0))] (R_watermark_Check r) := by
  unfold F_watermark_Check at hF
  refine Con.walk _ Tryz.func110 rfl (enters_of Tryz.func110 rfl rfl) rfl (Or.inr rfl) ?_
  repeat' first
    | (refine AW.step ?_; conv => whnf)
    | (refine CondX.o hF (fun hF => ?_) (fun hF => ?_))
    | (refine CondX.t ?_)
    | (refine CondX.f ?_)
    | (refine IdxX.o aTrk hF (fun x hF => ?_))
    | (refine CallX.o hF R_puCheck (fun a h => con_puCheck h) (fun a hF => ?_))
    | (exact ⟨_, hF, LeX.of [] rfl ⟨⟨rfl, rfl⟩, ⟨rfl, rfl⟩, ⟨rfl, rfl⟩, trivial⟩ trivial⟩)
    | (refine watermark_Check_l1_o hF (LeX.of [] rfl ⟨⟨rfl, rfl⟩, ⟨rfl, rfl⟩, ⟨rfl, rfl⟩, trivial⟩ trivial) (fun m v hF => ?_); unfold F_watermark_Check_l1 at hF)
    | (refine And.intro ⟨by kernel_rfl, by kernel_rfl⟩ ?_)
    | (refine EqX.mk (by first | rfl | kernel_rfl) ?_)
    | (exact RetX.o hF (by repeat' first | exact Sub.nil _ | exact Sub.refl _ | refine Sub.agg ?_ | refine Sub.tup ?_ | refine Sub.fn ?_ | exact SubL.nil | refine SubL.cons ?_ ?_ | refine Sub.sl _ ?_ | exact SubE.nil | refine SubE.cons ?_ ?_))

def R_tidegateref36_Source (r : Int) : AV := aI (r)
theorem con_tidegateref36_Source {n : Nat} {a0 : T_api_Message} {r : Int} (hF : F_tidegateref36_Source n a0 = some r) : Con E0 true 61 [.agg [aI (a0.fKind), aI (a0.fEvent.fSource), aI (a0.fEvent.fSeq), aI (a0.fEvent.fType), aI (a0.fEvent.fTime), .sl 3 (List.map e_api_Value (a0.fEvent.fValues)), aI (a0.fSource), aI (a0.fSeq), aI (a0.fTime)]] (R_tidegateref36_Source r) := by
  unfold F_tidegateref36_Source at hF
  refine Con.walk _ Tryz.func61 rfl (enters_of Tryz.func61 rfl rfl) rfl (Or.inr rfl) ?_
  repeat' first
    | (refine AW.step ?_; conv => whnf)
    | (refine CondX.o hF (fun hF => ?_) (fun hF => ?_))
    | (refine CondX.t ?_)
    | (refine CondX.f ?_)
    | (refine And.intro ⟨by kernel_rfl, by kernel_rfl⟩ ?_)
    | (refine EqX.mk (by first | rfl | kernel_rfl) ?_)
    | (exact RetX.o hF (by repeat' first | exact Sub.nil _ | exact Sub.refl _ | refine Sub.agg ?_ | refine Sub.tup ?_ | refine Sub.fn ?_ | exact SubL.nil | refine SubL.cons ?_ ?_ | refine Sub.sl _ ?_ | exact SubE.nil | refine SubE.cons ?_ ?_))

def S_tidegateref34_Contains_l1 (a1 : Int) (a0 : Trk) (v1_0 : Int) : AS := ⟨[(1, aI (a1)), (2, .ptr 2 0), (5, aI (v1_0))], [(2, .box 26 [aI (a0.next), .sl 1 (List.map aI (a0.beyond)), .sl 2 (List.map aPt (a0.points)), aI (a0.mark)])]⟩
theorem tidegateref34_Contains_l1_o {n N : Nat} {a1 : Int} {a0 : Trk} {k1_0_0 : Option (Bool)} {R : Exit → AS → Prop} {K : List KItem} {c : Code} {σ : AS} {v0 : Int} {r : Bool} (hF : F_tidegateref34_Contains_l1 n a1 a0 k1_0_0 N v0 = some r) (hl : LeX E0 26 σ (S_tidegateref34_Contains_l1 a1 a0 v0)) (round : ∀ m v, F_tidegateref34_Contains_l1 n a1 a0 k1_0_0 (m + 1) v = some r → AW E0 26 (thenA (fun σ' => ∃ v', F_tidegateref34_Contains_l1 n a1 a0 k1_0_0 m v' = some r ∧ LeX E0 26 σ' (S_tidegateref34_Contains_l1 a1 a0 v')) (AW E0 26 R K)) [.code c] .normal (S_tidegateref34_Contains_l1 a1 a0 v)) : LoopX E0 26 (fun next σ' => AW E0 26 (thenA next (AW E0 26 R K)) [.code c] .normal σ') σ :=
  LoopA.o (S := S_tidegateref34_Contains_l1 a1 a0) hF (fun _ => rfl) hl round
def R_tidegateref34_Contains (r : Bool) : AV := .bool (r)
theorem con_tidegateref34_Contains {n : Nat} {a0 : Trk} {a1 : Int} {r : Bool} (hF : F_tidegateref34_Contains n a0 a1 = some r) : Con E0 true 84 [.agg [aI (a0.next), .sl 1 (List.map aI (a0.beyond)), .sl 2 (List.map aPt (a0.points)), aI (a0.mark)], aI (a1)] (R_tidegateref34_Contains r) := by
  unfold F_tidegateref34_Contains at hF
  refine Con.walk _ Tryz.func84 rfl (enters_of Tryz.func84 rfl rfl) rfl (Or.inr rfl) ?_
  repeat' first
    | (refine AW.step ?_; conv => whnf)
    | (refine CondX.o hF (fun hF => ?_) (fun hF => ?_))
    | (refine CondX.t ?_)
    | (refine CondX.f ?_)
    | (refine IdxX.o aI hF (fun x hF => ?_))
    | (exact ⟨_, hF, LeX.of [] rfl ⟨⟨rfl, rfl⟩, ⟨rfl, rfl⟩, ⟨rfl, rfl⟩, trivial⟩ ⟨⟨rfl, rfl⟩, trivial⟩⟩)
    | (refine tidegateref34_Contains_l1_o hF (LeX.of [] rfl ⟨⟨rfl, rfl⟩, ⟨rfl, rfl⟩, ⟨rfl, rfl⟩, trivial⟩ ⟨⟨rfl, rfl⟩, trivial⟩) (fun m v hF => ?_); unfold F_tidegateref34_Contains_l1 at hF)
    | (refine And.intro ⟨by kernel_rfl, by kernel_rfl⟩ ?_)
    | (refine EqX.mk (by first | rfl | kernel_rfl) ?_)
    | (exact RetX.o hF (by repeat' first | exact Sub.nil _ | exact Sub.refl _ | refine Sub.agg ?_ | refine Sub.tup ?_ | refine Sub.fn ?_ | exact SubL.nil | refine SubL.cons ?_ ?_ | refine Sub.sl _ ?_ | exact SubE.nil | refine SubE.cons ?_ ?_))

def S_tidegateref34_Check_l1 (a0 : Trk) (v1_0 : Int × Int) : AS := ⟨[(1, .ptr 1 0), (3, aI (v1_0.1)), (4, aI (v1_0.2))], [(1, .box 26 [aI (a0.next), .sl 1 (List.map aI (a0.beyond)), .sl 2 (List.map aPt (a0.points)), aI (a0.mark)])]⟩
theorem tidegateref34_Check_l1_o {n N : Nat} {a0 : Trk} {k1_0_0 : Option (Int)} {R : Exit → AS → Prop} {K : List KItem} {c : Code} {σ : AS} {v0 : Int × Int} {r : Int} (hF : F_tidegateref34_Check_l1 n a0 k1_0_0 N v0 = some r) (hl : LeX E0 42 σ (S_tidegateref34_Check_l1 a0 v0)) (round : ∀ m v, F_tidegateref34_Check_l1 n a0 k1_0_0 (m + 1) v = some r → AW E0 42 (thenA (fun σ' => ∃ v', F_tidegateref34_Check_l1 n a0 k1_0_0 m v' = some r ∧ LeX E0 42 σ' (S_tidegateref34_Check_l1 a0 v')) (AW E0 42 R K)) [.code c] .normal (S_tidegateref34_Check_l1 a0 v)) : LoopX E0 42 (fun next σ' => AW E0 42 (thenA next (AW E0 42 R K)) [.code c] .normal σ') σ :=
  LoopA.o (S := S_tidegateref34_Check_l1 a0) hF (fun _ => rfl) hl round
def R_tidegateref34_Check (r : Int) : AV := aI (r)
theorem con_tidegateref34_Check {n : Nat} {a0 : Trk} {r : Int} (hF : F_tidegateref34_Check n a0 = some r) : Con E0 true 99 [.agg [aI (a0.next), .sl 1 (List.map aI (a0.beyond)), .sl 2 (List.map aPt (a0.points)), aI (a0.mark)]] (R_tidegateref34_Check r) := by
  unfold F_tidegateref34_Check at hF
  refine Con.walk _ Tryz.func99 rfl (enters_of Tryz.func99 rfl rfl) rfl (Or.inr rfl) ?_
  repeat' first
    | (refine AW.step ?_; conv => whnf)
    | (refine CondX.o hF (fun hF => ?_) (fun hF => ?_))
    | (refine CondX.t ?_)
    | (refine CondX.f ?_)
    | (refine IdxX.o aI hF (fun x hF => ?_))
    | (exact ⟨_, hF, LeX.of [] rfl ⟨⟨rfl, rfl⟩, ⟨rfl, rfl⟩, ⟨rfl, rfl⟩, trivial⟩ ⟨⟨rfl, rfl⟩, trivial⟩⟩)
    | (refine tidegateref34_Check_l1_o hF (LeX.of [] rfl ⟨⟨rfl, rfl⟩, ⟨rfl, rfl⟩, ⟨rfl, rfl⟩, trivial⟩ ⟨⟨rfl, rfl⟩, trivial⟩) (fun m v hF => ?_); unfold F_tidegateref34_Check_l1 at hF)
    | (refine And.intro ⟨by kernel_rfl, by kernel_rfl⟩ ?_)
    | (refine EqX.mk (by first | rfl | kernel_rfl) ?_)
    | (exact RetX.o hF (by repeat' first | exact Sub.nil _ | exact Sub.refl _ | refine Sub.agg ?_ | refine Sub.tup ?_ | refine Sub.fn ?_ | exact SubL.nil | refine SubL.cons ?_ ?_ | refine Sub.sl _ ?_ | exact SubE.nil | refine SubE.cons ?_ ?_))

def S_tidegateref34_With_l2 (a0 : Trk) (v2_1 : (List Int) × Int) : AS := ⟨[(4, .ptr 4 0), (5, .sl 1 (List.map aI (v2_1.1))), (8, .ptr 8 0)], [(4, .box 26 [aI (0), .nils, .nils, aI (0)]), (8, .box 26 [aI (v2_1.2), .sl 1 (List.map aI (a0.beyond)), .sl 2 (List.map aPt (a0.points)), aI (a0.mark)])]⟩
theorem tidegateref34_With_l2_o {n N : Nat} {a0 : Trk} {k2_1_0 : (List Int) → Int → Option (Trk)} {R : Exit → AS → Prop} {K : List KItem} {c : Code} {σ : AS} {v0 : (List Int) × Int} {r : Trk} (hF : F_tidegateref34_With_l2 n a0 k2_1_0 N v0 = some r) (hl : LeX E0 70 σ (S_tidegateref34_With_l2 a0 v0)) (round : ∀ m v, F_tidegateref34_With_l2 n a0 k2_1_0 (m + 1) v = some r → AW E0 70 (thenA (fun σ' => ∃ v', F_tidegateref34_With_l2 n a0 k2_1_0 m v' = some r ∧ LeX E0 70 σ' (S_tidegateref34_With_l2 a0 v')) (AW E0 70 R K)) [.code c] .normal (S_tidegateref34_With_l2 a0 v)) : LoopX E0 70 (fun next σ' => AW E0 70 (thenA next (AW E0 70 R K)) [.code c] .normal σ') σ :=
  LoopA.o (S := S_tidegateref34_With_l2 a0) hF (fun _ => rfl) hl round
def S_tidegateref34_With_l3 (a0 : Trk) (v3_2 : (List Int) × Int) : AS := ⟨[(4, .ptr 4 0), (5, .sl 1 (List.map aI (v3_2.1))), (8, .ptr 8 0)], [(4, .box 26 [aI (0), .nils, .nils, aI (0)]), (8, .box 26 [aI (v3_2.2), .sl 1 (List.map aI (a0.beyond)), .sl 2 (List.map aPt (a0.points)), aI (a0.mark)])]⟩
theorem tidegateref34_With_l3_o {n N : Nat} {a0 : Trk} {k3_2_0 : (List Int) → Int → Option (Trk)} {R : Exit → AS → Prop} {K : List KItem} {c : Code} {σ : AS} {v0 : (List Int) × Int} {r : Trk} (hF : F_tidegateref34_With_l3 n a0 k3_2_0 N v0 = some r) (hl : LeX E0 70 σ (S_tidegateref34_With_l3 a0 v0)) (round : ∀ m v, F_tidegateref34_With_l3 n a0 k3_2_0 (m + 1) v = some r → AW E0 70 (thenA (fun σ' => ∃ v', F_tidegateref34_With_l3 n a0 k3_2_0 m v' = some r ∧ LeX E0 70 σ' (S_tidegateref34_With_l3 a0 v')) (AW E0 70 R K)) [.code c] .normal (S_tidegateref34_With_l3 a0 v)) : LoopX E0 70 (fun next σ' => AW E0 70 (thenA next (AW E0 70 R K)) [.code c] .normal σ') σ :=
  LoopA.o (S := S_tidegateref34_With_l3 a0) hF (fun _ => rfl) hl round
def S_tidegateref34_With_l1 (a1 : Int) (a0 : Trk) (v1_0 : Bool × Int × (List Int)) : AS := ⟨[(1, aI (a1)), (2, .ptr 2 0), (4, .ptr 4 0), (5, .row 7042), (6, .bool (v1_0.1)), (7, aI (v1_0.2.1))], [(2, .box 26 [aI (a0.next), .sl 1 (List.map aI (a0.beyond)), .sl 2 (List.map aPt (a0.points)), aI (a0.mark)]), (4, .box 26 [aI (0), .nils, .nils, aI (0)]), (7042, .row 3 1 (List.map aI (v1_0.2.2)))]⟩
theorem tidegateref34_With_l1_o {n N : Nat} {a1 : Int} {a0 : Trk} {k1_0_0 : Bool → (List Int) → Option (Trk)} {R : Exit → AS → Prop} {K : List KItem} {c : Code} {σ : AS} {v0 : Bool × Int × (List Int)} {r : Trk} (hF : F_tidegateref34_With_l1 n a1 a0 k1_0_0 N v0 = some r) (hl : LeX E0 70 σ (S_tidegateref34_With_l1 a1 a0 v0)) (round : ∀ m v, F_tidegateref34_With_l1 n a1 a0 k1_0_0 (m + 1) v = some r → AW E0 70 (thenA (fun σ' => ∃ v', F_tidegateref34_With_l1 n a1 a0 k1_0_0 m v' = some r ∧ LeX E0 70 σ' (S_tidegateref34_With_l1 a1 a0 v')) (AW E0 70 R K)) [.code c] .normal (S_tidegateref34_With_l1 a1 a0 v)) : LoopX E0 70 (fun next σ' => AW E0 70 (thenA next (AW E0 70 R K)) [.code c] .normal σ') σ :=
  LoopA.o (S := S_tidegateref34_With_l1 a1 a0) hF (fun _ => rfl) hl round
def R_tidegateref34_With (r : Trk) : AV := .agg [aI (r.next), .sl 1 (List.map aI (r.beyond)), .sl 2 (List.map aPt (r.points)), aI (r.mark)]
theorem con_tidegateref34_With {n : Nat} {a0 : Trk} {a1 : Int} {r : Trk} (hF : F_tidegateref34_With n a0 a1 = some r) : Con E0 false 104 [.agg [aI (a0.next), .sl 1 (List.map aI (a0.beyond)), .sl 2 (List.map aPt (a0.points)), aI (a0.mark)], aI (a1)] (R_tidegateref34_With r) := by
  unfold F_tidegateref34_With at hF
  refine Con.walk _ Tryz.func104 rfl (enters_of Tryz.func104 rfl rfl) rfl (Or.inl rfl) ?_
  repeat' first
    | (refine AW.regO hF (fun hF => ?_))
    | (refine AW.frzO hF 48 rfl (fun hF => ?_))
    | (refine AW.frzO hF 7042 rfl (fun hF => ?_))
    | (refine AW.stepU [16] ?_; conv => whnf)
    | (refine CondX.o hF (fun hF => ?_) (fun hF => ?_))
    | (refine CondX.t ?_)
    | (refine CondX.f ?_)
    | (refine CallX.o hF R_tidegateref34_Contains (fun a h => con_tidegateref34_Contains h) (fun a hF => ?_))
    | (refine AppX.o aI hF (by first | exact SubR.refl _ | (repeat' first | exact SubR.nil | refine SubR.cons ?_ ?_ | exact SubL.nil | refine SubL.cons ?_ ?_ | exact Sub.refl _ | exact Sub.nil _)) (fun l hF => ?_))
    | (refine IdxX.o aI hF (fun x hF => ?_))
    | (refine SlsX.o aI hF (fun l hF => ?_))
    | (exact ⟨_, hF, LeX.of [] rfl ⟨⟨rfl, rfl⟩, ⟨rfl, rfl⟩, ⟨rfl, rfl⟩, trivial⟩ ⟨⟨rfl, rfl⟩, ⟨rfl, rfl⟩, trivial⟩⟩)
    | (refine tidegateref34_With_l2_o hF (LeX.trans (LeX.frzAll 48 3 1 _ rfl) (LeX.of [] rfl ⟨⟨rfl, rfl⟩, ⟨rfl, rfl⟩, ⟨rfl, rfl⟩, trivial⟩ ⟨⟨rfl, rfl⟩, ⟨rfl, rfl⟩, trivial⟩)) (fun m v hF => ?_); unfold F_tidegateref34_With_l2 at hF)
    | (refine tidegateref34_With_l3_o hF (LeX.trans (LeX.frzAll 7042 3 1 _ rfl) (LeX.of [] rfl ⟨⟨rfl, rfl⟩, ⟨rfl, rfl⟩, ⟨rfl, rfl⟩, trivial⟩ ⟨⟨rfl, rfl⟩, ⟨rfl, rfl⟩, trivial⟩)) (fun m v hF => ?_); unfold F_tidegateref34_With_l3 at hF)
    | (exact ⟨_, hF, LeX.of [(7042, 42)] rfl ⟨⟨rfl, rfl⟩, ⟨rfl, rfl⟩, ⟨rfl, rfl⟩, ⟨rfl, rfl⟩, ⟨rfl, rfl⟩, ⟨rfl, rfl⟩, trivial⟩ ⟨⟨rfl, rfl⟩, ⟨rfl, rfl⟩, ⟨rfl, rfl⟩, trivial⟩⟩)
    | (refine tidegateref34_With_l1_o hF (LeX.trans (LeX.adopt 5 7042 3 1 rfl rfl) (LeX.of [] rfl ⟨⟨rfl, rfl⟩, ⟨rfl, rfl⟩, ⟨rfl, rfl⟩, ⟨rfl, rfl⟩, ⟨rfl, rfl⟩, ⟨rfl, rfl⟩, trivial⟩ ⟨⟨rfl, rfl⟩, ⟨rfl, rfl⟩, ⟨rfl, rfl⟩, trivial⟩)) (fun m v hF => ?_); unfold F_tidegateref34_With_l1 at hF)
    | (refine And.intro ⟨by kernel_rfl, by kernel_rfl⟩ ?_)
    | (refine EqX.mk (by first | rfl | kernel_rfl) ?_)
    | (exact RetX.o hF (by repeat' first | exact Sub.nil _ | exact Sub.refl _ | refine Sub.agg ?_ | refine Sub.tup ?_ | refine Sub.fn ?_ | exact SubL.nil | refine SubL.cons ?_ ?_ | refine Sub.sl _ ?_ | exact SubE.nil | refine SubE.cons ?_ ?_))

def R_tidegateref34_Receive (r : Trk × Bool × Int) : AV := .tup [.agg [aI (r.1.next), .sl 1 (List.map aI (r.1.beyond)), .sl 2 (List.map aPt (r.1.points)), aI (r.1.mark)], .bool (r.2.1), aI (r.2.2)]
theorem con_tidegateref34_Receive {n : Nat} {a0 : Trk} {a1 : Int} {r : Trk × Bool × Int} (hF : F_tidegateref34_Receive n a0 a1 = some r) : Con E0 false 86 [.agg [aI (a0.next), .sl 1 (List.map aI (a0.beyond)), .sl 2 (List.map aPt (a0.points)), aI (a0.mark)], aI (a1)] (R_tidegateref34_Receive r) := by
  unfold F_tidegateref34_Receive at hF
  refine Con.walk _ Tryz.func86 rfl (enters_of Tryz.func86 rfl rfl) rfl (Or.inl rfl) ?_
  repeat' first
    | (refine AW.step ?_; conv => whnf)
    | (refine CondX.o hF (fun hF => ?_) (fun hF => ?_))
    | (refine CondX.t ?_)
    | (refine CondX.f ?_)
    | (refine CallX.o hF R_tidegateref34_Check (fun a h => con_tidegateref34_Check h) (fun a hF => ?_))
    | (refine CallX.o hF R_tidegateref34_Contains (fun a h => con_tidegateref34_Contains h) (fun a hF => ?_))
    | (refine CallX.o hF R_tidegateref34_With (fun a h => con_tidegateref34_With h) (fun a hF => ?_))
    | (refine And.intro ⟨by kernel_rfl, by kernel_rfl⟩ ?_)
    | (refine EqX.mk (by first | rfl | kernel_rfl) ?_)
    | (exact RetX.o hF (by repeat' first | exact Sub.nil _ | exact Sub.refl _ | refine Sub.agg ?_ | refine Sub.tup ?_ | refine Sub.fn ?_ | exact SubL.nil | refine SubL.cons ?_ ?_ | refine Sub.sl _ ?_ | exact SubE.nil | refine SubE.cons ?_ ?_))

def S_tidegateref35_Settled_l2 (a0 : Trk) (k1_0_0y : Int) (v2_1 : Int × (List Pt)) : AS := ⟨[(1, .ptr 1 0), (2, .ptr 2 0), (3, .ptr 3 0), (5, aI (v2_1.1))], [(1, .box 26 [aI (a0.next), .sl 1 (List.map aI (a0.beyond)), .sl 2 (List.map aPt (a0.points)), aI (a0.mark)]), (2, .box 26 [aI (0), .nils, .nils, aI (0)]), (3, .box 26 [aI (a0.next), .sl 1 (List.map aI (a0.beyond)), .row 7069, aI (k1_0_0y)]), (7069, .row 116 2 (List.map aPt (v2_1.2)))]⟩
theorem tidegateref35_Settled_l2_o {n N : Nat} {a0 : Trk} {k1_0_0y : Int} {k2_1_0 : (List Pt) → Option (Trk)} {R : Exit → AS → Prop} {K : List KItem} {c : Code} {σ : AS} {v0 : Int × (List Pt)} {r : Trk} (hF : F_tidegateref35_Settled_l2 n a0 k1_0_0y k2_1_0 N v0 = some r) (hl : LeX E0 72 σ (S_tidegateref35_Settled_l2 a0 k1_0_0y v0)) (round : ∀ m v, F_tidegateref35_Settled_l2 n a0 k1_0_0y k2_1_0 (m + 1) v = some r → AW E0 72 (thenA (fun σ' => ∃ v', F_tidegateref35_Settled_l2 n a0 k1_0_0y k2_1_0 m v' = some r ∧ LeX E0 72 σ' (S_tidegateref35_Settled_l2 a0 k1_0_0y v')) (AW E0 72 R K)) [.code c] .normal (S_tidegateref35_Settled_l2 a0 k1_0_0y v)) : LoopX E0 72 (fun next σ' => AW E0 72 (thenA next (AW E0 72 R K)) [.code c] .normal σ') σ :=
  LoopA.o (S := S_tidegateref35_Settled_l2 a0 k1_0_0y) hF (fun _ => rfl) hl round
def S_tidegateref35_Settled_l1 (a0 : Trk) (v1_0 : Int × Int) : AS := ⟨[(1, .ptr 1 0), (2, .ptr 2 0), (3, .ptr 3 0), (4, aI (v1_0.1))], [(1, .box 26 [aI (a0.next), .sl 1 (List.map aI (a0.beyond)), .sl 2 (List.map aPt (a0.points)), aI (a0.mark)]), (2, .box 26 [aI (0), .nils, .nils, aI (0)]), (3, .box 26 [aI (a0.next), .sl 1 (List.map aI (a0.beyond)), .nils, aI (v1_0.2)])]⟩
theorem tidegateref35_Settled_l1_o {n N : Nat} {a0 : Trk} {k1_0_0 : Int → Option (Trk)} {R : Exit → AS → Prop} {K : List KItem} {c : Code} {σ : AS} {v0 : Int × Int} {r : Trk} (hF : F_tidegateref35_Settled_l1 n a0 k1_0_0 N v0 = some r) (hl : LeX E0 72 σ (S_tidegateref35_Settled_l1 a0 v0)) (round : ∀ m v, F_tidegateref35_Settled_l1 n a0 k1_0_0 (m + 1) v = some r → AW E0 72 (thenA (fun σ' => ∃ v', F_tidegateref35_Settled_l1 n a0 k1_0_0 m v' = some r ∧ LeX E0 72 σ' (S_tidegateref35_Settled_l1 a0 v')) (AW E0 72 R K)) [.code c] .normal (S_tidegateref35_Settled_l1 a0 v)) : LoopX E0 72 (fun next σ' => AW E0 72 (thenA next (AW E0 72 R K)) [.code c] .normal σ') σ :=
  LoopA.o (S := S_tidegateref35_Settled_l1 a0) hF (fun _ => rfl) hl round
def R_tidegateref35_Settled (r : Trk) : AV := .agg [aI (r.next), .sl 1 (List.map aI (r.beyond)), .sl 2 (List.map aPt (r.points)), aI (r.mark)]
theorem con_tidegateref35_Settled {n : Nat} {a0 : Trk} {r : Trk} (hF : F_tidegateref35_Settled n a0 = some r) : Con E0 false 87 [.agg [aI (a0.next), .sl 1 (List.map aI (a0.beyond)), .sl 2 (List.map aPt (a0.points)), aI (a0.mark)]] (R_tidegateref35_Settled r) := by
  unfold F_tidegateref35_Settled at hF
  refine Con.walk _ Tryz.func87 rfl (enters_of Tryz.func87 rfl rfl) rfl (Or.inl rfl) ?_
  repeat' first
    | (refine AW.step ?_; conv => whnf)
    | (refine CondX.o hF (fun hF => ?_) (fun hF => ?_))
    | (refine CondX.t ?_)
    | (refine CondX.f ?_)
    | (refine IdxX.o aPt hF (fun x hF => ?_))
    | (refine AppX.o aPt hF (by first | exact SubR.refl _ | (repeat' first | exact SubR.nil | refine SubR.cons ?_ ?_ | exact SubL.nil | refine SubL.cons ?_ ?_ | exact Sub.refl _ | exact Sub.nil _)) (fun l hF => ?_))
    | (exact ⟨_, hF, LeX.of [(7069, 69)] rfl ⟨⟨rfl, rfl⟩, ⟨rfl, rfl⟩, ⟨rfl, rfl⟩, ⟨rfl, rfl⟩, trivial⟩ ⟨⟨rfl, rfl⟩, ⟨rfl, rfl⟩, ⟨rfl, rfl⟩, ⟨rfl, rfl⟩, trivial⟩⟩)
    | (exact ⟨_, hF, LeX.of [] rfl ⟨⟨rfl, rfl⟩, ⟨rfl, rfl⟩, ⟨rfl, rfl⟩, ⟨rfl, rfl⟩, trivial⟩ ⟨⟨rfl, rfl⟩, ⟨rfl, rfl⟩, ⟨rfl, rfl⟩, ⟨rfl, rfl⟩, trivial⟩⟩)
    | (refine tidegateref35_Settled_l2_o hF (LeX.trans (LeX.adoptC 3 2 7069 116 2 26 _ rfl rfl rfl) (LeX.of [] rfl ⟨⟨rfl, rfl⟩, ⟨rfl, rfl⟩, ⟨rfl, rfl⟩, ⟨rfl, rfl⟩, trivial⟩ ⟨⟨rfl, rfl⟩, ⟨rfl, rfl⟩, ⟨rfl, rfl⟩, ⟨rfl, rfl⟩, trivial⟩)) (fun m v hF => ?_); unfold F_tidegateref35_Settled_l2 at hF)
    | (exact ⟨_, hF, LeX.of [] rfl ⟨⟨rfl, rfl⟩, ⟨rfl, rfl⟩, ⟨rfl, rfl⟩, ⟨rfl, rfl⟩, trivial⟩ ⟨⟨rfl, rfl⟩, ⟨rfl, rfl⟩, ⟨rfl, rfl⟩, trivial⟩⟩)
    | (refine tidegateref35_Settled_l1_o hF (LeX.of [] rfl ⟨⟨rfl, rfl⟩, ⟨rfl, rfl⟩, ⟨rfl, rfl⟩, ⟨rfl, rfl⟩, trivial⟩ ⟨⟨rfl, rfl⟩, ⟨rfl, rfl⟩, ⟨rfl, rfl⟩, trivial⟩) (fun m v hF => ?_); unfold F_tidegateref35_Settled_l1 at hF)
    | (refine And.intro ⟨by kernel_rfl, by kernel_rfl⟩ ?_)
    | (refine EqX.mk (by first | rfl | kernel_rfl) ?_)
    | (exact RetX.o hF (by repeat' first | exact Sub.nil _ | exact Sub.refl _ | refine Sub.agg ?_ | refine Sub.tup ?_ | refine Sub.fn ?_ | exact SubL.nil | refine SubL.cons ?_ ?_ | refine Sub.sl _ ?_ | exact SubE.nil | refine SubE.cons ?_ ?_))

def R_tidegateref36_Note (r : Trk × Bool × Int) : AV := .tup [.agg [aI (r.1.next), .sl 1 (List.map aI (r.1.beyond)), .sl 2 (List.map aPt (r.1.points)), aI (r.1.mark)], .bool (r.2.1), aI (r.2.2)]
theorem con_tidegateref36_Note {n : Nat} {a0 : Trk} {a1 : T_api_Message} {r : Trk × Bool × Int} (hF : F_tidegateref36_Note n a0 a1 = some r) : Con E0 false 62 [.agg [aI (a0.next), .sl 1 (List.map aI (a0.beyond)), .sl 2 (List.map aPt (a0.points)), aI (a0.mark)], .agg [aI (a1.fKind), aI (a1.fEvent.fSource), aI (a1.fEvent.fSeq), aI (a1.fEvent.fType), aI (a1.fEvent.fTime), .sl 3 (List.map e_api_Value (a1.fEvent.fValues)), aI (a1.fSource), aI (a1.fSeq), aI (a1.fTime)]] (R_tidegateref36_Note r) := by
  unfold F_tidegateref36_Note at hF
  refine Con.walk _ Tryz.func62 rfl (enters_of Tryz.func62 rfl rfl) rfl (Or.inl rfl) ?_
  repeat' first
    | (refine AW.step ?_; conv => whnf)
    | (refine CondX.o hF (fun hF => ?_) (fun hF => ?_))
    | (refine CondX.t ?_)
    | (refine CondX.f ?_)
    | (refine CallX.o hF R_puAdd (fun a h => con_rpuAdd h) (fun a hF => ?_))
    | (refine CallX.o hF R_tidegateref34_Contains (fun a h => con_tidegateref34_Contains h) (fun a hF => ?_))
    | (refine CallX.o hF R_puAllows (fun a h => con_rpuAllows h) (fun a hF => ?_))
    | (refine CallX.o hF R_tidegateref34_Receive (fun a h => con_tidegateref34_Receive h) (fun a hF => ?_))
    | (refine CallX.o hF R_tidegateref35_Settled (fun a h => con_tidegateref35_Settled h) (fun a hF => ?_))
    | (refine And.intro ⟨by kernel_rfl, by kernel_rfl⟩ ?_)
    | (refine EqX.mk (by first | rfl | kernel_rfl) ?_)
    | (exact RetX.o hF (by repeat' first | exact Sub.nil _ | exact Sub.refl _ | refine Sub.agg ?_ | refine Sub.tup ?_ | refine Sub.fn ?_ | exact SubL.nil | refine SubL.cons ?_ ?_ | refine Sub.sl _ ?_ | exact SubE.nil | refine SubE.cons ?_ ?_))

def R_watermark_kinds_1 (r : Int) : AV := aI (r)
theorem con_watermark_kinds_1 {n : Nat} {a0 : T_api_Message} {r : Int} (hF : F_watermark_kinds_1 n a0 = some r) : Con E0 true 114 [.agg [aI (a0.fKind), aI (a0.fEvent.fSource), aI (a0.fEvent.fSeq), aI (a0.fEvent.fType), aI (a0.fEvent.fTime), .sl 3 (List.map e_api_Value (a0.fEvent.fValues)), aI (a0.fSource), aI (a0.fSeq), aI (a0.fTime)]] (R_watermark_kinds_1 r) := by
  unfold F_watermark_kinds_1 at hF
  refine Con.walk _ Tryz.func114 rfl (enters_of Tryz.func114 rfl rfl) rfl (Or.inr rfl) ?_
  repeat' first
    | (refine AW.step ?_; conv => whnf)
    | (refine CondX.o hF (fun hF => ?_) (fun hF => ?_))
    | (refine CondX.t ?_)
    | (refine CondX.f ?_)
    | (refine And.intro ⟨by kernel_rfl, by kernel_rfl⟩ ?_)
    | (refine EqX.mk (by first | rfl | kernel_rfl) ?_)
    | (exact RetX.o hF (by repeat' first | exact Sub.nil _ | exact Sub.refl _ | refine Sub.agg ?_ | refine Sub.tup ?_ | refine Sub.fn ?_ | exact SubL.nil | refine SubL.cons ?_ ?_ | refine Sub.sl _ ?_ | exact SubE.nil | refine SubE.cons ?_ ?_))

def S_sequence_Check_l1 (a0 : Trk) (v1_0 : Int × Int) : AS := ⟨[(3, aI (v1_0.1)), (23, .sl 1 (List.map aI (a0.beyond))), (24, aI ((((List.map aI (a0.beyond)).length : Nat) : Int))), (25, aI (v1_0.2))], []⟩
theorem sequence_Check_l1_o {n N : Nat} {a0 : Trk} {k1_0_0 : Option (Int)} {R : Exit → AS → Prop} {K : List KItem} {c : Code} {σ : AS} {v0 : Int × Int} {r : Int} (hF : F_sequence_Check_l1 n a0 k1_0_0 N v0 = some r) (hl : LeX E0 42 σ (S_sequence_Check_l1 a0 v0)) (round : ∀ m v, F_sequence_Check_l1 n a0 k1_0_0 (m + 1) v = some r → AW E0 42 (thenA (fun σ' => ∃ v', F_sequence_Check_l1 n a0 k1_0_0 m v' = some r ∧ LeX E0 42 σ' (S_sequence_Check_l1 a0 v')) (AW E0 42 R K)) [.code c] .normal (S_sequence_Check_l1 a0 v)) : LoopX E0 42 (fun next σ' => AW E0 42 (thenA next (AW E0 42 R K)) [.code c] .normal σ') σ :=
  LoopA.o (S := S_sequence_Check_l1 a0) hF (fun _ => rfl) hl round
def R_sequence_Check (r : Int) : AV := aI (r)
theorem con_sequence_Check {n : Nat} {a0 : Trk} {r : Int} (hF : F_sequence_Check n a0 = some r) : Con E0 true 97 [.agg [aI (a0.next), .sl 1 (List.map aI (a0.beyond)), .sl 2 (List.map aPt (a0.points)), aI (a0.mark)]] (R_sequence_Check r) := by
  unfold F_sequence_Check at hF
  refine Con.walk _ Tryz.func97 rfl (enters_of Tryz.func97 rfl rfl) rfl (Or.inr rfl) ?_
  repeat' first
    | (refine AW.step ?_; conv => whnf)
    | (refine CondX.o hF (fun hF => ?_) (fun hF => ?_))
    | (refine CondX.t ?_)
    | (refine CondX.f ?_)
    | (refine IdxX.o aI hF (fun x hF => ?_))
    | (exact ⟨_, hF, LeX.of [] rfl ⟨⟨rfl, rfl⟩, ⟨rfl, rfl⟩, ⟨rfl, rfl⟩, ⟨rfl, rfl⟩, trivial⟩ trivial⟩)
    | (refine sequence_Check_l1_o hF (LeX.of [] rfl ⟨⟨rfl, rfl⟩, ⟨rfl, rfl⟩, ⟨rfl, rfl⟩, ⟨rfl, rfl⟩, trivial⟩ trivial) (fun m v hF => ?_); unfold F_sequence_Check_l1 at hF)
    | (refine And.intro ⟨by kernel_rfl, by kernel_rfl⟩ ?_)
    | (refine EqX.mk (by first | rfl | kernel_rfl) ?_)
    | (exact RetX.o hF (by repeat' first | exact Sub.nil _ | exact Sub.refl _ | refine Sub.agg ?_ | refine Sub.tup ?_ | refine Sub.fn ?_ | exact SubL.nil | refine SubL.cons ?_ ?_ | refine Sub.sl _ ?_ | exact SubE.nil | refine SubE.cons ?_ ?_))

def R_sequence_place_1 (r : Bool) : AV := .bool (r)
theorem con_sequence_place_1 {n : Nat} {a0 : Int} {a1 : (List Int)} {a2 : Int} {r : Bool} (hF : F_sequence_place_1 n a0 a1 a2 = some r) : Con E0 true 149 [aI (a0), .ref [.sl 1 (List.map aI (a1))], .ref [aI (a2)]] (R_sequence_place_1 r) := by
  unfold F_sequence_place_1 at hF
  refine Con.walk _ Tryz.func149 rfl (enters_of Tryz.func149 rfl rfl) rfl (Or.inr rfl) ?_
  repeat' first
    | (refine AW.step ?_; conv => whnf)
    | (refine CondX.o hF (fun hF => ?_) (fun hF => ?_))
    | (refine CondX.t ?_)
    | (refine CondX.f ?_)
    | (refine IdxX.o aI hF (fun x hF => ?_))
    | (refine And.intro ⟨by kernel_rfl, by kernel_rfl⟩ ?_)
    | (refine EqX.mk (by first | rfl | kernel_rfl) ?_)
    | (exact RetX.o hF (by repeat' first | exact Sub.nil _ | exact Sub.refl _ | refine Sub.agg ?_ | refine Sub.tup ?_ | refine Sub.fn ?_ | exact SubL.nil | refine SubL.cons ?_ ?_ | refine Sub.sl _ ?_ | exact SubE.nil | refine SubE.cons ?_ ?_))

def S_sort_Search_l1 (a1c1 : Int) (a1c0 : (List Int)) (v1_0 : Int × Int) : AS := ⟨[(1, .fn 149 [.ref [.sl 1 (List.map aI (a1c0))], .ref [aI (a1c1)]]), (5, aI (v1_0.1)), (6, aI (v1_0.2))], []⟩
theorem sort_Search_l1_o {n N : Nat} {a1c1 : Int} {a1c0 : (List Int)} {k1_0_0 : Int → Option (Int)} {R : Exit → AS → Prop} {K : List KItem} {c : Code} {σ : AS} {v0 : Int × Int} {r : Int} (hF : F_sort_Search_l1 n a1c1 a1c0 k1_0_0 N v0 = some r) (hl : LeX E0 26 σ (S_sort_Search_l1 a1c1 a1c0 v0)) (round : ∀ m v, F_sort_Search_l1 n a1c1 a1c0 k1_0_0 (m + 1) v = some r → AW E0 26 (thenA (fun σ' => ∃ v', F_sort_Search_l1 n a1c1 a1c0 k1_0_0 m v' = some r ∧ LeX E0 26 σ' (S_sort_Search_l1 a1c1 a1c0 v')) (AW E0 26 R K)) [.code c] .normal (S_sort_Search_l1 a1c1 a1c0 v)) : LoopX E0 26 (fun next σ' => AW E0 26 (thenA next (AW E0 26 R K)) [.code c] .normal σ') σ :=
  LoopA.o (S := S_sort_Search_l1 a1c1 a1c0) hF (fun _ => rfl) hl round
def R_sort_Search (r : Int) : AV := aI (r)
theorem con_sort_Search {n : Nat} {a0 : Int} {a1c0 : (List Int)} {a1c1 : Int} {r : Int} (hF : F_sort_Search n a0 a1c0 a1c1 = some r) : Con E0 true 148 [aI (a0), .fn 149 [.ref [.sl 1 (List.map aI (a1c0))], .ref [aI (a1c1)]]] (R_sort_Search r) := by
  unfold F_sort_Search at hF
  refine Con.walk _ Tryz.func148 rfl (enters_of Tryz.func148 rfl rfl) rfl (Or.inr rfl) ?_
  repeat' first
    | (refine AW.step ?_; conv => whnf)
    | (refine CondX.o hF (fun hF => ?_) (fun hF => ?_))
    | (refine CondX.t ?_)
    | (refine CondX.f ?_)
    | (refine CallX.o hF R_sequence_place_1 (fun a h => con_sequence_place_1 h) (fun a hF => ?_))
    | (exact ⟨_, hF, LeX.of [] rfl ⟨⟨rfl, rfl⟩, ⟨rfl, rfl⟩, ⟨rfl, rfl⟩, trivial⟩ trivial⟩)
    | (refine ShX.o hF (fun hF => ?_))
    | (refine sort_Search_l1_o hF (LeX.of [] rfl ⟨⟨rfl, rfl⟩, ⟨rfl, rfl⟩, ⟨rfl, rfl⟩, trivial⟩ trivial) (fun m v hF => ?_); unfold F_sort_Search_l1 at hF)
    | (refine And.intro ⟨by kernel_rfl, by kernel_rfl⟩ ?_)
    | (refine EqX.mk (by first | rfl | kernel_rfl) ?_)
    | (exact RetX.o hF (by repeat' first | exact Sub.nil _ | exact Sub.refl _ | refine Sub.agg ?_ | refine Sub.tup ?_ | refine Sub.fn ?_ | exact SubL.nil | refine SubL.cons ?_ ?_ | refine Sub.sl _ ?_ | exact SubE.nil | refine SubE.cons ?_ ?_))

def R_sequence_place (r : Int) : AV := aI (r)
theorem con_sequence_place {n : Nat} {a0 : (List Int)} {a1 : Int} {r : Int} (hF : F_sequence_place n a0 a1 = some r) : Con E0 true 141 [.sl 1 (List.map aI (a0)), aI (a1)] (R_sequence_place r) := by
  unfold F_sequence_place at hF
  refine Con.walk _ Tryz.func141 rfl (enters_of Tryz.func141 rfl rfl) rfl (Or.inr rfl) ?_
  repeat' first
    | (refine AW.step ?_; conv => whnf)
    | (refine CondX.o hF (fun hF => ?_) (fun hF => ?_))
    | (refine CondX.t ?_)
    | (refine CondX.f ?_)
    | (refine CallC.o hF R_sort_Search (fun a h => con_sort_Search h) (fun _ => Or.inr rfl) (fun a hF => ?_))
    | (refine And.intro ⟨by kernel_rfl, by kernel_rfl⟩ ?_)
    | (refine EqX.mk (by first | rfl | kernel_rfl) ?_)
    | (exact RetX.o hF (by repeat' first | exact Sub.nil _ | exact Sub.refl _ | refine Sub.agg ?_ | refine Sub.tup ?_ | refine Sub.fn ?_ | exact SubL.nil | refine SubL.cons ?_ ?_ | refine Sub.sl _ ?_ | exact SubE.nil | refine SubE.cons ?_ ?_))

def R_sequence_has (r : Bool) : AV := .bool (r)
theorem con_sequence_has {n : Nat} {a0 : Trk} {a1 : Int} {r : Bool} (hF : F_sequence_has n a0 a1 = some r) : Con E0 true 127 [.agg [aI (a0.next), .sl 1 (List.map aI (a0.beyond)), .sl 2 (List.map aPt (a0.points)), aI (a0.mark)], aI (a1)] (R_sequence_has r) := by
  unfold F_sequence_has at hF
  refine Con.walk _ Tryz.func127 rfl (enters_of Tryz.func127 rfl rfl) rfl (Or.inr rfl) ?_
  repeat' first
    | (refine AW.step ?_; conv => whnf)
    | (refine CondX.o hF (fun hF => ?_) (fun hF => ?_))
    | (refine CondX.t ?_)
    | (refine CondX.f ?_)
    | (refine CallX.o hF R_sequence_place (fun a h => con_sequence_place h) (fun a hF => ?_))
    | (refine IdxX.o aI hF (fun x hF => ?_))
    | (refine And.intro ⟨by kernel_rfl, by kernel_rfl⟩ ?_)
    | (refine EqX.mk (by first | rfl | kernel_rfl) ?_)
    | (exact RetX.o hF (by repeat' first | exact Sub.nil _ | exact Sub.refl _ | refine Sub.agg ?_ | refine Sub.tup ?_ | refine Sub.fn ?_ | exact SubL.nil | refine SubL.cons ?_ ?_ | refine Sub.sl _ ?_ | exact SubE.nil | refine SubE.cons ?_ ?_))

def R_sequence_Has (r : Bool × Int) : AV := .tup [.bool (r.1), aI (r.2)]
theorem con_sequence_Has {n : Nat} {a0 : Trk} {a1 : Int} {r : Bool × Int} (hF : F_sequence_Has n a0 a1 = some r) : Con E0 true 121 [.agg [aI (a0.next), .sl 1 (List.map aI (a0.beyond)), .sl 2 (List.map aPt (a0.points)), aI (a0.mark)], aI (a1)] (R_sequence_Has r) := by
  unfold F_sequence_Has at hF
  refine Con.walk _ Tryz.func121 rfl (enters_of Tryz.func121 rfl rfl) rfl (Or.inr rfl) ?_
  repeat' first
    | (refine AW.step ?_; conv => whnf)
    | (refine CondX.o hF (fun hF => ?_) (fun hF => ?_))
    | (refine CondX.t ?_)
    | (refine CondX.f ?_)
    | (refine CallX.o hF R_sequence_Check (fun a h => con_sequence_Check h) (fun a hF => ?_))
    | (refine CallX.o hF R_sequence_has (fun a h => con_sequence_has h) (fun a hF => ?_))
    | (refine And.intro ⟨by kernel_rfl, by kernel_rfl⟩ ?_)
    | (refine EqX.mk (by first | rfl | kernel_rfl) ?_)
    | (exact RetX.o hF (by repeat' first | exact Sub.nil _ | exact Sub.refl _ | refine Sub.agg ?_ | refine Sub.tup ?_ | refine Sub.fn ?_ | exact SubL.nil | refine SubL.cons ?_ ?_ | refine Sub.sl _ ?_ | exact SubE.nil | refine SubE.cons ?_ ?_))

set_option maxHeartbeats 400000 in
theorem clone56_any (l : List (Cel 1)) (S : Nat → Prop) (v : Value) (w : World) (h : Sl w S 1 encC v l) (hl : l.length ≤ 1000000000) :
    Calls Tryz.prog 56 #[v] w (RetOwn 3 1 encC l w) := by
  have eok : EOk Tryz.prog 23 3 1 8 (encC (n := 1)) := eokC (sz := 1) tyOk23 rfl tyOk3 (by omega) rfl
  obtain ⟨A, c, rfl, hc, _⟩ := h.form
  have hq := fun (W : World) => Lib.run_eql_slice_nil W 23 3 A l.length c 0 0 Tryz.underlying23
  have H := hide h
  cases A with
  | none =>
    have h0 : l = [] := h.none_nil
    subst h0
    clear h H hl hc
    simp only [List.length_nil, Option.isNone_none] at hq ⊢
    go_enter Tryz.func56, Tryz.ntmps56
    go_wp2
    go_ret
    exact ⟨none, 0, rfl, Own.nil_, by go_grown⟩
  | some ad =>
    clear h
    go_enter Tryz.func56, Tryz.ntmps56
    go_wp2_with (at_builtin; refine wpList_append_sl rfl _ _ rfl eok rfl Own.made_ rfl (H.out.alloc _) (by simp; omega) (by omega) (by simp) ?_; intro A' c' w1 ho hg _)
    go_ret
    exact ⟨A', c', rfl, ho, (Own.made_ (sz := 1) (enc := encC (n := 1))).grown ((Below.refl _ _).alloc (Nat.le_refl _) _) (Nat.le_refl _) (by simp) hg⟩
theorem conT_clone56 {n : Nat} {a r : List Int} (hF : F_clone n a = some r) : ConT E0 56 [.sl 1 (List.map aI a)] 3 1 (List.map aI r) (.row 0) := clone_gen rfl (enters_of Tryz.func56 rfl rfl) clone56_any hF
theorem con_clone56 {n : Nat} {a r : List Int} (hF : F_clone n a = some r) : Con E0 false 56 [.sl 1 (List.map aI a)] (.sl 1 (List.map aI r)) := (conT_clone56 hF).close rfl
set_option maxHeartbeats 400000 in
theorem clone57_any (l : List (Cel 2)) (S : Nat → Prop) (v : Value) (w : World) (h : Sl w S 2 encC v l) (hl : l.length ≤ 1000000000) :
    Calls Tryz.prog 57 #[v] w (RetOwn 116 2 encC l w) := by
  have eok : EOk Tryz.prog 24 116 2 16 (encC (n := 2)) := eokC (sz := 2) tyOk24 rfl tyOk116 (by omega) rfl
  obtain ⟨A, c, rfl, hc, _⟩ := h.form
  have hq := fun (W : World) => Lib.run_eql_slice_nil W 24 116 A l.length c 0 0 Tryz.underlying24
  have H := hide h
  cases A with
  | none =>
    have h0 : l = [] := h.none_nil
    subst h0
    clear h H hl hc
    simp only [List.length_nil, Option.isNone_none] at hq ⊢
    go_enter Tryz.func57, Tryz.ntmps57
    go_wp2
    go_ret
    exact ⟨none, 0, rfl, Own.nil_, by go_grown⟩
  | some ad =>
    clear h
    go_enter Tryz.func57, Tryz.ntmps57
    go_wp2_with (at_builtin; refine wpList_append_sl rfl _ _ rfl eok rfl Own.made_ rfl (H.out.alloc _) (by simp; omega) (by omega) (by simp) ?_; intro A' c' w1 ho hg _)
    go_ret
    exact ⟨A', c', rfl, ho, (Own.made_ (sz := 2) (enc := encC (n := 2))).grown ((Below.refl _ _).alloc (Nat.le_refl _) _) (Nat.le_refl _) (by simp) hg⟩
theorem conT_clone57 {n : Nat} {a r : List Pt} (hF : F_clone n a = some r) : ConT E0 57 [.sl 2 (List.map aPt a)] 116 2 (List.map aPt r) (.row 0) := clone_gen rfl (enters_of Tryz.func57 rfl rfl) clone57_any hF
theorem con_clone57 {n : Nat} {a r : List Pt} (hF : F_clone n a = some r) : Con E0 false 57 [.sl 2 (List.map aPt a)] (.sl 2 (List.map aPt r)) := (conT_clone57 hF).close rfl

set_option maxRecDepth 100000 in
set_option maxHeartbeats 1600000 in
theorem insert144_any (l : List (Cel 1)) (x : Cel 1) (i : Nat) (base : Nat) (A : Option Addr) (c g off c1 : Nat) (w : World) (ho : Own w base 3 1 encC (.slice A l.length c) l)
    (hx : Xk w g off (encC x)) (hc1 : 1 ≤ c1) (hne : (Value.slice A l.length c).ownBlock ≠ some g) (hi : i ≤ l.length) (hl : l.length ≤ 1000000000) (hbase : base ≤ w.heap.size) :
    Calls Tryz.prog 144 #[.slice A l.length c, .int .i64 i, .slice (some ⟨g, off, none⟩) 1 c1] w (RetInsX 3 1 encC base (.slice A l.length c) (l.take i ++ x :: l.drop i) w) := by
  have hlen : (l.take i ++ x :: l.drop i).length = l.length + 1 := by simp; omega
  have hxl : (encC x).length = 1 := x.2.1
  have eok : EOk Tryz.prog 23 3 1 8 (encC (n := 1)) := eokC (sz := 1) tyOk23 rfl tyOk3 (by omega) rfl
  by_cases hin : i = l.length
  · subst hin
    have hsl : Hid (Sl w (fun _ => True) 1 encC (.slice (some ⟨g, off, none⟩) 1 c1) [x]) := Sl.one_x hc1 hx
    have H := hide ho
    have hll : Hid (l.take l.length ++ x :: l.drop l.length = l ++ [x]) := by simp [Hid]
    have hc : l.length ≤ c := by obtain ⟨_, _, he, h1, _⟩ := ho.val; injection he with _ _ hc; omega
    rw [hll.out]
    clear ho hx hne hlen
    go_enter Tryz.func144, Tryz.ntmps144
    go_wp2_with (at_builtin; refine wpList_append_sl (v := .slice A l.length c) rfl _ _ rfl eok rfl H.out rfl hsl.out (by simp; omega) (by omega) hbase ?_; intro A2 c2 w2 ho2 hg2 hb2)
    all_goals (go_ret; exact ⟨A2, c2, by simp, ho2, by cases A <;> exact hg2, by cases A <;> exact hb2⟩)
  · rcases ho.2 with ⟨hv, h0⟩ | ⟨g', cap, cur, hv, hbg, hh, hnc, hcm, hcs, htake⟩
    · omega
    injection hv with hA _ hcc
    subst hA
    subst hcc
    simp only [Nat.mul_one] at hcs htake
    have hgg : g' ≠ g := fun e => hne (by simp [Value.ownBlock, e])
    have hlt : i < l.length := by omega
    have hF1 : ((l.take i).flatMap encC).length = i := by rw [flatMap_len (sz := 1) (fun y => y.2.1)]; simp; omega
    have hF2 : ((l.drop i).flatMap encC).length = (l.length - i) := by rw [flatMap_len (sz := 1) (fun y => y.2.1)]; simp
    have hF12 : (l.take i).flatMap encC ++ (l.drop i).flatMap encC = l.flatMap encC := by rw [← List.flatMap_append, List.take_append_drop]
    have hres : (l.take i ++ x :: l.drop i).flatMap encC = (l.take i).flatMap encC ++ encC x ++ (l.drop i).flatMap encC := by simp [List.flatMap_append, List.flatMap_cons]
    have h2 := flatMap_one eok.one (l.drop i)
    have hX1 := eok.one x
    have hcur : cur.toList = (l.take i).flatMap encC ++ (l.drop i).flatMap encC ++ cur.toList.drop (l.length) := by rw [hF12, ← htake, List.take_append_drop]
    generalize hf1 : (l.take i).flatMap encC = F1 at *
    generalize hf2 : (l.drop i).flatMap encC = F2 at *
    generalize hX : encC x = X at *
    have hRl : (cur.toList.drop (l.length)).length = c - l.length := by simp [hcs]
    generalize cur.toList.drop (l.length) = R at *
    obtain ⟨cur⟩ := cur
    simp only at hcur
    subst hcur
    generalize hn : l.length = n at *
    by_cases hroom : n + 1 ≤ c
    · have hhi : (i : Int) < (n : Int) := by omega
      have hB0 : Blk w g' 3 (F1 ++ F2 ++ R).toArray := hh
      have hov : ∀ lb cb, (callFunc 150 #[.slice (some ⟨g, off, none⟩) 1 c1, .slice (some ⟨g', (i + 1), none⟩) lb cb]).run Tryz.prog w = .ok (.value (.bool false)) w := fun lb cb => by
        rw [run_callFunc_extern Tryz.func150 (by kernel_rfl) (by kernel_rfl) (by kernel_rfl) (e := Extern.SlicesOverlaps.overlaps #[23, 23] #[4]) (by kernel_rfl),
          run_overlaps_b w 23 4 3 Tryz.underlying23 1 (fun _ => by kernel_rfl) ⟨g, off, none⟩ ⟨g', (i + 1), none⟩ 1 c1 lb cb (fun e => hgg e.symm) hx.shape 3 (F1 ++ F2 ++ R).toArray.size (hB0.shape) (by rw [List.size_toArray, List.length_append, List.length_append]; omega) (hB0.frozen _) (hB0.frozen _)]
        rfl
      have hBH := hide hB0
      have hxH := hide hx
      have hdl : Hid (F2.length = Nat.min (n + 1 - i) (n - i)) := by unfold Hid; rw [show Nat.min (n + 1 - i) (n - i) = n - i from Nat.min_eq_right (by omega)]; exact hF2
      have hsrc : Hid (∀ (W : World), W.heap = w.heap → ∀ j u, F2[j]? = some u → W.cell? ((⟨g', i, none⟩ : Addr).add j) = some u) := fun W hW j u hu => by
        have e : Blk W g' 3 (F1 ++ F2 ++ R).toArray := by unfold Blk; rw [hW]; exact hB0
        rw [Addr.add_lit, e.cell]
        have hj := (List.getElem?_eq_some_iff.1 hu).1
        simp only [List.getElem?_toArray]
        rw [List.append_assoc, List.getElem?_append_right (by omega), List.getElem?_append_left (by omega), show i + j - F1.length = j by omega]
        exact hu
      have hHx := hide h2
      have HL := hide (And.intro hlen (And.intro hres (And.intro hbg hcs)))
      have hxl := hide hxl
      clear hx hB0 hh htake hne hF12 hcs ho h2 hlen hres
      go_enter Tryz.func144, Tryz.ntmps144
      go_wp2_with fail
      have hw1 : IntKind.i64.wrap ((i : Int) + 1) = (i : Int) + 1 := by rw [IntKind.wrap_i64]; omega
      have hb1 : (0 : Int) ≤ (i : Int) + 1 := by omega
      have hii : i ≤ n := by omega
      have htn : ((i : Int) + 1).toNat = i + 1 := by omega
      have hb2 : ¬ (c = i + 1) := by omega
      have hb3 : (i : Int) ≤ (n : Int) + 1 := by omega
      have hb4 : ¬ (c = i) := by omega
      go_region_law (refine step_copy_blk rfl _ _ 23 23 rfl 3 1 Tryz.underlying23 (by kernel_rfl) g' ((i + 1)) (n - i) (c - (i + 1)) (n + 1 - i) (c - i) ⟨g', i, none⟩ (by simp [Act.eval, Act.put]) (by simp [Act.eval, Act.put]) 3 (F1 ++ F2 ++ R) hBH.out F2 (by rw [Nat.mul_one]; exact hdl.out) (hsrc.out _ rfl) (by simp; omega) hHx.out ?_; intro w1 hB1 hg1)
      clear hw1 hb1 htn hb2
      have hB1' : Hid (Blk w1 g' 3 ((F1 ++ F2 ++ R).take (i + 1) ++ F2 ++ (F1 ++ F2 ++ R).drop (i + 1 + F2.length)).toArray) := by
        have e : (i + 1) = i + 1 := by omega
        rw [e] at hB1
        exact hB1
      have hX2 : Hid (∀ j u, X[j]? = some u → w1.cell? ((⟨g, off, none⟩ : Addr).add j) = some u) := fun j u hu => by
        have e : Xk w1 g off X := Xk.grown (w := w.drew) hxH.out hg1 (by simp; omega)
        rw [Addr.add_lit]
        exact e.cell hu
      have hg1' := hide (grownBy_drew_then hg1)
      have hX1' := hide hX1
      clear hB1 hg1 hX1
      go_wp2_with (refine wpList_copy_blk rfl (.tmp 80) (.tmp 81) 23 23 rfl 3 1 Tryz.underlying23 (by kernel_rfl) g' (i) (n + 1 - i) (c - i) 1 c1 ⟨g, off, none⟩ rfl rfl 3 _ hB1'.out X (by rw [show Nat.min 1 (n + 1 - i) = 1 from Nat.min_eq_left (by omega)]; exact hxl.out) hX2.out (by have := hxl.out; have := hRl; simp; omega) hX1'.out ?_; intro w2 hB2 hg2)
      go_ret
      have hfin := HL.out
      refine ⟨some ⟨g', 0, none⟩, c, by show Ending.returned (.slice (some ⟨g', 0, none⟩) (n + 1) c) = _; rw [hfin.1], Own.of_blk hB2 hfin.2.2.1 (by rw [hfin.1]; exact hroom) hcm (by have := hxl.out; have := hRl; simp; omega) ?_ (fun y => y.2.1), grownBy_trans hg1'.out hg2, Or.inl rfl⟩
      rw [hfin.1, hfin.2.1, ← insert_in_place F1 F2 R X (i) 1 ((n - i)) hF1 hF2 hxl.out (by omega)]
      congr 1
      omega
    · have hB0 : Blk w g' 3 (F1 ++ F2 ++ R).toArray := hh
      obtain ⟨i0, z, hi0, hz0, hzs, hzb, hzc⟩ := eok.inf
      have hik : i + (n + 1 - i) = n + 1 := by omega
      have hkk : (n : Int) + 1 - (i : Int) = ((n + 1 - i : Nat) : Int) := by omega
      have hgw : g' < w.heap.size := hB0.lt
      have hgx : g < w.heap.size := hx.lt
      have hold : (Builtin.firstCells i0.size i (.slice (some ⟨g', 0, none⟩) i c)).run Tryz.prog w.drew = .ok F1.toArray w.drew := by
        rw [hzs]
        refine run_firstCells_some w.drew 1 i ⟨g', 0, none⟩ i c F1 (by rw [Nat.mul_one]; exact hF1) (fun j v hj => ?_)
        have hjl := (List.getElem?_eq_some_iff.1 hj).1
        rw [Addr.add_lit]
        refine (hB0.cell _).trans ?_
        simp only [List.getElem?_toArray, Nat.zero_add]
        rw [List.append_assoc, List.getElem?_append_left (by omega)]
        exact hj
      have hrz := fun ty => Lib.run_append_grow_zeros w 23 3 ty 3 i0 z .i64 .i64 eok.und Tryz.underlying3 hi0 hz0 (some ⟨g', 0, none⟩) i c F1 hold (n + 1 - i) (by omega) (by omega) (by omega) (by omega) (by rw [hzb]; omega) (by rw [hzb, hik]; exact growslice_fits (by omega) (by omega))
      rw [hik] at hrz
      obtain ⟨G, hG⟩ : ∃ G, G = grownCap w (n + 1) c 3 := ⟨_, rfl⟩
      rw [← hG] at hrz
      have hGn : n + 1 ≤ G := by rw [hG]; exact grownCap_ge w _ _ _
      have hG63 : G ≤ maxLen := by rw [hG]; exact grownCap_le_maxLen w (n + 1) c 3 (by unfold maxLen; omega)
      obtain ⟨Z, hZ, hZl⟩ : ∃ Z : List Value, F1.toArray ++ Builtin.zeroCells z.cells (n + 1 - i) ++ Builtin.zeroCells z.cells (G - (n + 1)) = (F1 ++ Z).toArray ∧ Z.length = (G - i) :=
        ⟨(Builtin.zeroCells z.cells (n + 1 - i)).toList ++ (Builtin.zeroCells z.cells (G - (n + 1))).toList, by simp [Array.append_assoc], by simp [size_zeroCells, hzc]; omega⟩
      rw [hZ] at hrz
      obtain ⟨W1, hW1⟩ : ∃ W1, W1 = w.drew.alloc (.cells (F1 ++ Z).toArray 3) := ⟨_, rfl⟩
      have hBN : Hid (Blk W1 w.heap.size 3 (F1 ++ Z).toArray) := by rw [hW1]; exact Blk.new w.drew _ _
      have hxN : Hid (Xk W1 g off X) := by rw [hW1]; exact Xk.alloc (w := w.drew) hx _
      have hB1 : Hid (Blk W1 g' 3 (F1 ++ F2 ++ R).toArray) := by rw [hW1]; exact Blk.alloc (w := w.drew) hB0 _
      have hgW : Hid (∀ b, W1.grownBy b (some w.heap.size) → ∀ row, w.grownBy b row) := fun b hb row => by
        rw [hW1] at hb
        exact grownBy_drew_then (grownBy_alloc_then hb row)
      have hrz' : Hid (∀ ty, (Builtin.append_ #[23, 3] ty #[.slice (some ⟨g', 0, none⟩) i c, .int .i64 ((n : Int) + 1 - (i : Int))]).run Tryz.prog w = .ok (.slice (some ⟨w.heap.size, 0, none⟩) (n + 1) G) W1) := fun ty => by
        rw [hkk, hW1]
        exact hrz ty
      have hX2 : Hid (∀ j u, X[j]? = some u → W1.cell? ((⟨g, off, none⟩ : Addr).add j) = some u) := fun j u hu => by
        rw [Addr.add_lit]
        exact hxN.out.cell hu
      have HL := hide (And.intro hlen (And.intro hres (And.intro hbg hcs)))
      have hxl := hide hxl
      have hX1' := hide hX1
      have h2' := hide h2
      have hF2' : Hid (F2.length = Nat.min (n - i) (n - i)) := by unfold Hid; rw [show Nat.min (n - i) (n - i) = n - i from Nat.min_self _]; exact hF2
      have hhi : (i : Int) < (n : Int) := by omega
      have hhc : (c : Int) < (n : Int) + 1 := by omega
      have hii : i ≤ n := by omega
      have hci : ¬ (c = i) := by omega
      have hGi : ¬ (G = i) := by omega
      have hGi1 : ¬ (G = i + 1) := by omega
      have hGl : G ≤ 9223372036854775807 := by unfold maxLen at hG63; omega
      clear hx hB0 hh htake hne hF12 hcs ho h2 hlen hres hX1 hrz hold hW1 hZ hG hkk hzs hzb hzc hz0 hi0 hcm
      go_enter Tryz.func144, Tryz.ntmps144
      go_wp2_with (first | (at_builtin; refine Lib.wpList_append_run _ rfl _ _ _ _ rfl _ _ rfl rfl _ _ (hrz'.out _) ?_) | (refine wpList_copy_blk rfl (.tmp 43) (.tmp 44) 23 23 rfl 3 1 Tryz.underlying23 (by kernel_rfl) w.heap.size (i) (n + 1 - i) (G - i) 1 c1 ⟨g, off, none⟩ rfl rfl 3 _ hBN.out X (by rw [show Nat.min 1 (n + 1 - i) = 1 from Nat.min_eq_left (by omega)]; exact hxl.out) hX2.out (by have := hxl.out; simp; omega) hX1'.out ?_; intro w2 hB2 hg2))
      have hgN : g' ≠ w.heap.size := by omega
      have hsrc : Hid (∀ j u, F2[j]? = some u → w2.cell? ((⟨g', i, none⟩ : Addr).add j) = some u) := fun j u hu => by
        have e : Blk w2 g' 3 (F1 ++ F2 ++ R).toArray := hB1.out.grown hg2 (by simp; omega)
        rw [Addr.add_lit, e.cell]
        have hj := (List.getElem?_eq_some_iff.1 hu).1
        simp only [List.getElem?_toArray]
        rw [List.append_assoc, List.getElem?_append_right (by omega), List.getElem?_append_left (by omega), show i + j - F1.length = j by omega]
        exact hu
      have hg2' := hide hg2
      have hB2' := hide hB2
      have hw1 : IntKind.i64.wrap ((i : Int) + 1) = (i : Int) + 1 := by rw [IntKind.wrap_i64]; omega
      have hb1 : (0 : Int) ≤ (i : Int) + 1 := by omega
      have htn : ((i : Int) + 1).toNat = i + 1 := by omega
      have hb3 : (i : Int) ≤ (n : Int) := by omega
      have hb5 : (i : Int) + 1 ≤ (n : Int) + 1 := by omega
      clear hg2 hB2
      go_region_law (refine step_copy_blk rfl _ _ 23 23 rfl 3 1 Tryz.underlying23 (by kernel_rfl) w.heap.size ((i + 1)) (n - i) (G - (i + 1)) (n - i) (c - i) ⟨g', i, none⟩ (by simp [Act.eval, Act.put]) (by simp [Act.eval, Act.put]) 3 _ hB2'.out F2 (by rw [Nat.mul_one]; exact hF2'.out) hsrc.out (by have := hxl.out; simp; omega) h2'.out ?_; intro w3 hB3 hg3)
      clear hw1 hb1 htn hb3 hb5
      have hB3' : Hid (Blk w3 w.heap.size 3 (((F1 ++ Z).take (i) ++ X ++ (F1 ++ Z).drop (i + X.length)).take (i + 1) ++ F2 ++ ((F1 ++ Z).take (i) ++ X ++ (F1 ++ Z).drop (i + X.length)).drop (i + 1 + F2.length)).toArray) := by
        have e : (i + 1) = i + 1 := by omega
        rw [e] at hB3
        exact hB3
      have hg3' := hide (grownBy_drew_then hg3)
      clear hB3 hg3
      go_wp2
      go_ret
      have hfin := HL.out
      have hx2 := hxl.out
      refine ⟨some ⟨w.heap.size, 0, none⟩, G, by show Ending.returned (.slice (some ⟨w.heap.size, 0, none⟩) (n + 1) G) = _; rw [hfin.1], Own.of_blk hB3'.out hbase (by rw [hfin.1]; exact hGn) hG63 (by simp; omega) ?_ (fun y => y.2.1), hgW.out _ (grownBy_trans hg2'.out hg3'.out) _, Or.inr rfl⟩
      rw [hfin.1, hfin.2.1, ← insert_grown F1 F2 Z X (i) 1 ((n - i)) hF1 hF2 hx2 (by omega)]
      congr 1
      omega

theorem conC_insert144 {n : Nat} {a v r : List Int} {i : Int} (hF : F_insert n a i v = some r) : ConC false E0 144 [.row 0, aI i, .sl 1 (List.map aI v)] 3 1 (List.map aI a) 3 1 (List.map aI r) (.row 0) := insert_gen rfl (enters_of Tryz.func144 rfl rfl) (by omega) insert144_any hF
def S_sequence_with_l1 (a0 : Trk) (x2 : (List Pt)) (v1_0 : Int × (List Int)) : AS := ⟨[(2, .ptr 2 0), (4, .ptr 4 0)], [(2, .box 26 [aI (v1_0.1), .sl 1 (List.map aI (v1_0.2)), .sl 2 (List.map aPt (x2)), aI (a0.mark)]), (4, .box 26 [aI (0), .nils, .nils, aI (0)])]⟩
theorem sequence_with_l1_o {n N : Nat} {a0 : Trk} {x2 : (List Pt)} {k1_0_0 : Int → (List Int) → (List Pt) → Option (Trk)} {R : Exit → AS → Prop} {K : List KItem} {c : Code} {σ : AS} {v0 : Int × (List Int)} {r : Trk} (hF : F_sequence_with_l1 n a0 x2 k1_0_0 N v0 = some r) (hl : LeX E0 54 σ (S_sequence_with_l1 a0 x2 v0)) (round : ∀ m v, F_sequence_with_l1 n a0 x2 k1_0_0 (m + 1) v = some r → AW E0 54 (thenA (fun σ' => ∃ v', F_sequence_with_l1 n a0 x2 k1_0_0 m v' = some r ∧ LeX E0 54 σ' (S_sequence_with_l1 a0 x2 v')) (AW E0 54 R K)) [.code c] .normal (S_sequence_with_l1 a0 x2 v)) : LoopX E0 54 (fun next σ' => AW E0 54 (thenA next (AW E0 54 R K)) [.code c] .normal σ') σ :=
  LoopA.o (S := S_sequence_with_l1 a0 x2) hF (fun _ => rfl) hl round
def R_sequence_with (r : Trk) : AV := .agg [aI (r.next), .sl 1 (List.map aI (r.beyond)), .sl 2 (List.map aPt (r.points)), aI (r.mark)]
theorem con_sequence_with {n : Nat} {a0 : Trk} {a1 : Int} {r : Trk} (hF : F_sequence_with n a0 a1 = some r) : Con E0 false 130 [.agg [aI (a0.next), .sl 1 (List.map aI (a0.beyond)), .sl 2 (List.map aPt (a0.points)), aI (a0.mark)], aI (a1)] (R_sequence_with r) := by
  unfold F_sequence_with at hF
  refine Con.walk _ Tryz.func130 rfl (enters_of Tryz.func130 rfl rfl) rfl (Or.inl rfl) ?_
  repeat' first
    | (refine AW.regO hF (fun hF => ?_))
    | (refine AW.frzO hF 7 rfl (fun hF => ?_))
    | (refine AW.stepU [7] ?_; conv => whnf)
    | (refine CondX.o hF (fun hF => ?_) (fun hF => ?_))
    | (refine CondX.t ?_)
    | (refine CondX.f ?_)
    | (refine CallX.oR hF (fun r => r) aI (fun _ => AV.row 0) rfl (fun a h => conT_clone56 h) (fun a hF => ?_))
    | (refine CallX.oR hF (fun r => r) aI (fun _ => AV.row 0) rfl (fun a h => ConT.sub (by repeat' first | exact Sub.nil _ | exact Sub.refl _ | refine Sub.agg ?_ | refine Sub.tup ?_ | refine Sub.fn ?_ | exact SubL.nil | refine SubL.cons ?_ ?_ | refine Sub.sl _ ?_ | exact SubE.nil | refine SubE.cons ?_ ?_) (conT_clone56 h)) (fun a hF => ?_))
    | (refine CallX.o hF (fun q => AV.sl 2 (List.map aPt q)) (fun a h => con_clone57 h) (fun a hF => ?_))
    | (refine CallC.o hF R_sequence_place (fun a h => con_sequence_place h) (fun _ => Or.inr rfl) (fun a hF => ?_))
    | (refine CallC.oC hF 7 (fun r => r) aI (fun _ => AV.row 0) rfl (fun a h => conC_insert144 h) rfl rfl rfl rfl rfl rfl (fun a hF => ?_))
    | (refine IdxX.o aI hF (fun x hF => ?_))
    | (refine SlsX.o aI hF (fun l hF => ?_))
    | (exact ⟨_, hF, LeX.of [] rfl ⟨⟨rfl, rfl⟩, ⟨rfl, rfl⟩, trivial⟩ ⟨⟨rfl, rfl⟩, ⟨rfl, rfl⟩, trivial⟩⟩)
    | (refine sequence_with_l1_o hF (LeX.trans (LeX.frzAll 7 3 1 _ rfl) (LeX.of [] rfl ⟨⟨rfl, rfl⟩, ⟨rfl, rfl⟩, trivial⟩ ⟨⟨rfl, rfl⟩, ⟨rfl, rfl⟩, trivial⟩)) (fun m v hF => ?_); unfold F_sequence_with_l1 at hF)
    | (refine And.intro ⟨by kernel_rfl, by kernel_rfl⟩ ?_)
    | (refine EqX.mk (by first | rfl | kernel_rfl) ?_)
    | (exact RetX.o hF (by repeat' first | exact Sub.nil _ | exact Sub.refl _ | refine Sub.agg ?_ | refine Sub.tup ?_ | refine Sub.fn ?_ | exact SubL.nil | refine SubL.cons ?_ ?_ | refine Sub.sl _ ?_ | exact SubE.nil | refine SubE.cons ?_ ?_))

def R_sequence_Receive (r : Trk × Bool × Int) : AV := .tup [.agg [aI (r.1.next), .sl 1 (List.map aI (r.1.beyond)), .sl 2 (List.map aPt (r.1.points)), aI (r.1.mark)], .bool (r.2.1), aI (r.2.2)]
theorem con_sequence_Receive {n : Nat} {a0 : Trk} {a1 : Int} {r : Trk × Bool × Int} (hF : F_sequence_Receive n a0 a1 = some r) : Con E0 false 123 [.agg [aI (a0.next), .sl 1 (List.map aI (a0.beyond)), .sl 2 (List.map aPt (a0.points)), aI (a0.mark)], aI (a1)] (R_sequence_Receive r) := by
  unfold F_sequence_Receive at hF
  refine Con.walk _ Tryz.func123 rfl (enters_of Tryz.func123 rfl rfl) rfl (Or.inl rfl) ?_
  repeat' first
    | (refine AW.step ?_; conv => whnf)
    | (refine CondX.o hF (fun hF => ?_) (fun hF => ?_))
    | (refine CondX.t ?_)
    | (refine CondX.f ?_)
    | (refine CallX.o hF R_sequence_Check (fun a h => con_sequence_Check h) (fun a hF => ?_))
    | (refine CallX.o hF R_sequence_has (fun a h => con_sequence_has h) (fun a hF => ?_))
    | (refine CallX.o hF (fun q => AV.sl 1 (List.map aI q)) (fun a h => con_clone56 h) (fun a hF => ?_))
    | (refine CallX.o hF (fun q => AV.sl 2 (List.map aPt q)) (fun a h => con_clone57 h) (fun a hF => ?_))
    | (refine CallX.o hF R_sequence_with (fun a h => con_sequence_with h) (fun a hF => ?_))
    | (refine And.intro ⟨by kernel_rfl, by kernel_rfl⟩ ?_)
    | (refine EqX.mk (by first | rfl | kernel_rfl) ?_)
    | (exact RetX.o hF (by repeat' first | exact Sub.nil _ | exact Sub.refl _ | refine Sub.agg ?_ | refine Sub.tup ?_ | refine Sub.fn ?_ | exact SubL.nil | refine SubL.cons ?_ ?_ | refine Sub.sl _ ?_ | exact SubE.nil | refine SubE.cons ?_ ?_))

def R_watermark_receiveEvent (r : Trk × Bool × Int) : AV := .tup [.agg [aI (r.1.next), .sl 1 (List.map aI (r.1.beyond)), .sl 2 (List.map aPt (r.1.points)), aI (r.1.mark)], .bool (r.2.1), aI (r.2.2)]
theorem con_watermark_receiveEvent {n : Nat} {a0 : Trk} {a1 : T_api_Message} {r : Trk × Bool × Int} (hF : F_watermark_receiveEvent n a0 a1 = some r) : Con E0 false 115 [.agg [aI (a0.next), .sl 1 (List.map aI (a0.beyond)), .sl 2 (List.map aPt (a0.points)), aI (a0.mark)], .agg [aI (a1.fKind), aI (a1.fEvent.fSource), aI (a1.fEvent.fSeq), aI (a1.fEvent.fType), aI (a1.fEvent.fTime), .sl 3 (List.map e_api_Value (a1.fEvent.fValues)), aI (a1.fSource), aI (a1.fSeq), aI (a1.fTime)]] (R_watermark_receiveEvent r) := by
  unfold F_watermark_receiveEvent at hF
  refine Con.walk _ Tryz.func115 rfl (enters_of Tryz.func115 rfl rfl) rfl (Or.inl rfl) ?_
  repeat' first
    | (refine AW.step ?_; conv => whnf)
    | (refine CondX.o hF (fun hF => ?_) (fun hF => ?_))
    | (refine CondX.t ?_)
    | (refine CondX.f ?_)
    | (refine CallX.o hF R_sequence_Has (fun a h => con_sequence_Has h) (fun a hF => ?_))
    | (refine CallX.o hF R_puAllows (fun a h => con_puAllows h) (fun a hF => ?_))
    | (refine CallX.o hF R_sequence_Receive (fun a h => con_sequence_Receive h) (fun a hF => ?_))
    | (refine CallX.o hF R_puAdd (fun a h => con_puSettle h) (fun a hF => ?_))
    | (refine And.intro ⟨by kernel_rfl, by kernel_rfl⟩ ?_)
    | (refine EqX.mk (by first | rfl | kernel_rfl) ?_)
    | (exact RetX.o hF (by repeat' first | exact Sub.nil _ | exact Sub.refl _ | refine Sub.agg ?_ | refine Sub.tup ?_ | refine Sub.fn ?_ | exact SubL.nil | refine SubL.cons ?_ ?_ | refine Sub.sl _ ?_ | exact SubE.nil | refine SubE.cons ?_ ?_))

set_option maxHeartbeats 400000 in
theorem clone119_any (l : List (Cel 4)) (S : Nat → Prop) (v : Value) (w : World) (h : Sl w S 4 encC v l) (hl : l.length ≤ 1000000000) :
    Calls Tryz.prog 119 #[v] w (RetOwn 26 4 encC l w) := by
  have eok : EOk Tryz.prog 154 26 4 64 (encC (n := 4)) := eokC (sz := 4) tyOk154 rfl tyOk26 (by omega) rfl
  obtain ⟨A, c, rfl, hc, _⟩ := h.form
  have hq := fun (W : World) => Lib.run_eql_slice_nil W 154 26 A l.length c 0 0 Tryz.underlying154
  have H := hide h
  cases A with
  | none =>
    have h0 : l = [] := h.none_nil
    subst h0
    clear h H hl hc
    simp only [List.length_nil, Option.isNone_none] at hq ⊢
    go_enter Tryz.func119, Tryz.ntmps119
    go_wp2
    go_ret
    exact ⟨none, 0, rfl, Own.nil_, by go_grown⟩
  | some ad =>
    clear h
    go_enter Tryz.func119, Tryz.ntmps119
    go_wp2_with (at_builtin; refine wpList_append_sl rfl _ _ rfl eok rfl Own.made_ rfl (H.out.alloc _) (by simp; omega) (by omega) (by simp) ?_; intro A' c' w1 ho hg _)
    go_ret
    exact ⟨A', c', rfl, ho, (Own.made_ (sz := 4) (enc := encC (n := 4))).grown ((Below.refl _ _).alloc (Nat.le_refl _) _) (Nat.le_refl _) (by simp) hg⟩
theorem conT_clone119 {n : Nat} {a r : List Trk} (hF : F_clone n a = some r) : ConT E0 119 [.sl 4 (List.map aTrk a)] 26 4 (List.map aTrk r) (.row 0) := clone_gen rfl (enters_of Tryz.func119 rfl rfl) clone119_any hF
def R_watermark_kinds_2 (r : Int) : AV := aI (r)
theorem con_watermark_kinds_2 {n : Nat} {a0 : T_api_Message} {r : Int} (hF : F_watermark_kinds_2 n a0 = some r) : Con E0 true 117 [.agg [aI (a0.fKind), aI (a0.fEvent.fSource), aI (a0.fEvent.fSeq), aI (a0.fEvent.fType), aI (a0.fEvent.fTime), .sl 3 (List.map e_api_Value (a0.fEvent.fValues)), aI (a0.fSource), aI (a0.fSeq), aI (a0.fTime)]] (R_watermark_kinds_2 r) := by
  unfold F_watermark_kinds_2 at hF
  refine Con.walk _ Tryz.func117 rfl (enters_of Tryz.func117 rfl rfl) rfl (Or.inr rfl) ?_
  repeat' first
    | (refine AW.step ?_; conv => whnf)
    | (refine CondX.o hF (fun hF => ?_) (fun hF => ?_))
    | (refine CondX.t ?_)
    | (refine CondX.f ?_)
    | (refine And.intro ⟨by kernel_rfl, by kernel_rfl⟩ ?_)
    | (refine EqX.mk (by first | rfl | kernel_rfl) ?_)
    | (exact RetX.o hF (by repeat' first | exact Sub.nil _ | exact Sub.refl _ | refine Sub.agg ?_ | refine Sub.tup ?_ | refine Sub.fn ?_ | exact SubL.nil | refine SubL.cons ?_ ?_ | refine Sub.sl _ ?_ | exact SubE.nil | refine SubE.cons ?_ ?_))

def R_watermark_receivePoint (r : Trk × Bool × Int) : AV := .tup [.agg [aI (r.1.next), .sl 1 (List.map aI (r.1.beyond)), .sl 2 (List.map aPt (r.1.points)), aI (r.1.mark)], .bool (r.2.1), aI (r.2.2)]
theorem con_watermark_receivePoint {n : Nat} {a0 : Trk} {a1 : T_api_Message} {r : Trk × Bool × Int} (hF : F_watermark_receivePoint n a0 a1 = some r) : Con E0 false 118 [.agg [aI (a0.next), .sl 1 (List.map aI (a0.beyond)), .sl 2 (List.map aPt (a0.points)), aI (a0.mark)], .agg [aI (a1.fKind), aI (a1.fEvent.fSource), aI (a1.fEvent.fSeq), aI (a1.fEvent.fType), aI (a1.fEvent.fTime), .sl 3 (List.map e_api_Value (a1.fEvent.fValues)), aI (a1.fSource), aI (a1.fSeq), aI (a1.fTime)]] (R_watermark_receivePoint r) := by
  unfold F_watermark_receivePoint at hF
  refine Con.walk _ Tryz.func118 rfl (enters_of Tryz.func118 rfl rfl) rfl (Or.inl rfl) ?_
  repeat' first
    | (refine AW.step ?_; conv => whnf)
    | (refine CondX.o hF (fun hF => ?_) (fun hF => ?_))
    | (refine CondX.t ?_)
    | (refine CondX.f ?_)
    | (refine CallX.o hF R_puAdd (fun a h => con_puAdd h) (fun a hF => ?_))
    | (refine And.intro ⟨by kernel_rfl, by kernel_rfl⟩ ?_)
    | (refine EqX.mk (by first | rfl | kernel_rfl) ?_)
    | (exact RetX.o hF (by repeat' first | exact Sub.nil _ | exact Sub.refl _ | refine Sub.agg ?_ | refine Sub.tup ?_ | refine Sub.fn ?_ | exact SubL.nil | refine SubL.cons ?_ ?_ | refine Sub.sl _ ?_ | exact SubE.nil | refine SubE.cons ?_ ?_))

def T_watermark_receive (r : (List Trk) × Bool × Int) : AV := .tup [.row 0, .bool (r.2.1), aI (r.2.2)]
end Go.Proofs.YtcbdhigllelmcaaGreat
