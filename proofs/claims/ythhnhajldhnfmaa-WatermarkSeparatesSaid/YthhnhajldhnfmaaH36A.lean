/- What some functions compute, over plain values. Printed by a program of mine (gen_fun.lean). -/
import Derived.Test.YthhnhajldhnfmaaH36F
set_option linter.unusedVariables false
set_option linter.unusedSimpArgs false
set_option maxRecDepth 100000
set_option maxHeartbeats 8000000
namespace Go.Proofs.Ythhnhajldhnfmaa
open Go.RowKit
def R_sequence_Begin (r : Trk) : AV := .agg [aI (r.next), .sl 1 (List.map aI (r.beyond)), .sl 2 (List.map aPt (r.points)), aI (r.mark)]
theorem con_sequence_Begin {n : Nat} {r : Trk} (hF : F_sequence_Begin n = some r) : Con E0 false 78 [] (R_sequence_Begin r) := by
  unfold F_sequence_Begin at hF
  refine Con.walk _ Try.func78 rfl (enters_of Try.func78 rfl rfl) rfl (Or.inl rfl) ?_
  repeat' first
    | (refine AW.step ?_; conv => whnf)
    | (refine CondX.o hF (fun hF => ?_) (fun hF => ?_))
    | (refine CondX.t ?_)
    | (refine CondX.f ?_)
    | (refine And.intro ⟨by kernel_rfl, by kernel_rfl⟩ ?_)
    | (refine EqX.mk (by first | rfl | kernel_rfl) ?_)
    | (exact RetX.o hF (by repeat' first | exact Sub.nil _ | exact Sub.refl _ | refine Sub.agg ?_ | refine Sub.tup ?_ | refine Sub.fn ?_ | exact SubL.nil | refine SubL.cons ?_ ?_ | refine Sub.sl _ ?_ | exact SubE.nil | refine SubE.cons ?_ ?_))

def S_watermark_Begin_l1 (x1 : (List Trk)) (v1_0 : Int × (List Trk)) : AS := ⟨[(4, .row 13), (15, aI ((((List.map aTrk (x1)).length : Nat) : Int))), (16, aI (v1_0.1))], [(13, .row 25 4 (List.map aTrk (v1_0.2)))]⟩
theorem watermark_Begin_l1_o {n N : Nat} {x1 : (List Trk)} {k1_0_0 : (List Trk) → Option ((List Trk) × Int)} {R : Exit → AS → Prop} {K : List KItem} {c : Code} {σ : AS} {v0 : Int × (List Trk)} {r : (List Trk) × Int} (hF : F_watermark_Begin_l1 n x1 k1_0_0 N v0 = some r) (hl : LeX E0 25 σ (S_watermark_Begin_l1 x1 v0)) (round : ∀ m v, F_watermark_Begin_l1 n x1 k1_0_0 (m + 1) v = some r → AW E0 25 (thenA (fun σ' => ∃ v', F_watermark_Begin_l1 n x1 k1_0_0 m v' = some r ∧ LeX E0 25 σ' (S_watermark_Begin_l1 x1 v')) (AW E0 25 R K)) [.code c] .normal (S_watermark_Begin_l1 x1 v)) : LoopX E0 25 (fun next σ' => AW E0 25 (thenA next (AW E0 25 R K)) [.code c] .normal σ') σ :=
  LoopA.o (S := S_watermark_Begin_l1 x1) hF (fun _ => rfl) hl round
def R_watermark_Begin (r : (List Trk) × Int) : AV := .tup [.sl 4 (List.map aTrk (r.1)), aI (r.2)]
theorem con_watermark_Begin {n : Nat} {a0 : Int} {r : (List Trk) × Int} (hF : F_watermark_Begin n a0 = some r) : Con E0 false 41 [aI (a0)] (R_watermark_Begin r) := by
  unfold F_watermark_Begin at hF
  refine Con.walk _ Try.func41 rfl (enters_of Try.func41 rfl rfl) rfl (Or.inl rfl) ?_
  repeat' first
    | (refine AW.step ?_; conv => whnf)
    | (refine CondX.o hF (fun hF => ?_) (fun hF => ?_))
    | (refine CondX.t ?_)
    | (refine CondX.f ?_)
    | (refine MakX.o aTrk hF (by first | exact SubL.refl _ | (repeat' first | exact SubL.nil | refine SubL.cons ?_ ?_ | exact Sub.refl _ | exact Sub.nil _ | refine Sub.agg ?_)) (fun l hF => ?_))
    | (refine CallX.o hF R_sequence_Begin (fun a h => con_sequence_Begin h) (fun a hF => ?_))
    | (refine NatX.o hF (fun m hF => ?_))
    | (refine SetX.o aTrk hF (fun x => rfl) (fun x => (by first | exact SubL.refl _ | (repeat' first | exact SubL.nil | refine SubL.cons ?_ ?_ | exact Sub.refl _ | exact Sub.nil _ | refine Sub.agg ?_))) (fun l hF => ?_))
    | (exact ⟨_, hF, LeX.of [] rfl ⟨⟨rfl, rfl⟩, ⟨rfl, rfl⟩, ⟨rfl, rfl⟩, trivial⟩ ⟨⟨rfl, rfl⟩, trivial⟩⟩)
    | (refine watermark_Begin_l1_o hF (LeX.of [] rfl ⟨⟨rfl, rfl⟩, ⟨rfl, rfl⟩, ⟨rfl, rfl⟩, trivial⟩ ⟨⟨rfl, rfl⟩, trivial⟩) (fun m v hF => ?_); unfold F_watermark_Begin_l1 at hF)
    | (refine And.intro ⟨by kernel_rfl, by kernel_rfl⟩ ?_)
    | (refine EqX.mk (by first | rfl | kernel_rfl) ?_)
    | (exact RetX.o hF (by repeat' first | exact Sub.nil _ | exact Sub.refl _ | refine Sub.agg ?_ | refine Sub.tup ?_ | refine Sub.fn ?_ | exact SubL.nil | refine SubL.cons ?_ ?_ | refine Sub.sl _ ?_ | exact SubE.nil | refine SubE.cons ?_ ?_))

def T_watermark_Begin (r : (List Trk) × Int) : AV := .tup [.row 0, aI (r.2)]
theorem conT_watermark_Begin {n : Nat} {a0 : Int} {r : (List Trk) × Int} (hF : F_watermark_Begin n a0 = some r) : ConT E0 41 [aI (a0)] 25 4 (List.map aTrk (r.1)) (T_watermark_Begin r) := by
  unfold F_watermark_Begin at hF
  refine ConT.walk _ Try.func41 rfl (enters_of Try.func41 rfl rfl) rfl rfl ?_
  repeat' first
    | (refine AW.step ?_; conv => whnf)
    | (refine CondX.o hF (fun hF => ?_) (fun hF => ?_))
    | (refine CondX.t ?_)
    | (refine CondX.f ?_)
    | (refine MakX.o aTrk hF (by first | exact SubL.refl _ | (repeat' first | exact SubL.nil | refine SubL.cons ?_ ?_ | exact Sub.refl _ | exact Sub.nil _ | refine Sub.agg ?_)) (fun l hF => ?_))
    | (refine CallX.o hF R_sequence_Begin (fun a h => con_sequence_Begin h) (fun a hF => ?_))
    | (refine NatX.o hF (fun m hF => ?_))
    | (refine SetX.o aTrk hF (fun x => rfl) (fun x => (by first | exact SubL.refl _ | (repeat' first | exact SubL.nil | refine SubL.cons ?_ ?_ | exact Sub.refl _ | exact Sub.nil _ | refine Sub.agg ?_))) (fun l hF => ?_))
    | (exact ⟨_, hF, LeX.of [] rfl ⟨⟨rfl, rfl⟩, ⟨rfl, rfl⟩, ⟨rfl, rfl⟩, trivial⟩ ⟨⟨rfl, rfl⟩, trivial⟩⟩)
    | (refine watermark_Begin_l1_o hF (LeX.of [] rfl ⟨⟨rfl, rfl⟩, ⟨rfl, rfl⟩, ⟨rfl, rfl⟩, trivial⟩ ⟨⟨rfl, rfl⟩, trivial⟩) (fun m v hF => ?_); unfold F_watermark_Begin_l1 at hF)
    | (refine And.intro ⟨by kernel_rfl, by kernel_rfl⟩ ?_)
    | (refine EqX.mk (by first | rfl | kernel_rfl) ?_)
    | (refine TX.o (rl := fun r => List.map aTrk (r.1)) (res := T_watermark_Begin) hF ?_; exact TX.mk _ 13 (LeX.refl _ _ _) _ rfl rfl (by repeat' first | exact Sub.nil _ | exact Sub.refl _ | refine Sub.agg ?_ | refine Sub.tup ?_ | refine Sub.fn ?_ | exact SubL.nil | refine SubL.cons ?_ ?_ | refine Sub.sl _ ?_ | exact SubE.nil | refine SubE.cons ?_ ?_))
    | (refine TX.o (rl := fun r => List.map aTrk (r.1)) (res := T_watermark_Begin) hF ?_; exact TX.mk _ 9000 (LeX.adopt 2 9000 25 4 rfl rfl) _ rfl rfl (by repeat' first | exact Sub.nil _ | exact Sub.refl _ | refine Sub.agg ?_ | refine Sub.tup ?_ | refine Sub.fn ?_ | exact SubL.nil | refine SubL.cons ?_ ?_ | refine Sub.sl _ ?_ | exact SubE.nil | refine SubE.cons ?_ ?_))

def R_tidegateref34_Begin (r : Trk) : AV := .agg [aI (r.next), .sl 1 (List.map aI (r.beyond)), .sl 2 (List.map aPt (r.points)), aI (r.mark)]
theorem con_tidegateref34_Begin {n : Nat} {r : Trk} (hF : F_tidegateref34_Begin n = some r) : Con E0 false 79 [] (R_tidegateref34_Begin r) := by
  unfold F_tidegateref34_Begin at hF
  refine Con.walk _ Try.func79 rfl (enters_of Try.func79 rfl rfl) rfl (Or.inl rfl) ?_
  repeat' first
    | (refine AW.step ?_; conv => whnf)
    | (refine CondX.o hF (fun hF => ?_) (fun hF => ?_))
    | (refine CondX.t ?_)
    | (refine CondX.f ?_)
    | (refine And.intro ⟨by kernel_rfl, by kernel_rfl⟩ ?_)
    | (refine EqX.mk (by first | rfl | kernel_rfl) ?_)
    | (exact RetX.o hF (by repeat' first | exact Sub.nil _ | exact Sub.refl _ | refine Sub.agg ?_ | refine Sub.tup ?_ | refine Sub.fn ?_ | exact SubL.nil | refine SubL.cons ?_ ?_ | refine Sub.sl _ ?_ | exact SubE.nil | refine SubE.cons ?_ ?_))

def S_tidegateref36_Begin_l1 (a0 : Int) (v1_0 : Int × (List Trk)) : AS := ⟨[(0, aI (a0)), (4, .row 7000), (5, aI (v1_0.1))], [(7000, .row 25 4 (List.map aTrk (v1_0.2)))]⟩
theorem tidegateref36_Begin_l1_o {n N : Nat} {a0 : Int} {k1_0_0 : (List Trk) → Option ((List Trk) × Int)} {R : Exit → AS → Prop} {K : List KItem} {c : Code} {σ : AS} {v0 : Int × (List Trk)} {r : (List Trk) × Int} (hF : F_tidegateref36_Begin_l1 n a0 k1_0_0 N v0 = some r) (hl : LeX E0 22 σ (S_tidegateref36_Begin_l1 a0 v0)) (round : ∀ m v, F_tidegateref36_Begin_l1 n a0 k1_0_0 (m + 1) v = some r → AW E0 22 (thenA (fun σ' => ∃ v', F_tidegateref36_Begin_l1 n a0 k1_0_0 m v' = some r ∧ LeX E0 22 σ' (S_tidegateref36_Begin_l1 a0 v')) (AW E0 22 R K)) [.code c] .normal (S_tidegateref36_Begin_l1 a0 v)) : LoopX E0 22 (fun next σ' => AW E0 22 (thenA next (AW E0 22 R K)) [.code c] .normal σ') σ :=
  LoopA.o (S := S_tidegateref36_Begin_l1 a0) hF (fun _ => rfl) hl round
def R_tidegateref36_Begin (r : (List Trk) × Int) : AV := .tup [.sl 4 (List.map aTrk (r.1)), aI (r.2)]
theorem con_tidegateref36_Begin {n : Nat} {a0 : Int} {r : (List Trk) × Int} (hF : F_tidegateref36_Begin n a0 = some r) : Con E0 false 42 [aI (a0)] (R_tidegateref36_Begin r) := by
  unfold F_tidegateref36_Begin at hF
  refine Con.walk _ Try.func42 rfl (enters_of Try.func42 rfl rfl) rfl (Or.inl rfl) ?_
  repeat' first
    | (refine AW.step ?_; conv => whnf)
    | (refine CondX.o hF (fun hF => ?_) (fun hF => ?_))
    | (refine CondX.t ?_)
    | (refine CondX.f ?_)
    | (refine CallX.o hF R_tidegateref34_Begin (fun a h => con_tidegateref34_Begin h) (fun a hF => ?_))
    | (refine AppX.o aTrk hF (by first | exact SubR.refl _ | (repeat' first | exact SubR.nil | refine SubR.cons ?_ ?_ | exact SubL.nil | refine SubL.cons ?_ ?_ | exact Sub.refl _ | exact Sub.nil _)) (fun l hF => ?_))
    | (exact ⟨_, hF, LeX.of [(7000, 20)] rfl ⟨⟨rfl, rfl⟩, ⟨rfl, rfl⟩, ⟨rfl, rfl⟩, trivial⟩ ⟨⟨rfl, rfl⟩, trivial⟩⟩)
    | (refine tidegateref36_Begin_l1_o hF (LeX.trans (LeX.adopt 4 7000 25 4 rfl rfl) (LeX.of [] rfl ⟨⟨rfl, rfl⟩, ⟨rfl, rfl⟩, ⟨rfl, rfl⟩, trivial⟩ ⟨⟨rfl, rfl⟩, trivial⟩)) (fun m v hF => ?_); unfold F_tidegateref36_Begin_l1 at hF)
    | (refine And.intro ⟨by kernel_rfl, by kernel_rfl⟩ ?_)
    | (refine EqX.mk (by first | rfl | kernel_rfl) ?_)
    | (exact RetX.o hF (by repeat' first | exact Sub.nil _ | exact Sub.refl _ | refine Sub.agg ?_ | refine Sub.tup ?_ | refine Sub.fn ?_ | exact SubL.nil | refine SubL.cons ?_ ?_ | refine Sub.sl _ ?_ | exact SubE.nil | refine SubE.cons ?_ ?_))

def T_tidegateref36_Begin (r : (List Trk) × Int) : AV := .tup [.row 0, aI (r.2)]
theorem conT_tidegateref36_Begin {n : Nat} {a0 : Int} {r : (List Trk) × Int} (hF : F_tidegateref36_Begin n a0 = some r) : ConT E0 42 [aI (a0)] 25 4 (List.map aTrk (r.1)) (T_tidegateref36_Begin r) := by
  unfold F_tidegateref36_Begin at hF
  refine ConT.walk _ Try.func42 rfl (enters_of Try.func42 rfl rfl) rfl rfl ?_
  repeat' first
    | (refine AW.step ?_; conv => whnf)
    | (refine CondX.o hF (fun hF => ?_) (fun hF => ?_))
    | (refine CondX.t ?_)
    | (refine CondX.f ?_)
    | (refine CallX.o hF R_tidegateref34_Begin (fun a h => con_tidegateref34_Begin h) (fun a hF => ?_))
    | (refine AppX.o aTrk hF (by first | exact SubR.refl _ | (repeat' first | exact SubR.nil | refine SubR.cons ?_ ?_ | exact SubL.nil | refine SubL.cons ?_ ?_ | exact Sub.refl _ | exact Sub.nil _)) (fun l hF => ?_))
    | (exact ⟨_, hF, LeX.of [(7000, 20)] rfl ⟨⟨rfl, rfl⟩, ⟨rfl, rfl⟩, ⟨rfl, rfl⟩, trivial⟩ ⟨⟨rfl, rfl⟩, trivial⟩⟩)
    | (refine tidegateref36_Begin_l1_o hF (LeX.trans (LeX.adopt 4 7000 25 4 rfl rfl) (LeX.of [] rfl ⟨⟨rfl, rfl⟩, ⟨rfl, rfl⟩, ⟨rfl, rfl⟩, trivial⟩ ⟨⟨rfl, rfl⟩, trivial⟩)) (fun m v hF => ?_); unfold F_tidegateref36_Begin_l1 at hF)
    | (refine And.intro ⟨by kernel_rfl, by kernel_rfl⟩ ?_)
    | (refine EqX.mk (by first | rfl | kernel_rfl) ?_)
    | (refine TX.o (rl := fun r => List.map aTrk (r.1)) (res := T_tidegateref36_Begin) hF ?_; exact TX.mk _ 7000 (LeX.refl _ _ _) _ rfl rfl (by repeat' first | exact Sub.nil _ | exact Sub.refl _ | refine Sub.agg ?_ | refine Sub.tup ?_ | refine Sub.fn ?_ | exact SubL.nil | refine SubL.cons ?_ ?_ | refine Sub.sl _ ?_ | exact SubE.nil | refine SubE.cons ?_ ?_))
    | (refine TX.o (rl := fun r => List.map aTrk (r.1)) (res := T_tidegateref36_Begin) hF ?_; exact TX.mk _ 20 (LeX.refl _ _ _) _ rfl rfl (by repeat' first | exact Sub.nil _ | exact Sub.refl _ | refine Sub.agg ?_ | refine Sub.tup ?_ | refine Sub.fn ?_ | exact SubL.nil | refine SubL.cons ?_ ?_ | refine Sub.sl _ ?_ | exact SubE.nil | refine SubE.cons ?_ ?_))
    | (refine TX.o (rl := fun r => List.map aTrk (r.1)) (res := T_tidegateref36_Begin) hF ?_; exact TX.mk _ 9000 (LeX.adopt 2 9000 25 4 rfl rfl) _ rfl rfl (by repeat' first | exact Sub.nil _ | exact Sub.refl _ | refine Sub.agg ?_ | refine Sub.tup ?_ | refine Sub.fn ?_ | exact SubL.nil | refine SubL.cons ?_ ?_ | refine Sub.sl _ ?_ | exact SubE.nil | refine SubE.cons ?_ ?_))

theorem con_watermark_kinds : Con E0 true 73 [] (.agg [.fn 91 [], .fn 92 [], .fn 93 [], .fn 94 [], .fn 95 [], .fn 96 []]) := by
  refine Con.walk _ Try.func73 rfl (enters_of Try.func73 rfl rfl) rfl (Or.inr rfl) ?_
  repeat' first
    | (refine AW.step ?_; conv => whnf)
    | (refine CondX.o hF (fun hF => ?_) (fun hF => ?_))
    | (refine CondX.t ?_)
    | (refine CondX.f ?_)
    | (refine And.intro ⟨by kernel_rfl, by kernel_rfl⟩ ?_)
    | (refine EqX.mk (by first | rfl | kernel_rfl) ?_)
    | (exact RetX.mk rfl)

def R_watermark_ranged (r : Bool) : AV := .bool (r)
theorem con_watermark_ranged {n : Nat} {a0 : Int} {a1 : Int} {r : Bool} (hF : F_watermark_ranged n a0 a1 = some r) : Con E0 true 99 [aI (a0), aI (a1)] (R_watermark_ranged r) := by
  unfold F_watermark_ranged at hF
  refine Con.walk _ Try.func99 rfl (enters_of Try.func99 rfl rfl) rfl (Or.inr rfl) ?_
  repeat' first
    | (refine AW.step ?_; conv => whnf)
    | (refine CondX.o hF (fun hF => ?_) (fun hF => ?_))
    | (refine CondX.t ?_)
    | (refine CondX.f ?_)
    | (refine And.intro ⟨by kernel_rfl, by kernel_rfl⟩ ?_)
    | (refine EqX.mk (by first | rfl | kernel_rfl) ?_)
    | (exact RetX.o hF (by repeat' first | exact Sub.nil _ | exact Sub.refl _ | refine Sub.agg ?_ | refine Sub.tup ?_ | refine Sub.fn ?_ | exact SubL.nil | refine SubL.cons ?_ ?_ | refine Sub.sl _ ?_ | exact SubE.nil | refine SubE.cons ?_ ?_))

def R_watermark_checkEvent (r : Int) : AV := aI (r)
theorem con_watermark_checkEvent {n : Nat} {a0 : T_api_Message} {r : Int} (hF : F_watermark_checkEvent n a0 = some r) : Con E0 true 91 [.agg [aI (a0.fKind), aI (a0.fEvent.fSource), aI (a0.fEvent.fSeq), aI (a0.fEvent.fType), aI (a0.fEvent.fTime), .sl 3 (List.map e_api_Value (a0.fEvent.fValues)), aI (a0.fSource), aI (a0.fSeq), aI (a0.fTime)]] (R_watermark_checkEvent r) := by
  unfold F_watermark_checkEvent at hF
  refine Con.walk _ Try.func91 rfl (enters_of Try.func91 rfl rfl) rfl (Or.inr rfl) ?_
  repeat' first
    | (refine AW.step ?_; conv => whnf)
    | (refine CondX.o hF (fun hF => ?_) (fun hF => ?_))
    | (refine CondX.t ?_)
    | (refine CondX.f ?_)
    | (refine CallX.o hF R_watermark_ranged (fun a h => con_watermark_ranged h) (fun a hF => ?_))
    | (refine And.intro ⟨by kernel_rfl, by kernel_rfl⟩ ?_)
    | (refine EqX.mk (by first | rfl | kernel_rfl) ?_)
    | (exact RetX.o hF (by repeat' first | exact Sub.nil _ | exact Sub.refl _ | refine Sub.agg ?_ | refine Sub.tup ?_ | refine Sub.fn ?_ | exact SubL.nil | refine SubL.cons ?_ ?_ | refine Sub.sl _ ?_ | exact SubE.nil | refine SubE.cons ?_ ?_))

def R_watermark_valid (r : Bool) : AV := .bool (r)
theorem con_watermark_valid {n : Nat} {a0 : T_api_Message} {r : Bool} (hF : F_watermark_valid n a0 = some r) : Con E0 true 102 [.agg [aI (a0.fKind), aI (a0.fEvent.fSource), aI (a0.fEvent.fSeq), aI (a0.fEvent.fType), aI (a0.fEvent.fTime), .sl 3 (List.map e_api_Value (a0.fEvent.fValues)), aI (a0.fSource), aI (a0.fSeq), aI (a0.fTime)]] (R_watermark_valid r) := by
  unfold F_watermark_valid at hF
  refine Con.walk _ Try.func102 rfl (enters_of Try.func102 rfl rfl) rfl (Or.inr rfl) ?_
  repeat' first
    | (refine AW.step ?_; conv => whnf)
    | (refine CondX.o hF (fun hF => ?_) (fun hF => ?_))
    | (refine CondX.t ?_)
    | (refine CondX.f ?_)
    | (refine CallX.o hF R_sequence_Begin (fun a h => con_sequence_Begin h) (fun a hF => ?_))
    | (refine CallX.o hF R_puAdd (fun a h => con_puAdd h) (fun a hF => ?_))
    | (refine And.intro ⟨by kernel_rfl, by kernel_rfl⟩ ?_)
    | (refine EqX.mk (by first | rfl | kernel_rfl) ?_)
    | (exact RetX.o hF (by repeat' first | exact Sub.nil _ | exact Sub.refl _ | refine Sub.agg ?_ | refine Sub.tup ?_ | refine Sub.fn ?_ | exact SubL.nil | refine SubL.cons ?_ ?_ | refine Sub.sl _ ?_ | exact SubE.nil | refine SubE.cons ?_ ?_))

def R_watermark_checkPoint (r : Int) : AV := aI (r)
theorem con_watermark_checkPoint {n : Nat} {a0 : T_api_Message} {r : Int} (hF : F_watermark_checkPoint n a0 = some r) : Con E0 true 94 [.agg [aI (a0.fKind), aI (a0.fEvent.fSource), aI (a0.fEvent.fSeq), aI (a0.fEvent.fType), aI (a0.fEvent.fTime), .sl 3 (List.map e_api_Value (a0.fEvent.fValues)), aI (a0.fSource), aI (a0.fSeq), aI (a0.fTime)]] (R_watermark_checkPoint r) := by
  unfold F_watermark_checkPoint at hF
  refine Con.walk _ Try.func94 rfl (enters_of Try.func94 rfl rfl) rfl (Or.inr rfl) ?_
  repeat' first
    | (refine AW.step ?_; conv => whnf)
    | (refine CondX.o hF (fun hF => ?_) (fun hF => ?_))
    | (refine CondX.t ?_)
    | (refine CondX.f ?_)
    | (refine CallX.o hF R_watermark_ranged (fun a h => con_watermark_ranged h) (fun a hF => ?_))
    | (refine CallX.o hF R_watermark_valid (fun a h => con_watermark_valid h) (fun a hF => ?_))
    | (refine And.intro ⟨by kernel_rfl, by kernel_rfl⟩ ?_)
    | (refine EqX.mk (by first | rfl | kernel_rfl) ?_)
    | (exact RetX.o hF (by repeat' first | exact Sub.nil _ | exact Sub.refl _ | refine Sub.agg ?_ | refine Sub.tup ?_ | refine Sub.fn ?_ | exact SubL.nil | refine SubL.cons ?_ ?_ | refine Sub.sl _ ?_ | exact SubE.nil | refine SubE.cons ?_ ?_))

def R_watermark_CheckMessage (r : Int) : AV := aI (r)
theorem con_watermark_CheckMessage {n : Nat} {a0 : T_api_Message} {r : Int} (hF : F_watermark_CheckMessage n a0 = some r) : Con E0 true 34 [.agg [aI (a0.fKind), aI (a0.fEvent.fSource), aI (a0.fEvent.fSeq), aI (a0.fEvent.fType), aI (a0.fEvent.fTime), .sl 3 (List.map e_api_Value (a0.fEvent.fValues)), aI (a0.fSource), aI (a0.fSeq), aI (a0.fTime)]] (R_watermark_CheckMessage r) := by
  unfold F_watermark_CheckMessage at hF
  refine Con.walk _ Try.func34 rfl (enters_of Try.func34 rfl rfl) rfl (Or.inr rfl) ?_
  repeat' first
    | (refine AW.step ?_; conv => whnf)
    | (refine CondX.o hF (fun hF => ?_) (fun hF => ?_))
    | (refine CondX.t ?_)
    | (refine CondX.f ?_)
    | (refine CallX.mk _ _ con_watermark_kinds ?_)
    | (refine NatX.o2 hF (fun hF => ?_) (fun hF => ?_))
    | (refine CallX.o hF R_watermark_checkEvent (fun a h => con_watermark_checkEvent h) (fun a hF => ?_))
    | (refine CallX.o hF R_watermark_checkPoint (fun a h => con_watermark_checkPoint h) (fun a hF => ?_))
    | (refine And.intro ⟨by kernel_rfl, by kernel_rfl⟩ ?_)
    | (refine EqX.mk (by first | rfl | kernel_rfl) ?_)
    | (exact RetX.o hF (by repeat' first | exact Sub.nil _ | exact Sub.refl _ | refine Sub.agg ?_ | refine Sub.tup ?_ | refine Sub.fn ?_ | exact SubL.nil | refine SubL.cons ?_ ?_ | refine Sub.sl _ ?_ | exact SubE.nil | refine SubE.cons ?_ ?_))

def R_tidegateref36_within (r : Bool) : AV := .bool (r)
theorem con_tidegateref36_within {n : Nat} {a0 : Int} {a1 : Int} {r : Bool} (hF : F_tidegateref36_within n a0 a1 = some r) : Con E0 true 74 [aI (a0), aI (a1)] (R_tidegateref36_within r) := by
  unfold F_tidegateref36_within at hF
  refine Con.walk _ Try.func74 rfl (enters_of Try.func74 rfl rfl) rfl (Or.inr rfl) ?_
  repeat' first
    | (refine AW.step ?_; conv => whnf)
    | (refine CondX.o hF (fun hF => ?_) (fun hF => ?_))
    | (refine CondX.t ?_)
    | (refine CondX.f ?_)
    | (refine And.intro ⟨by kernel_rfl, by kernel_rfl⟩ ?_)
    | (refine EqX.mk (by first | rfl | kernel_rfl) ?_)
    | (exact RetX.o hF (by repeat' first | exact Sub.nil _ | exact Sub.refl _ | refine Sub.agg ?_ | refine Sub.tup ?_ | refine Sub.fn ?_ | exact SubL.nil | refine SubL.cons ?_ ?_ | refine Sub.sl _ ?_ | exact SubE.nil | refine SubE.cons ?_ ?_))

def R_tidegateref35_Valid (r : Bool) : AV := .bool (r)
theorem con_tidegateref35_Valid {n : Nat} {a0 : Pt} {r : Bool} (hF : F_tidegateref35_Valid n a0 = some r) : Con E0 true 64 [.agg [aI (a0.seq), aI (a0.time)]] (R_tidegateref35_Valid r) := by
  unfold F_tidegateref35_Valid at hF
  refine Con.walk _ Try.func64 rfl (enters_of Try.func64 rfl rfl) rfl (Or.inr rfl) ?_
  repeat' first
    | (refine AW.step ?_; conv => whnf)
    | (refine CondX.o hF (fun hF => ?_) (fun hF => ?_))
    | (refine CondX.t ?_)
    | (refine CondX.f ?_)
    | (refine And.intro ⟨by kernel_rfl, by kernel_rfl⟩ ?_)
    | (refine EqX.mk (by first | rfl | kernel_rfl) ?_)
    | (exact RetX.o hF (by repeat' first | exact Sub.nil _ | exact Sub.refl _ | refine Sub.agg ?_ | refine Sub.tup ?_ | refine Sub.fn ?_ | exact SubL.nil | refine SubL.cons ?_ ?_ | refine Sub.sl _ ?_ | exact SubE.nil | refine SubE.cons ?_ ?_))

def R_tidegateref36_CheckMessage (r : Int) : AV := aI (r)
theorem con_tidegateref36_CheckMessage {n : Nat} {a0 : T_api_Message} {r : Int} (hF : F_tidegateref36_CheckMessage n a0 = some r) : Con E0 true 35 [.agg [aI (a0.fKind), aI (a0.fEvent.fSource), aI (a0.fEvent.fSeq), aI (a0.fEvent.fType), aI (a0.fEvent.fTime), .sl 3 (List.map e_api_Value (a0.fEvent.fValues)), aI (a0.fSource), aI (a0.fSeq), aI (a0.fTime)]] (R_tidegateref36_CheckMessage r) := by
  unfold F_tidegateref36_CheckMessage at hF
  refine Con.walk _ Try.func35 rfl (enters_of Try.func35 rfl rfl) rfl (Or.inr rfl) ?_
  repeat' first
    | (refine AW.step ?_; conv => whnf)
    | (refine CondX.o hF (fun hF => ?_) (fun hF => ?_))
    | (refine CondX.t ?_)
    | (refine CondX.f ?_)
    | (refine CallX.o hF R_tidegateref36_within (fun a h => con_tidegateref36_within h) (fun a hF => ?_))
    | (refine CallX.o hF R_tidegateref35_Valid (fun a h => con_tidegateref35_Valid h) (fun a hF => ?_))
    | (refine And.intro ⟨by kernel_rfl, by kernel_rfl⟩ ?_)
    | (refine EqX.mk (by first | rfl | kernel_rfl) ?_)
    | (exact RetX.o hF (by repeat' first | exact Sub.nil _ | exact Sub.refl _ | refine Sub.agg ?_ | refine Sub.tup ?_ | refine Sub.fn ?_ | exact SubL.nil | refine SubL.cons ?_ ?_ | refine Sub.sl _ ?_ | exact SubE.nil | refine SubE.cons ?_ ?_))

def S_watermark_Check_l1 (a0 : (List Trk)) (v1_0 : Int) : AS := ⟨[(9, .sl 4 (List.map aTrk (a0))), (10, aI ((((List.map aTrk (a0)).length : Nat) : Int))), (11, aI (v1_0))], []⟩
theorem watermark_Check_l1_o {n N : Nat} {a0 : (List Trk)} {k1_0_0 : Option (Int)} {R : Exit → AS → Prop} {K : List KItem} {c : Code} {σ : AS} {v0 : Int} {r : Int} (hF : F_watermark_Check_l1 n a0 k1_0_0 N v0 = some r) (hl : LeX E0 21 σ (S_watermark_Check_l1 a0 v0)) (round : ∀ m v, F_watermark_Check_l1 n a0 k1_0_0 (m + 1) v = some r → AW E0 21 (thenA (fun σ' => ∃ v', F_watermark_Check_l1 n a0 k1_0_0 m v' = some r ∧ LeX E0 21 σ' (S_watermark_Check_l1 a0 v')) (AW E0 21 R K)) [.code c] .normal (S_watermark_Check_l1 a0 v)) : LoopX E0 21 (fun next σ' => AW E0 21 (thenA next (AW E0 21 R K)) [.code c] .normal σ') σ :=
  LoopA.o (S := S_watermark_Check_l1 a0) hF (fun _ => rfl) hl round
def R_watermark_Check (r : Int) : AV := aI (r)
theorem con_watermark_Check {n : Nat} {a0 : (List Trk)} {r : Int} (hF : F_watermark_Check n a0 = some r) : Con E0 true 32 [.sl 4 (List.map aTrk (a0))] (R_watermark_Check r) := by
  unfold F_watermark_Check at hF
  refine Con.walk _ Try.func32 rfl (enters_of Try.func32 rfl rfl) rfl (Or.inr rfl) ?_
  repeat' first
    | (refine AW.step ?_; conv => whnf)
    | (refine CondX.o hF (fun hF => ?_) (fun hF => ?_))
    | (refine CondX.t ?_)
    | (refine CondX.f ?_)
    | (refine IdxX.o aTrk hF (fun x hF => ?_))
    | (refine CallX.o hF R_puCheck (fun a h => con_puCheck h) (fun a hF => ?_))
    | (exact ⟨_, hF, LeX.of [] rfl ⟨⟨rfl, rfl⟩, ⟨rfl, rfl⟩, ⟨rfl, rfl⟩, trivial⟩ trivial⟩)
    | (refine watermark_Check_l1_o hF (LeX.of [] rfl ⟨⟨rfl, rfl⟩, ⟨rfl, rfl⟩, ⟨rfl, rfl⟩, trivial⟩ trivial) (fun m v hF => ?_); unfold F_watermark_Check_l1 at hF)
    | (refine And.intro ⟨by kernel_rfl, by kernel_rfl⟩ ?_)
    | (refine EqX.mk (by first | rfl | kernel_rfl) ?_)
    | (exact RetX.o hF (by repeat' first | exact Sub.nil _ | exact Sub.refl _ | refine Sub.agg ?_ | refine Sub.tup ?_ | refine Sub.fn ?_ | exact SubL.nil | refine SubL.cons ?_ ?_ | refine Sub.sl _ ?_ | exact SubE.nil | refine SubE.cons ?_ ?_))

def S_tidegateref36_Check_l1 (a0 : (List Trk)) (v1_0 : Int) : AS := ⟨[(0, .sl 4 (List.map aTrk (a0))), (3, aI (v1_0))], []⟩
theorem tidegateref36_Check_l1_o {n N : Nat} {a0 : (List Trk)} {k1_0_0 : Option (Int)} {R : Exit → AS → Prop} {K : List KItem} {c : Code} {σ : AS} {v0 : Int} {r : Int} (hF : F_tidegateref36_Check_l1 n a0 k1_0_0 N v0 = some r) (hl : LeX E0 22 σ (S_tidegateref36_Check_l1 a0 v0)) (round : ∀ m v, F_tidegateref36_Check_l1 n a0 k1_0_0 (m + 1) v = some r → AW E0 22 (thenA (fun σ' => ∃ v', F_tidegateref36_Check_l1 n a0 k1_0_0 m v' = some r ∧ LeX E0 22 σ' (S_tidegateref36_Check_l1 a0 v')) (AW E0 22 R K)) [.code c] .normal (S_tidegateref36_Check_l1 a0 v)) : LoopX E0 22 (fun next σ' => AW E0 22 (thenA next (AW E0 22 R K)) [.code c] .normal σ') σ :=
  LoopA.o (S := S_tidegateref36_Check_l1 a0) hF (fun _ => rfl) hl round
def R_tidegateref36_Check (r : Int) : AV := aI (r)
theorem con_tidegateref36_Check {n : Nat} {a0 : (List Trk)} {r : Int} (hF : F_tidegateref36_Check n a0 = some r) : Con E0 true 33 [.sl 4 (List.map aTrk (a0))] (R_tidegateref36_Check r) := by
  unfold F_tidegateref36_Check at hF
  refine Con.walk _ Try.func33 rfl (enters_of Try.func33 rfl rfl) rfl (Or.inr rfl) ?_
  repeat' first
    | (refine AW.step ?_; conv => whnf)
    | (refine CondX.o hF (fun hF => ?_) (fun hF => ?_))
    | (refine CondX.t ?_)
    | (refine CondX.f ?_)
    | (refine IdxX.o aTrk hF (fun x hF => ?_))
    | (refine CallX.o hF R_puCheck (fun a h => con_rpuCheck h) (fun a hF => ?_))
    | (exact ⟨_, hF, LeX.of [] rfl ⟨⟨rfl, rfl⟩, ⟨rfl, rfl⟩, trivial⟩ trivial⟩)
    | (refine tidegateref36_Check_l1_o hF (LeX.of [] rfl ⟨⟨rfl, rfl⟩, ⟨rfl, rfl⟩, trivial⟩ trivial) (fun m v hF => ?_); unfold F_tidegateref36_Check_l1 at hF)
    | (refine And.intro ⟨by kernel_rfl, by kernel_rfl⟩ ?_)
    | (refine EqX.mk (by first | rfl | kernel_rfl) ?_)
    | (exact RetX.o hF (by repeat' first | exact Sub.nil _ | exact Sub.refl _ | refine Sub.agg ?_ | refine Sub.tup ?_ | refine Sub.fn ?_ | exact SubL.nil | refine SubL.cons ?_ ?_ | refine Sub.sl _ ?_ | exact SubE.nil | refine SubE.cons ?_ ?_))

def S_watermark_least_l1 (a0 : (List Trk)) (v1_0 : Int × Int) : AS := ⟨[(0, .sl 4 (List.map aTrk (a0))), (3, aI (v1_0.1)), (6, .sl 4 (List.map aTrk (a0))), (7, aI ((((List.map aTrk (a0)).length : Nat) : Int))), (8, aI (v1_0.2))], []⟩
theorem watermark_least_l1_o {n N : Nat} {a0 : (List Trk)} {k1_0_0 : Int → Option (Int)} {R : Exit → AS → Prop} {K : List KItem} {c : Code} {σ : AS} {v0 : Int × Int} {r : Int} (hF : F_watermark_least_l1 n a0 k1_0_0 N v0 = some r) (hl : LeX E0 28 σ (S_watermark_least_l1 a0 v0)) (round : ∀ m v, F_watermark_least_l1 n a0 k1_0_0 (m + 1) v = some r → AW E0 28 (thenA (fun σ' => ∃ v', F_watermark_least_l1 n a0 k1_0_0 m v' = some r ∧ LeX E0 28 σ' (S_watermark_least_l1 a0 v')) (AW E0 28 R K)) [.code c] .normal (S_watermark_least_l1 a0 v)) : LoopX E0 28 (fun next σ' => AW E0 28 (thenA next (AW E0 28 R K)) [.code c] .normal σ') σ :=
  LoopA.o (S := S_watermark_least_l1 a0) hF (fun _ => rfl) hl round
def R_watermark_least (r : Int) : AV := aI (r)
theorem con_watermark_least {n : Nat} {a0 : (List Trk)} {r : Int} (hF : F_watermark_least n a0 = some r) : Con E0 true 75 [.sl 4 (List.map aTrk (a0))] (R_watermark_least r) := by
  unfold F_watermark_least at hF
  refine Con.walk _ Try.func75 rfl (enters_of Try.func75 rfl rfl) rfl (Or.inr rfl) ?_
  repeat' first
    | (refine AW.step ?_; conv => whnf)
    | (refine CondX.o hF (fun hF => ?_) (fun hF => ?_))
    | (refine CondX.t ?_)
    | (refine CondX.f ?_)
    | (refine IdxX.o aTrk hF (fun x hF => ?_))
    | (exact ⟨_, hF, LeX.of [] rfl ⟨⟨rfl, rfl⟩, ⟨rfl, rfl⟩, ⟨rfl, rfl⟩, ⟨rfl, rfl⟩, ⟨rfl, rfl⟩, trivial⟩ trivial⟩)
    | (refine watermark_least_l1_o hF (LeX.of [] rfl ⟨⟨rfl, rfl⟩, ⟨rfl, rfl⟩, ⟨rfl, rfl⟩, ⟨rfl, rfl⟩, ⟨rfl, rfl⟩, trivial⟩ trivial) (fun m v hF => ?_); unfold F_watermark_least_l1 at hF)
    | (refine And.intro ⟨by kernel_rfl, by kernel_rfl⟩ ?_)
    | (refine EqX.mk (by first | rfl | kernel_rfl) ?_)
    | (exact RetX.o hF (by repeat' first | exact Sub.nil _ | exact Sub.refl _ | refine Sub.agg ?_ | refine Sub.tup ?_ | refine Sub.fn ?_ | exact SubL.nil | refine SubL.cons ?_ ?_ | refine Sub.sl _ ?_ | exact SubE.nil | refine SubE.cons ?_ ?_))

def R_watermark_Global (r : Int × Int) : AV := .tup [aI (r.1), aI (r.2)]
theorem con_watermark_Global {n : Nat} {a0 : (List Trk)} {r : Int × Int} (hF : F_watermark_Global n a0 = some r) : Con E0 true 36 [.sl 4 (List.map aTrk (a0))] (R_watermark_Global r) := by
  unfold F_watermark_Global at hF
  refine Con.walk _ Try.func36 rfl (enters_of Try.func36 rfl rfl) rfl (Or.inr rfl) ?_
  repeat' first
    | (refine AW.step ?_; conv => whnf)
    | (refine CondX.o hF (fun hF => ?_) (fun hF => ?_))
    | (refine CondX.t ?_)
    | (refine CondX.f ?_)
    | (refine CallX.o hF R_watermark_Check (fun a h => con_watermark_Check h) (fun a hF => ?_))
    | (refine CallX.o hF R_watermark_least (fun a h => con_watermark_least h) (fun a hF => ?_))
    | (refine IdxX.o aTrk hF (fun x hF => ?_))
    | (refine And.intro ⟨by kernel_rfl, by kernel_rfl⟩ ?_)
    | (refine EqX.mk (by first | rfl | kernel_rfl) ?_)
    | (exact RetX.o hF (by repeat' first | exact Sub.nil _ | exact Sub.refl _ | refine Sub.agg ?_ | refine Sub.tup ?_ | refine Sub.fn ?_ | exact SubL.nil | refine SubL.cons ?_ ?_ | refine Sub.sl _ ?_ | exact SubE.nil | refine SubE.cons ?_ ?_))

def S_tidegateref36_Least_l1 (a0 : (List Trk)) (v1_0 : Int × Int) : AS := ⟨[(0, .sl 4 (List.map aTrk (a0))), (3, aI (v1_0.1)), (4, aI (v1_0.2))], []⟩
theorem tidegateref36_Least_l1_o {n N : Nat} {a0 : (List Trk)} {k1_0_0 : Int → Option (Int)} {R : Exit → AS → Prop} {K : List KItem} {c : Code} {σ : AS} {v0 : Int × Int} {r : Int} (hF : F_tidegateref36_Least_l1 n a0 k1_0_0 N v0 = some r) (hl : LeX E0 19 σ (S_tidegateref36_Least_l1 a0 v0)) (round : ∀ m v, F_tidegateref36_Least_l1 n a0 k1_0_0 (m + 1) v = some r → AW E0 19 (thenA (fun σ' => ∃ v', F_tidegateref36_Least_l1 n a0 k1_0_0 m v' = some r ∧ LeX E0 19 σ' (S_tidegateref36_Least_l1 a0 v')) (AW E0 19 R K)) [.code c] .normal (S_tidegateref36_Least_l1 a0 v)) : LoopX E0 19 (fun next σ' => AW E0 19 (thenA next (AW E0 19 R K)) [.code c] .normal σ') σ :=
  LoopA.o (S := S_tidegateref36_Least_l1 a0) hF (fun _ => rfl) hl round
def R_tidegateref36_Least (r : Int) : AV := aI (r)
theorem con_tidegateref36_Least {n : Nat} {a0 : (List Trk)} {r : Int} (hF : F_tidegateref36_Least n a0 = some r) : Con E0 true 76 [.sl 4 (List.map aTrk (a0))] (R_tidegateref36_Least r) := by
  unfold F_tidegateref36_Least at hF
  refine Con.walk _ Try.func76 rfl (enters_of Try.func76 rfl rfl) rfl (Or.inr rfl) ?_
  repeat' first
    | (refine AW.step ?_; conv => whnf)
    | (refine CondX.o hF (fun hF => ?_) (fun hF => ?_))
    | (refine CondX.t ?_)
    | (refine CondX.f ?_)
    | (refine IdxX.o aTrk hF (fun x hF => ?_))
    | (exact ⟨_, hF, LeX.of [] rfl ⟨⟨rfl, rfl⟩, ⟨rfl, rfl⟩, ⟨rfl, rfl⟩, trivial⟩ trivial⟩)
    | (refine tidegateref36_Least_l1_o hF (LeX.of [] rfl ⟨⟨rfl, rfl⟩, ⟨rfl, rfl⟩, ⟨rfl, rfl⟩, trivial⟩ trivial) (fun m v hF => ?_); unfold F_tidegateref36_Least_l1 at hF)
    | (refine And.intro ⟨by kernel_rfl, by kernel_rfl⟩ ?_)
    | (refine EqX.mk (by first | rfl | kernel_rfl) ?_)
    | (exact RetX.o hF (by repeat' first | exact Sub.nil _ | exact Sub.refl _ | refine Sub.agg ?_ | refine Sub.tup ?_ | refine Sub.fn ?_ | exact SubL.nil | refine SubL.cons ?_ ?_ | refine Sub.sl _ ?_ | exact SubE.nil | refine SubE.cons ?_ ?_))

def R_tidegateref36_Global (r : Int × Int) : AV := .tup [aI (r.1), aI (r.2)]
theorem con_tidegateref36_Global {n : Nat} {a0 : (List Trk)} {r : Int × Int} (hF : F_tidegateref36_Global n a0 = some r) : Con E0 true 37 [.sl 4 (List.map aTrk (a0))] (R_tidegateref36_Global r) := by
  unfold F_tidegateref36_Global at hF
  refine Con.walk _ Try.func37 rfl (enters_of Try.func37 rfl rfl) rfl (Or.inr rfl) ?_
  repeat' first
    | (refine AW.step ?_; conv => whnf)
    | (refine CondX.o hF (fun hF => ?_) (fun hF => ?_))
    | (refine CondX.t ?_)
    | (refine CondX.f ?_)
    | (refine CallX.o hF R_tidegateref36_Check (fun a h => con_tidegateref36_Check h) (fun a hF => ?_))
    | (refine CallX.o hF R_tidegateref36_Least (fun a h => con_tidegateref36_Least h) (fun a hF => ?_))
    | (refine And.intro ⟨by kernel_rfl, by kernel_rfl⟩ ?_)
    | (refine EqX.mk (by first | rfl | kernel_rfl) ?_)
    | (exact RetX.o hF (by repeat' first | exact Sub.nil _ | exact Sub.refl _ | refine Sub.agg ?_ | refine Sub.tup ?_ | refine Sub.fn ?_ | exact SubL.nil | refine SubL.cons ?_ ?_ | refine Sub.sl _ ?_ | exact SubE.nil | refine SubE.cons ?_ ?_))

set_option maxHeartbeats 400000 in
theorem clone69_any (l : List (Cel 1)) (S : Nat → Prop) (v : Value) (w : World) (h : Sl w S 1 encC v l) (hl : l.length ≤ 1000000000) :
    Calls Try.prog 69 #[v] w (RetOwn 3 1 encC l w) := by
  have eok : EOk Try.prog 22 3 1 8 (encC (n := 1)) := eokC (sz := 1) tyOk22 rfl tyOk3 (by omega) rfl
  obtain ⟨A, c, rfl, hc, _⟩ := h.form
  have hq := fun (W : World) => Lib.run_eql_slice_nil W 22 3 A l.length c 0 0 Try.underlying22
  have H := hide h
  cases A with
  | none =>
    have h0 : l = [] := h.none_nil
    subst h0
    clear h H hl hc
    simp only [List.length_nil, Option.isNone_none] at hq ⊢
    go_enter Try.func69, Try.ntmps69
    go_wp2
    go_ret
    exact ⟨none, 0, rfl, Own.nil_, by go_grown⟩
  | some ad =>
    clear h
    go_enter Try.func69, Try.ntmps69
    go_wp2_with (at_builtin; refine wpList_append_sl rfl _ _ rfl eok rfl Own.made_ rfl (H.out.alloc _) (by simp; omega) (by omega) (by simp) ?_; intro A' c' w1 ho hg _)
    go_ret
    exact ⟨A', c', rfl, ho, (Own.made_ (sz := 1) (enc := encC (n := 1))).grown ((Below.refl _ _).alloc (Nat.le_refl _) _) (Nat.le_refl _) (by simp) hg⟩
theorem conT_clone69 {n : Nat} {a r : List Int} (hF : F_clone n a = some r) : ConT E0 69 [.sl 1 (List.map aI a)] 3 1 (List.map aI r) (.row 0) := clone_gen rfl (enters_of Try.func69 rfl rfl) clone69_any hF
theorem con_clone69 {n : Nat} {a r : List Int} (hF : F_clone n a = some r) : Con E0 false 69 [.sl 1 (List.map aI a)] (.sl 1 (List.map aI r)) := (conT_clone69 hF).close
def S_watermark_Missing_l1 (x2 : Int) (x4 : Pt) (x6 : (List Int)) (v1_0 : Int × Int × (List (Int × Int))) : AS := ⟨[(6, aI (x2)), (8, aI (x4.seq)), (9, .row 7000), (10, aI (v1_0.1)), (43, .row 43), (44, aI ((((List.map aI (x6)).length : Nat) : Int))), (45, aI (v1_0.2.1))], [(7000, .row 93 2 (List.map aIv (v1_0.2.2))), (43, .row 3 1 (List.map aI (x6)))]⟩
theorem watermark_Missing_l1_o {n N : Nat} {x2 : Int} {x4 : Pt} {x6 : (List Int)} {k1_0_0 : Int → (List (Int × Int)) → Option (Int × (List (Int × Int)) × Int)} {R : Exit → AS → Prop} {K : List KItem} {c : Code} {σ : AS} {v0 : Int × Int × (List (Int × Int))} {r : Int × (List (Int × Int)) × Int} (hF : F_watermark_Missing_l1 n x2 x4 x6 k1_0_0 N v0 = some r) (hl : LeX E0 69 σ (S_watermark_Missing_l1 x2 x4 x6 v0)) (round : ∀ m v, F_watermark_Missing_l1 n x2 x4 x6 k1_0_0 (m + 1) v = some r → AW E0 69 (thenA (fun σ' => ∃ v', F_watermark_Missing_l1 n x2 x4 x6 k1_0_0 m v' = some r ∧ LeX E0 69 σ' (S_watermark_Missing_l1 x2 x4 x6 v')) (AW E0 69 R K)) [.code c] .normal (S_watermark_Missing_l1 x2 x4 x6 v)) : LoopX E0 69 (fun next σ' => AW E0 69 (thenA next (AW E0 69 R K)) [.code c] .normal σ') σ :=
  LoopA.o (S := S_watermark_Missing_l1 x2 x4 x6) hF (fun _ => rfl) hl round
def R_watermark_Missing (r : Int × (List (Int × Int)) × Int) : AV := .tup [aI (r.1), .sl 2 (List.map aIv (r.2.1)), aI (r.2.2)]
theorem con_watermark_Missing {n : Nat} {a0 : (List Trk)} {r : Int × (List (Int × Int)) × Int} (hF : F_watermark_Missing n a0 = some r) : Con E0 false 38 [.sl 4 (List.map aTrk (a0))] (R_watermark_Missing r) := by
  unfold F_watermark_Missing at hF
  refine Con.walk _ Try.func38 rfl (enters_of Try.func38 rfl rfl) rfl (Or.inl rfl) ?_
  repeat' first
    | (refine AW.step ?_; conv => whnf)
    | (refine CondX.o hF (fun hF => ?_) (fun hF => ?_))
    | (refine CondX.t ?_)
    | (refine CondX.f ?_)
    | (refine CallX.o hF R_watermark_Check (fun a h => con_watermark_Check h) (fun a hF => ?_))
    | (refine CallX.o hF R_watermark_least (fun a h => con_watermark_least h) (fun a hF => ?_))
    | (refine IdxX.o aTrk hF (fun x hF => ?_))
    | (refine IdxX.o aPt hF (fun x hF => ?_))
    | (refine CallX.oR hF (fun r => r) aI (fun _ => AV.row 0) (fun a h => conT_clone69 h) (fun a hF => ?_))
    | (refine CallX.oR hF (fun r => r) aI (fun _ => AV.row 0) (fun a h => ConT.sub (by repeat' first | exact Sub.nil _ | exact Sub.refl _ | refine Sub.agg ?_ | refine Sub.tup ?_ | refine Sub.fn ?_ | exact SubL.nil | refine SubL.cons ?_ ?_ | refine Sub.sl _ ?_ | exact SubE.nil | refine SubE.cons ?_ ?_) (conT_clone69 h)) (fun a hF => ?_))
    | (refine AppX.o aI hF (by first | exact SubR.refl _ | (repeat' first | exact SubR.nil | refine SubR.cons ?_ ?_ | exact SubL.nil | refine SubL.cons ?_ ?_ | exact Sub.refl _ | exact Sub.nil _)) (fun l hF => ?_))
    | (refine NatX.o hF (fun m hF => ?_))
    | (refine EltX.o aI hF (fun x hF => ?_))
    | (refine AppX.o aIv hF (by first | exact SubR.refl _ | (repeat' first | exact SubR.nil | refine SubR.cons ?_ ?_ | exact SubL.nil | refine SubL.cons ?_ ?_ | exact Sub.refl _ | exact Sub.nil _)) (fun l hF => ?_))
    | (exact ⟨_, hF, LeX.of [(7000, 61)] rfl ⟨⟨rfl, rfl⟩, ⟨rfl, rfl⟩, ⟨rfl, rfl⟩, ⟨rfl, rfl⟩, ⟨rfl, rfl⟩, ⟨rfl, rfl⟩, ⟨rfl, rfl⟩, trivial⟩ ⟨⟨rfl, rfl⟩, ⟨rfl, rfl⟩, trivial⟩⟩)
    | (exact ⟨_, hF, LeX.of [] rfl ⟨⟨rfl, rfl⟩, ⟨rfl, rfl⟩, ⟨rfl, rfl⟩, ⟨rfl, rfl⟩, ⟨rfl, rfl⟩, ⟨rfl, rfl⟩, ⟨rfl, rfl⟩, trivial⟩ ⟨⟨rfl, rfl⟩, ⟨rfl, rfl⟩, trivial⟩⟩)
    | (refine watermark_Missing_l1_o hF (LeX.trans (LeX.adopt 9 7000 93 2 rfl rfl) (LeX.of [] rfl ⟨⟨rfl, rfl⟩, ⟨rfl, rfl⟩, ⟨rfl, rfl⟩, ⟨rfl, rfl⟩, ⟨rfl, rfl⟩, ⟨rfl, rfl⟩, ⟨rfl, rfl⟩, trivial⟩ ⟨⟨rfl, rfl⟩, ⟨rfl, rfl⟩, trivial⟩)) (fun m v hF => ?_); unfold F_watermark_Missing_l1 at hF)
    | (refine And.intro ⟨by kernel_rfl, by kernel_rfl⟩ ?_)
    | (refine EqX.mk (by first | rfl | kernel_rfl) ?_)
    | (exact RetX.o hF (by repeat' first | exact Sub.nil _ | exact Sub.refl _ | refine Sub.agg ?_ | refine Sub.tup ?_ | refine Sub.fn ?_ | exact SubL.nil | refine SubL.cons ?_ ?_ | refine Sub.sl _ ?_ | exact SubE.nil | refine SubE.cons ?_ ?_))

def T_watermark_Missing (r : Int × (List (Int × Int)) × Int) : AV := .tup [aI (r.1), .row 0, aI (r.2.2)]
theorem conT_watermark_Missing {n : Nat} {a0 : (List Trk)} {r : Int × (List (Int × Int)) × Int} (hF : F_watermark_Missing n a0 = some r) : ConT E0 38 [.sl 4 (List.map aTrk (a0))] 93 2 (List.map aIv (r.2.1)) (T_watermark_Missing r) := by
  unfold F_watermark_Missing at hF
  refine ConT.walk _ Try.func38 rfl (enters_of Try.func38 rfl rfl) rfl rfl ?_
  repeat' first
    | (refine AW.step ?_; conv => whnf)
    | (refine CondX.o hF (fun hF => ?_) (fun hF => ?_))
    | (refine CondX.t ?_)
    | (refine CondX.f ?_)
    | (refine CallX.o hF R_watermark_Check (fun a h => con_watermark_Check h) (fun a hF => ?_))
    | (refine CallX.o hF R_watermark_least (fun a h => con_watermark_least h) (fun a hF => ?_))
    | (refine IdxX.o aTrk hF (fun x hF => ?_))
    | (refine IdxX.o aPt hF (fun x hF => ?_))
    | (refine CallX.oR hF (fun r => r) aI (fun _ => AV.row 0) (fun a h => conT_clone69 h) (fun a hF => ?_))
    | (refine CallX.oR hF (fun r => r) aI (fun _ => AV.row 0) (fun a h => ConT.sub (by repeat' first | exact Sub.nil _ | exact Sub.refl _ | refine Sub.agg ?_ | refine Sub.tup ?_ | refine Sub.fn ?_ | exact SubL.nil | refine SubL.cons ?_ ?_ | refine Sub.sl _ ?_ | exact SubE.nil | refine SubE.cons ?_ ?_) (conT_clone69 h)) (fun a hF => ?_))
    | (refine AppX.o aI hF (by first | exact SubR.refl _ | (repeat' first | exact SubR.nil | refine SubR.cons ?_ ?_ | exact SubL.nil | refine SubL.cons ?_ ?_ | exact Sub.refl _ | exact Sub.nil _)) (fun l hF => ?_))
    | (refine NatX.o hF (fun m hF => ?_))
    | (refine EltX.o aI hF (fun x hF => ?_))
    | (refine AppX.o aIv hF (by first | exact SubR.refl _ | (repeat' first | exact SubR.nil | refine SubR.cons ?_ ?_ | exact SubL.nil | refine SubL.cons ?_ ?_ | exact Sub.refl _ | exact Sub.nil _)) (fun l hF => ?_))
    | (exact ⟨_, hF, LeX.of [(7000, 61)] rfl ⟨⟨rfl, rfl⟩, ⟨rfl, rfl⟩, ⟨rfl, rfl⟩, ⟨rfl, rfl⟩, ⟨rfl, rfl⟩, ⟨rfl, rfl⟩, ⟨rfl, rfl⟩, trivial⟩ ⟨⟨rfl, rfl⟩, ⟨rfl, rfl⟩, trivial⟩⟩)
    | (exact ⟨_, hF, LeX.of [] rfl ⟨⟨rfl, rfl⟩, ⟨rfl, rfl⟩, ⟨rfl, rfl⟩, ⟨rfl, rfl⟩, ⟨rfl, rfl⟩, ⟨rfl, rfl⟩, ⟨rfl, rfl⟩, trivial⟩ ⟨⟨rfl, rfl⟩, ⟨rfl, rfl⟩, trivial⟩⟩)
    | (refine watermark_Missing_l1_o hF (LeX.trans (LeX.adopt 9 7000 93 2 rfl rfl) (LeX.of [] rfl ⟨⟨rfl, rfl⟩, ⟨rfl, rfl⟩, ⟨rfl, rfl⟩, ⟨rfl, rfl⟩, ⟨rfl, rfl⟩, ⟨rfl, rfl⟩, ⟨rfl, rfl⟩, trivial⟩ ⟨⟨rfl, rfl⟩, ⟨rfl, rfl⟩, trivial⟩)) (fun m v hF => ?_); unfold F_watermark_Missing_l1 at hF)
    | (refine And.intro ⟨by kernel_rfl, by kernel_rfl⟩ ?_)
    | (refine EqX.mk (by first | rfl | kernel_rfl) ?_)
    | (refine TX.o (rl := fun r => List.map aIv (r.2.1)) (res := T_watermark_Missing) hF ?_; exact TX.mk _ 7000 (LeX.refl _ _ _) _ rfl rfl (by repeat' first | exact Sub.nil _ | exact Sub.refl _ | refine Sub.agg ?_ | refine Sub.tup ?_ | refine Sub.fn ?_ | exact SubL.nil | refine SubL.cons ?_ ?_ | refine Sub.sl _ ?_ | exact SubE.nil | refine SubE.cons ?_ ?_))
    | (refine TX.o (rl := fun r => List.map aIv (r.2.1)) (res := T_watermark_Missing) hF ?_; exact TX.mk _ 61 (LeX.refl _ _ _) _ rfl rfl (by repeat' first | exact Sub.nil _ | exact Sub.refl _ | refine Sub.agg ?_ | refine Sub.tup ?_ | refine Sub.fn ?_ | exact SubL.nil | refine SubL.cons ?_ ?_ | refine Sub.sl _ ?_ | exact SubE.nil | refine SubE.cons ?_ ?_))
    | (refine TX.o (rl := fun r => List.map aIv (r.2.1)) (res := T_watermark_Missing) hF ?_; exact TX.mk _ 43 (LeX.refl _ _ _) _ rfl rfl (by repeat' first | exact Sub.nil _ | exact Sub.refl _ | refine Sub.agg ?_ | refine Sub.tup ?_ | refine Sub.fn ?_ | exact SubL.nil | refine SubL.cons ?_ ?_ | refine Sub.sl _ ?_ | exact SubE.nil | refine SubE.cons ?_ ?_))
    | (refine TX.o (rl := fun r => List.map aIv (r.2.1)) (res := T_watermark_Missing) hF ?_; exact TX.mk _ 40 (LeX.refl _ _ _) _ rfl rfl (by repeat' first | exact Sub.nil _ | exact Sub.refl _ | refine Sub.agg ?_ | refine Sub.tup ?_ | refine Sub.fn ?_ | exact SubL.nil | refine SubL.cons ?_ ?_ | refine Sub.sl _ ?_ | exact SubE.nil | refine SubE.cons ?_ ?_))
    | (refine TX.o (rl := fun r => List.map aIv (r.2.1)) (res := T_watermark_Missing) hF ?_; exact TX.mk _ 9000 (LeX.adopt 3 9000 93 2 rfl rfl) _ rfl rfl (by repeat' first | exact Sub.nil _ | exact Sub.refl _ | refine Sub.agg ?_ | refine Sub.tup ?_ | refine Sub.fn ?_ | exact SubL.nil | refine SubL.cons ?_ ?_ | refine Sub.sl _ ?_ | exact SubE.nil | refine SubE.cons ?_ ?_))

def S_tidegateref36_lacking_l1 (a1 : Int) (a0 : Trk) (v1_0 : Int × Int × (List (Int × Int))) : AS := ⟨[(1, aI (a1)), (2, .ptr 2 0), (5, .row 7000), (6, aI (v1_0.1)), (7, aI (v1_0.2.1))], [(2, .box 25 [aI (a0.next), .sl 1 (List.map aI (a0.beyond)), .sl 2 (List.map aPt (a0.points)), aI (a0.mark)]), (7000, .row 93 2 (List.map aIv (v1_0.2.2)))]⟩
theorem tidegateref36_lacking_l1_o {n N : Nat} {a1 : Int} {a0 : Trk} {k1_0_0 : (List (Int × Int)) → Option ((List (Int × Int)))} {R : Exit → AS → Prop} {K : List KItem} {c : Code} {σ : AS} {v0 : Int × Int × (List (Int × Int))} {r : (List (Int × Int))} (hF : F_tidegateref36_lacking_l1 n a1 a0 k1_0_0 N v0 = some r) (hl : LeX E0 53 σ (S_tidegateref36_lacking_l1 a1 a0 v0)) (round : ∀ m v, F_tidegateref36_lacking_l1 n a1 a0 k1_0_0 (m + 1) v = some r → AW E0 53 (thenA (fun σ' => ∃ v', F_tidegateref36_lacking_l1 n a1 a0 k1_0_0 m v' = some r ∧ LeX E0 53 σ' (S_tidegateref36_lacking_l1 a1 a0 v')) (AW E0 53 R K)) [.code c] .normal (S_tidegateref36_lacking_l1 a1 a0 v)) : LoopX E0 53 (fun next σ' => AW E0 53 (thenA next (AW E0 53 R K)) [.code c] .normal σ') σ :=
  LoopA.o (S := S_tidegateref36_lacking_l1 a1 a0) hF (fun _ => rfl) hl round
def R_tidegateref36_lacking (r : (List (Int × Int))) : AV := .sl 2 (List.map aIv (r))
end Go.Proofs.Ythhnhajldhnfmaa
