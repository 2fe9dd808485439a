/- What some functions compute, over plain values. Printed by a program of mine (gen_fun.lean). -/
import Derived.Test.YtimkhfaddnanhaaGreatK14
set_option linter.unusedVariables false
set_option linter.unusedSimpArgs false
set_option maxRecDepth 100000
set_option maxHeartbeats 8000000
namespace Go.Proofs.YtimkhfaddnanhaaGreat
open Go.RowKit
theorem watermark_Receive_l1_o {n N : Nat} {x2 : (List Trk) × Bool × Int} {k1_0_0 : Bool → (List Trk) → Option ((List Trk) × Bool × Int)} {R : Exit → AS → Prop} {K : List KItem} {c : Code} {σ : AS} {v0 : Int × (List Trk)} {r : (List Trk) × Bool × Int} (hF : F_watermark_Receive_l1 n x2 k1_0_0 N v0 = some r) (hl : LeX E0 55 σ (S_watermark_Receive_l1 x2 v0)) (round : ∀ m v, F_watermark_Receive_l1 n x2 k1_0_0 (m + 1) v = some r → AW E0 55 (thenA (fun σ' => ∃ v', F_watermark_Receive_l1 n x2 k1_0_0 m v' = some r ∧ LeX E0 55 σ' (S_watermark_Receive_l1 x2 v')) (AW E0 55 R K)) [.code c] .normal (S_watermark_Receive_l1 x2 v)) : LoopX E0 55 (fun next σ' => AW E0 55 (thenA next (AW E0 55 R K)) [.code c] .normal σ') σ :=
  LoopA.o (S := S_watermark_Receive_l1 x2) hF (fun _ => rfl) hl round
def R_watermark_Receive (r : (List Trk) × Bool × Int) : AV := .tup [.sl 4 (List.map aTrk (r.1)), .bool (r.2.1), aI (r.2.2)]
theorem con_watermark_Receive {n : Nat} {a0 : (List Trk)} {a1 : T_api_Message} {r : (List Trk) × Bool × Int} (hF : F_watermark_Receive n a0 a1 = some r) : Con E0 false 31 [.sl 4 (List.map aTrk (a0)), .agg [aI (a1.fKind), aI (a1.fEvent.fSource), aI (a1.fEvent.fSeq), aI (a1.fEvent.fType), aI (a1.fEvent.fTime), .sl 3 (List.map e_api_Value (a1.fEvent.fValues)), aI (a1.fSource), aI (a1.fSeq), aI (a1.fTime)]] (R_watermark_Receive r) := by
  unfold F_watermark_Receive at hF
  refine Con.walk _ Tryz.func31 rfl (enters_of Tryz.func31 rfl rfl) rfl (Or.inl rfl) ?_
  repeat' first
    | (refine AW.step ?_; conv => whnf)
    | (refine CondX.o hF (fun hF => ?_) (fun hF => ?_))
    | (refine CondX.t ?_)
    | (refine CondX.f ?_)
    | (refine CallX.o hF R_watermark_Check (fun a h => con_watermark_Check h) (fun a hF => ?_))
    | (refine CallX.oR hF (fun r => r.1) aTrk T_watermark_receive rfl (fun a h => conT_watermark_receive h) (fun a hF => ?_))
    | (refine CallX.oR hF (fun r => r.1) aTrk T_watermark_receive rfl (fun a h => ConT.sub (by repeat' first | exact Sub.nil _ | exact Sub.refl _ | refine Sub.agg ?_ | refine Sub.tup ?_ | refine Sub.fn ?_ | exact SubL.nil | refine SubL.cons ?_ ?_ | refine Sub.sl _ ?_ | exact SubE.nil | refine SubE.cons ?_ ?_) (conT_watermark_receive h)) (fun a hF => ?_))
    | (refine NatX.o hF (fun m hF => ?_))
    | (refine LtX.o hF (fun hF => ?_))
    | (refine EltX.o aTrk hF (fun x hF => ?_))
    | (refine CallX.o hF (fun q => AV.sl 1 (List.map aI q)) (fun a h => con_clone64 h) (fun a hF => ?_))
    | (refine CallX.o hF (fun q => AV.sl 2 (List.map aPt q)) (fun a h => con_clone65 h) (fun a hF => ?_))
    | (refine SetX.o aTrk hF (fun x => rfl) (fun x => (by first | exact SubL.refl _ | (repeat' first | exact SubL.nil | refine SubL.cons ?_ ?_ | exact Sub.refl _ | exact Sub.nil _ | refine Sub.agg ?_))) (fun l hF => ?_))
    | (exact ⟨_, hF, LeX.of [] rfl ⟨⟨rfl, rfl⟩, ⟨rfl, rfl⟩, ⟨rfl, rfl⟩, ⟨rfl, rfl⟩, trivial⟩ ⟨⟨rfl, rfl⟩, trivial⟩⟩)
    | (refine watermark_Receive_l1_o hF (LeX.of [] rfl ⟨⟨rfl, rfl⟩, ⟨rfl, rfl⟩, ⟨rfl, rfl⟩, ⟨rfl, rfl⟩, trivial⟩ ⟨⟨rfl, rfl⟩, trivial⟩) (fun m v hF => ?_); unfold F_watermark_Receive_l1 at hF)
    | (refine And.intro ⟨by kernel_rfl, by kernel_rfl⟩ ?_)
    | (refine EqX.mk (by first | rfl | kernel_rfl) ?_)
    | (exact RetX.o hF (by repeat' first | exact Sub.nil _ | exact Sub.refl _ | refine Sub.agg ?_ | refine Sub.tup ?_ | refine Sub.fn ?_ | exact SubL.nil | refine SubL.cons ?_ ?_ | refine Sub.sl _ ?_ | exact SubE.nil | refine SubE.cons ?_ ?_))

def R_tidegateref36_Source (r : Int) : AV := aI (r)
theorem con_tidegateref36_Source {n : Nat} {a0 : T_api_Message} {r : Int} (hF : F_tidegateref36_Source n a0 = some r) : Con E0 true 80 [.agg [aI (a0.fKind), aI (a0.fEvent.fSource), aI (a0.fEvent.fSeq), aI (a0.fEvent.fType), aI (a0.fEvent.fTime), .sl 3 (List.map e_api_Value (a0.fEvent.fValues)), aI (a0.fSource), aI (a0.fSeq), aI (a0.fTime)]] (R_tidegateref36_Source r) := by
  unfold F_tidegateref36_Source at hF
  refine Con.walk _ Tryz.func80 rfl (enters_of Tryz.func80 rfl rfl) rfl (Or.inr rfl) ?_
  repeat' first
    | (refine AW.step ?_; conv => whnf)
    | (refine CondX.o hF (fun hF => ?_) (fun hF => ?_))
    | (refine CondX.t ?_)
    | (refine CondX.f ?_)
    | (refine And.intro ⟨by kernel_rfl, by kernel_rfl⟩ ?_)
    | (refine EqX.mk (by first | rfl | kernel_rfl) ?_)
    | (exact RetX.o hF (by repeat' first | exact Sub.nil _ | exact Sub.refl _ | refine Sub.agg ?_ | refine Sub.tup ?_ | refine Sub.fn ?_ | exact SubL.nil | refine SubL.cons ?_ ?_ | refine Sub.sl _ ?_ | exact SubE.nil | refine SubE.cons ?_ ?_))

def S_tidegateref34_Contains_l1 (a1 : Int) (a0 : Trk) (v1_0 : Int) : AS := ⟨[(1, aI (a1)), (2, .ptr 2 0), (5, aI (v1_0))], [(2, .box 82 [aI (a0.next), .sl 1 (List.map aI (a0.beyond)), .sl 2 (List.map aPt (a0.points)), aI (a0.mark)])]⟩
theorem tidegateref34_Contains_l1_o {n N : Nat} {a1 : Int} {a0 : Trk} {k1_0_0 : Option (Bool)} {R : Exit → AS → Prop} {K : List KItem} {c : Code} {σ : AS} {v0 : Int} {r : Bool} (hF : F_tidegateref34_Contains_l1 n a1 a0 k1_0_0 N v0 = some r) (hl : LeX E0 26 σ (S_tidegateref34_Contains_l1 a1 a0 v0)) (round : ∀ m v, F_tidegateref34_Contains_l1 n a1 a0 k1_0_0 (m + 1) v = some r → AW E0 26 (thenA (fun σ' => ∃ v', F_tidegateref34_Contains_l1 n a1 a0 k1_0_0 m v' = some r ∧ LeX E0 26 σ' (S_tidegateref34_Contains_l1 a1 a0 v')) (AW E0 26 R K)) [.code c] .normal (S_tidegateref34_Contains_l1 a1 a0 v)) : LoopX E0 26 (fun next σ' => AW E0 26 (thenA next (AW E0 26 R K)) [.code c] .normal σ') σ :=
  LoopA.o (S := S_tidegateref34_Contains_l1 a1 a0) hF (fun _ => rfl) hl round
def R_tidegateref34_Contains (r : Bool) : AV := .bool (r)
theorem con_tidegateref34_Contains {n : Nat} {a0 : Trk} {a1 : Int} {r : Bool} (hF : F_tidegateref34_Contains n a0 a1 = some r) : Con E0 true 107 [.agg [aI (a0.next), .sl 1 (List.map aI (a0.beyond)), .sl 2 (List.map aPt (a0.points)), aI (a0.mark)], aI (a1)] (R_tidegateref34_Contains r) := by
  unfold F_tidegateref34_Contains at hF
  refine Con.walk _ Tryz.func107 rfl (enters_of Tryz.func107 rfl rfl) rfl (Or.inr rfl) ?_
  repeat' first
    | (refine AW.step ?_; conv => whnf)
    | (refine CondX.o hF (fun hF => ?_) (fun hF => ?_))
    | (refine CondX.t ?_)
    | (refine CondX.f ?_)
    | (refine IdxX.o aI hF (fun x hF => ?_))
    | (exact ⟨_, hF, LeX.of [] rfl ⟨⟨rfl, rfl⟩, ⟨rfl, rfl⟩, ⟨rfl, rfl⟩, trivial⟩ ⟨⟨rfl, rfl⟩, trivial⟩⟩)
    | (refine tidegateref34_Contains_l1_o hF (LeX.of [] rfl ⟨⟨rfl, rfl⟩, ⟨rfl, rfl⟩, ⟨rfl, rfl⟩, trivial⟩ ⟨⟨rfl, rfl⟩, trivial⟩) (fun m v hF => ?_); unfold F_tidegateref34_Contains_l1 at hF)
    | (refine And.intro ⟨by kernel_rfl, by kernel_rfl⟩ ?_)
    | (refine EqX.mk (by first | rfl | kernel_rfl) ?_)
    | (exact RetX.o hF (by repeat' first | exact Sub.nil _ | exact Sub.refl _ | refine Sub.agg ?_ | refine Sub.tup ?_ | refine Sub.fn ?_ | exact SubL.nil | refine SubL.cons ?_ ?_ | refine Sub.sl _ ?_ | exact SubE.nil | refine SubE.cons ?_ ?_))

def S_tidegateref34_Check_l1 (a0 : Trk) (v1_0 : Int × Int) : AS := ⟨[(1, .ptr 1 0), (3, aI (v1_0.1)), (4, aI (v1_0.2))], [(1, .box 82 [aI (a0.next), .sl 1 (List.map aI (a0.beyond)), .sl 2 (List.map aPt (a0.points)), aI (a0.mark)])]⟩
theorem tidegateref34_Check_l1_o {n N : Nat} {a0 : Trk} {k1_0_0 : Option (Int)} {R : Exit → AS → Prop} {K : List KItem} {c : Code} {σ : AS} {v0 : Int × Int} {r : Int} (hF : F_tidegateref34_Check_l1 n a0 k1_0_0 N v0 = some r) (hl : LeX E0 42 σ (S_tidegateref34_Check_l1 a0 v0)) (round : ∀ m v, F_tidegateref34_Check_l1 n a0 k1_0_0 (m + 1) v = some r → AW E0 42 (thenA (fun σ' => ∃ v', F_tidegateref34_Check_l1 n a0 k1_0_0 m v' = some r ∧ LeX E0 42 σ' (S_tidegateref34_Check_l1 a0 v')) (AW E0 42 R K)) [.code c] .normal (S_tidegateref34_Check_l1 a0 v)) : LoopX E0 42 (fun next σ' => AW E0 42 (thenA next (AW E0 42 R K)) [.code c] .normal σ') σ :=
  LoopA.o (S := S_tidegateref34_Check_l1 a0) hF (fun _ => rfl) hl round
def R_tidegateref34_Check (r : Int) : AV := aI (r)
theorem con_tidegateref34_Check {n : Nat} {a0 : Trk} {r : Int} (hF : F_tidegateref34_Check n a0 = some r) : Con E0 true 122 [.agg [aI (a0.next), .sl 1 (List.map aI (a0.beyond)), .sl 2 (List.map aPt (a0.points)), aI (a0.mark)]] (R_tidegateref34_Check r) := by
  unfold F_tidegateref34_Check at hF
  refine Con.walk _ Tryz.func122 rfl (enters_of Tryz.func122 rfl rfl) rfl (Or.inr rfl) ?_
  repeat' first
    | (refine AW.step ?_; conv => whnf)
    | (refine CondX.o hF (fun hF => ?_) (fun hF => ?_))
    | (refine CondX.t ?_)
    | (refine CondX.f ?_)
    | (refine IdxX.o aI hF (fun x hF => ?_))
    | (exact ⟨_, hF, LeX.of [] rfl ⟨⟨rfl, rfl⟩, ⟨rfl, rfl⟩, ⟨rfl, rfl⟩, trivial⟩ ⟨⟨rfl, rfl⟩, trivial⟩⟩)
    | (refine tidegateref34_Check_l1_o hF (LeX.of [] rfl ⟨⟨rfl, rfl⟩, ⟨rfl, rfl⟩, ⟨rfl, rfl⟩, trivial⟩ ⟨⟨rfl, rfl⟩, trivial⟩) (fun m v hF => ?_); unfold F_tidegateref34_Check_l1 at hF)
    | (refine And.intro ⟨by kernel_rfl, by kernel_rfl⟩ ?_)
    | (refine EqX.mk (by first | rfl | kernel_rfl) ?_)
    | (exact RetX.o hF (by repeat' first | exact Sub.nil _ | exact Sub.refl _ | refine Sub.agg ?_ | refine Sub.tup ?_ | refine Sub.fn ?_ | exact SubL.nil | refine SubL.cons ?_ ?_ | refine Sub.sl _ ?_ | exact SubE.nil | refine SubE.cons ?_ ?_))

def S_tidegateref34_With_l2 (a0 : Trk) (v2_1 : (List Int) × Int) : AS := ⟨[(4, .ptr 4 0), (5, .sl 1 (List.map aI (v2_1.1))), (8, .ptr 8 0)], [(4, .box 82 [aI (0), .nils, .nils, aI (0)]), (8, .box 82 [aI (v2_1.2), .sl 1 (List.map aI (a0.beyond)), .sl 2 (List.map aPt (a0.points)), aI (a0.mark)])]⟩
theorem tidegateref34_With_l2_o {n N : Nat} {a0 : Trk} {k2_1_0 : (List Int) → Int → Option (Trk)} {R : Exit → AS → Prop} {K : List KItem} {c : Code} {σ : AS} {v0 : (List Int) × Int} {r : Trk} (hF : F_tidegateref34_With_l2 n a0 k2_1_0 N v0 = some r) (hl : LeX E0 70 σ (S_tidegateref34_With_l2 a0 v0)) (round : ∀ m v, F_tidegateref34_With_l2 n a0 k2_1_0 (m + 1) v = some r → AW E0 70 (thenA (fun σ' => ∃ v', F_tidegateref34_With_l2 n a0 k2_1_0 m v' = some r ∧ LeX E0 70 σ' (S_tidegateref34_With_l2 a0 v')) (AW E0 70 R K)) [.code c] .normal (S_tidegateref34_With_l2 a0 v)) : LoopX E0 70 (fun next σ' => AW E0 70 (thenA next (AW E0 70 R K)) [.code c] .normal σ') σ :=
  LoopA.o (S := S_tidegateref34_With_l2 a0) hF (fun _ => rfl) hl round
def S_tidegateref34_With_l3 (a0 : Trk) (v3_2 : (List Int) × Int) : AS := ⟨[(4, .ptr 4 0), (5, .sl 1 (List.map aI (v3_2.1))), (8, .ptr 8 0)], [(4, .box 82 [aI (0), .nils, .nils, aI (0)]), (8, .box 82 [aI (v3_2.2), .sl 1 (List.map aI (a0.beyond)), .sl 2 (List.map aPt (a0.points)), aI (a0.mark)])]⟩
theorem tidegateref34_With_l3_o {n N : Nat} {a0 : Trk} {k3_2_0 : (List Int) → Int → Option (Trk)} {R : Exit → AS → Prop} {K : List KItem} {c : Code} {σ : AS} {v0 : (List Int) × Int} {r : Trk} (hF : F_tidegateref34_With_l3 n a0 k3_2_0 N v0 = some r) (hl : LeX E0 70 σ (S_tidegateref34_With_l3 a0 v0)) (round : ∀ m v, F_tidegateref34_With_l3 n a0 k3_2_0 (m + 1) v = some r → AW E0 70 (thenA (fun σ' => ∃ v', F_tidegateref34_With_l3 n a0 k3_2_0 m v' = some r ∧ LeX E0 70 σ' (S_tidegateref34_With_l3 a0 v')) (AW E0 70 R K)) [.code c] .normal (S_tidegateref34_With_l3 a0 v)) : LoopX E0 70 (fun next σ' => AW E0 70 (thenA next (AW E0 70 R K)) [.code c] .normal σ') σ :=
  LoopA.o (S := S_tidegateref34_With_l3 a0) hF (fun _ => rfl) hl round
def S_tidegateref34_With_l1 (a1 : Int) (a0 : Trk) (v1_0 : Bool × Int × (List Int)) : AS := ⟨[(1, aI (a1)), (2, .ptr 2 0), (4, .ptr 4 0), (5, .row 7042), (6, .bool (v1_0.1)), (7, aI (v1_0.2.1))], [(2, .box 82 [aI (a0.next), .sl 1 (List.map aI (a0.beyond)), .sl 2 (List.map aPt (a0.points)), aI (a0.mark)]), (4, .box 82 [aI (0), .nils, .nils, aI (0)]), (7042, .row 3 1 (List.map aI (v1_0.2.2)))]⟩
theorem tidegateref34_With_l1_o {n N : Nat} {a1 : Int} {a0 : Trk} {k1_0_0 : Bool → (List Int) → Option (Trk)} {R : Exit → AS → Prop} {K : List KItem} {c : Code} {σ : AS} {v0 : Bool × Int × (List Int)} {r : Trk} (hF : F_tidegateref34_With_l1 n a1 a0 k1_0_0 N v0 = some r) (hl : LeX E0 70 σ (S_tidegateref34_With_l1 a1 a0 v0)) (round : ∀ m v, F_tidegateref34_With_l1 n a1 a0 k1_0_0 (m + 1) v = some r → AW E0 70 (thenA (fun σ' => ∃ v', F_tidegateref34_With_l1 n a1 a0 k1_0_0 m v' = some r ∧ LeX E0 70 σ' (S_tidegateref34_With_l1 a1 a0 v')) (AW E0 70 R K)) [.code c] .normal (S_tidegateref34_With_l1 a1 a0 v)) : LoopX E0 70 (fun next σ' => AW E0 70 (thenA next (AW E0 70 R K)) [.code c] .normal σ') σ :=
  LoopA.o (S := S_tidegateref34_With_l1 a1 a0) hF (fun _ => rfl) hl round
def R_tidegateref34_With (r : Trk) : AV := .agg [aI (r.next), .sl 1 (List.map aI (r.beyond)), .sl 2 (List.map aPt (r.points)), aI (r.mark)]
theorem con_tidegateref34_With {n : Nat} {a0 : Trk} {a1 : Int} {r : Trk} (hF : F_tidegateref34_With n a0 a1 = some r) : Con E0 false 124 [.agg [aI (a0.next), .sl 1 (List.map aI (a0.beyond)), .sl 2 (List.map aPt (a0.points)), aI (a0.mark)], aI (a1)] (R_tidegateref34_With r) := by
  unfold F_tidegateref34_With at hF
  refine Con.walk _ Tryz.func124 rfl (enters_of Tryz.func124 rfl rfl) rfl (Or.inl rfl) ?_
  repeat' first
    | (refine AW.regO hF (fun hF => ?_))
    | (refine AW.frzO hF 48 rfl (fun hF => ?_))
    | (refine AW.frzO hF 7042 rfl (fun hF => ?_))
    | (refine AW.stepU [16] ?_; conv => whnf)
    | (refine CondX.o hF (fun hF => ?_) (fun hF => ?_))
    | (refine CondX.t ?_)
    | (refine CondX.f ?_)
    | (refine CallX.o hF R_tidegateref34_Contains (fun a h => con_tidegateref34_Contains h) (fun a hF => ?_))
    | (refine AppX.o aI hF (by first | exact SubR.refl _ | (repeat' first | exact SubR.nil | refine SubR.cons ?_ ?_ | exact SubL.nil | refine SubL.cons ?_ ?_ | exact Sub.refl _ | exact Sub.nil _)) (fun l hF => ?_))
    | (refine IdxX.o aI hF (fun x hF => ?_))
    | (refine SlsX.o aI hF (fun l hF => ?_))
    | (exact ⟨_, hF, LeX.of [] rfl ⟨⟨rfl, rfl⟩, ⟨rfl, rfl⟩, ⟨rfl, rfl⟩, trivial⟩ ⟨⟨rfl, rfl⟩, ⟨rfl, rfl⟩, trivial⟩⟩)
    | (refine tidegateref34_With_l2_o hF (LeX.trans (LeX.frzAll 48 3 1 _ rfl) (LeX.of [] rfl ⟨⟨rfl, rfl⟩, ⟨rfl, rfl⟩, ⟨rfl, rfl⟩, trivial⟩ ⟨⟨rfl, rfl⟩, ⟨rfl, rfl⟩, trivial⟩)) (fun m v hF => ?_); unfold F_tidegateref34_With_l2 at hF)
    | (refine tidegateref34_With_l3_o hF (LeX.trans (LeX.frzAll 7042 3 1 _ rfl) (LeX.of [] rfl ⟨⟨rfl, rfl⟩, ⟨rfl, rfl⟩, ⟨rfl, rfl⟩, trivial⟩ ⟨⟨rfl, rfl⟩, ⟨rfl, rfl⟩, trivial⟩)) (fun m v hF => ?_); unfold F_tidegateref34_With_l3 at hF)
    | (exact ⟨_, hF, LeX.of [(7042, 42)] rfl ⟨⟨rfl, rfl⟩, ⟨rfl, rfl⟩, ⟨rfl, rfl⟩, ⟨rfl, rfl⟩, ⟨rfl, rfl⟩, ⟨rfl, rfl⟩, trivial⟩ ⟨⟨rfl, rfl⟩, ⟨rfl, rfl⟩, ⟨rfl, rfl⟩, trivial⟩⟩)
    | (refine tidegateref34_With_l1_o hF (LeX.trans (LeX.adopt 5 7042 3 1 rfl rfl) (LeX.of [] rfl ⟨⟨rfl, rfl⟩, ⟨rfl, rfl⟩, ⟨rfl, rfl⟩, ⟨rfl, rfl⟩, ⟨rfl, rfl⟩, ⟨rfl, rfl⟩, trivial⟩ ⟨⟨rfl, rfl⟩, ⟨rfl, rfl⟩, ⟨rfl, rfl⟩, trivial⟩)) (fun m v hF => ?_); unfold F_tidegateref34_With_l1 at hF)
    | (refine And.intro ⟨by kernel_rfl, by kernel_rfl⟩ ?_)
    | (refine EqX.mk (by first | rfl | kernel_rfl) ?_)
    | (exact RetX.o hF (by repeat' first | exact Sub.nil _ | exact Sub.refl _ | refine Sub.agg ?_ | refine Sub.tup ?_ | refine Sub.fn ?_ | exact SubL.nil | refine SubL.cons ?_ ?_ | refine Sub.sl _ ?_ | exact SubE.nil | refine SubE.cons ?_ ?_))

def R_tidegateref34_Receive (r : Trk × Bool × Int) : AV := .tup [.agg [aI (r.1.next), .sl 1 (List.map aI (r.1.beyond)), .sl 2 (List.map aPt (r.1.points)), aI (r.1.mark)], .bool (r.2.1), aI (r.2.2)]
theorem con_tidegateref34_Receive {n : Nat} {a0 : Trk} {a1 : Int} {r : Trk × Bool × Int} (hF : F_tidegateref34_Receive n a0 a1 = some r) : Con E0 false 109 [.agg [aI (a0.next), .sl 1 (List.map aI (a0.beyond)), .sl 2 (List.map aPt (a0.points)), aI (a0.mark)], aI (a1)] (R_tidegateref34_Receive r) := by
  unfold F_tidegateref34_Receive at hF
  refine Con.walk _ Tryz.func109 rfl (enters_of Tryz.func109 rfl rfl) rfl (Or.inl rfl) ?_
  repeat' first
    | (refine AW.step ?_; conv => whnf)
    | (refine CondX.o hF (fun hF => ?_) (fun hF => ?_))
    | (refine CondX.t ?_)
    | (refine CondX.f ?_)
    | (refine CallX.o hF R_tidegateref34_Check (fun a h => con_tidegateref34_Check h) (fun a hF => ?_))
    | (refine CallX.o hF R_tidegateref34_Contains (fun a h => con_tidegateref34_Contains h) (fun a hF => ?_))
    | (refine CallX.o hF R_tidegateref34_With (fun a h => con_tidegateref34_With h) (fun a hF => ?_))
    | (refine And.intro ⟨by kernel_rfl, by kernel_rfl⟩ ?_)
    | (refine EqX.mk (by first | rfl | kernel_rfl) ?_)
    | (exact RetX.o hF (by repeat' first | exact Sub.nil _ | exact Sub.refl _ | refine Sub.agg ?_ | refine Sub.tup ?_ | refine Sub.fn ?_ | exact SubL.nil | refine SubL.cons ?_ ?_ | refine Sub.sl _ ?_ | exact SubE.nil | refine SubE.cons ?_ ?_))

def S_tidegateref35_Settled_l2 (a0 : Trk) (k1_0_0y : Int) (v2_1 : Int × (List Pt)) : AS := ⟨[(1, .ptr 1 0), (2, .ptr 2 0), (3, .ptr 3 0), (5, aI (v2_1.1))], [(1, .box 82 [aI (a0.next), .sl 1 (List.map aI (a0.beyond)), .sl 2 (List.map aPt (a0.points)), aI (a0.mark)]), (2, .box 82 [aI (0), .nils, .nils, aI (0)]), (3, .box 82 [aI (a0.next), .sl 1 (List.map aI (a0.beyond)), .row 7069, aI (k1_0_0y)]), (7069, .row 109 2 (List.map aPt (v2_1.2)))]⟩
theorem tidegateref35_Settled_l2_o {n N : Nat} {a0 : Trk} {k1_0_0y : Int} {k2_1_0 : (List Pt) → Option (Trk)} {R : Exit → AS → Prop} {K : List KItem} {c : Code} {σ : AS} {v0 : Int × (List Pt)} {r : Trk} (hF : F_tidegateref35_Settled_l2 n a0 k1_0_0y k2_1_0 N v0 = some r) (hl : LeX E0 72 σ (S_tidegateref35_Settled_l2 a0 k1_0_0y v0)) (round : ∀ m v, F_tidegateref35_Settled_l2 n a0 k1_0_0y k2_1_0 (m + 1) v = some r → AW E0 72 (thenA (fun σ' => ∃ v', F_tidegateref35_Settled_l2 n a0 k1_0_0y k2_1_0 m v' = some r ∧ LeX E0 72 σ' (S_tidegateref35_Settled_l2 a0 k1_0_0y v')) (AW E0 72 R K)) [.code c] .normal (S_tidegateref35_Settled_l2 a0 k1_0_0y v)) : LoopX E0 72 (fun next σ' => AW E0 72 (thenA next (AW E0 72 R K)) [.code c] .normal σ') σ :=
  LoopA.o (S := S_tidegateref35_Settled_l2 a0 k1_0_0y) hF (fun _ => rfl) hl round
def S_tidegateref35_Settled_l1 (a0 : Trk) (v1_0 : Int × Int) : AS := ⟨[(1, .ptr 1 0), (2, .ptr 2 0), (3, .ptr 3 0), (4, aI (v1_0.1))], [(1, .box 82 [aI (a0.next), .sl 1 (List.map aI (a0.beyond)), .sl 2 (List.map aPt (a0.points)), aI (a0.mark)]), (2, .box 82 [aI (0), .nils, .nils, aI (0)]), (3, .box 82 [aI (a0.next), .sl 1 (List.map aI (a0.beyond)), .nils, aI (v1_0.2)])]⟩
theorem tidegateref35_Settled_l1_o {n N : Nat} {a0 : Trk} {k1_0_0 : Int → Option (Trk)} {R : Exit → AS → Prop} {K : List KItem} {c : Code} {σ : AS} {v0 : Int × Int} {r : Trk} (hF : F_tidegateref35_Settled_l1 n a0 k1_0_0 N v0 = some r) (hl : LeX E0 72 σ (S_tidegateref35_Settled_l1 a0 v0)) (round : ∀ m v, F_tidegateref35_Settled_l1 n a0 k1_0_0 (m + 1) v = some r → AW E0 72 (thenA (fun σ' => ∃ v', F_tidegateref35_Settled_l1 n a0 k1_0_0 m v' = some r ∧ LeX E0 72 σ' (S_tidegateref35_Settled_l1 a0 v')) (AW E0 72 R K)) [.code c] .normal (S_tidegateref35_Settled_l1 a0 v)) : LoopX E0 72 (fun next σ' => AW E0 72 (thenA next (AW E0 72 R K)) [.code c] .normal σ') σ :=
  LoopA.o (S := S_tidegateref35_Settled_l1 a0) hF (fun _ => rfl) hl round
def R_tidegateref35_Settled (r : Trk) : AV := .agg [aI (r.next), .sl 1 (List.map aI (r.beyond)), .sl 2 (List.map aPt (r.points)), aI (r.mark)]
theorem con_tidegateref35_Settled {n : Nat} {a0 : Trk} {r : Trk} (hF : F_tidegateref35_Settled n a0 = some r) : Con E0 false 110 [.agg [aI (a0.next), .sl 1 (List.map aI (a0.beyond)), .sl 2 (List.map aPt (a0.points)), aI (a0.mark)]] (R_tidegateref35_Settled r) := by
  unfold F_tidegateref35_Settled at hF
  refine Con.walk _ Tryz.func110 rfl (enters_of Tryz.func110 rfl rfl) rfl (Or.inl rfl) ?_
  repeat' first
    | (refine AW.step ?_; conv => whnf)
    | (refine CondX.o hF (fun hF => ?_) (fun hF => ?_))
    | (refine CondX.t ?_)
    | (refine CondX.f ?_)
    | (refine IdxX.o aPt hF (fun x hF => ?_))
    | (refine AppX.o aPt hF (by first | exact SubR.refl _ | (repeat' first | exact SubR.nil | refine SubR.cons ?_ ?_ | exact SubL.nil | refine SubL.cons ?_ ?_ | exact Sub.refl _ | exact Sub.nil _)) (fun l hF => ?_))
    | (exact ⟨_, hF, LeX.of [(7069, 69)] rfl ⟨⟨rfl, rfl⟩, ⟨rfl, rfl⟩, ⟨rfl, rfl⟩, ⟨rfl, rfl⟩, trivial⟩ ⟨⟨rfl, rfl⟩, ⟨rfl, rfl⟩, ⟨rfl, rfl⟩, ⟨rfl, rfl⟩, trivial⟩⟩)
    | (exact ⟨_, hF, LeX.of [] rfl ⟨⟨rfl, rfl⟩, ⟨rfl, rfl⟩, ⟨rfl, rfl⟩, ⟨rfl, rfl⟩, trivial⟩ ⟨⟨rfl, rfl⟩, ⟨rfl, rfl⟩, ⟨rfl, rfl⟩, ⟨rfl, rfl⟩, trivial⟩⟩)
    | (refine tidegateref35_Settled_l2_o hF (LeX.trans (LeX.adoptC 3 2 7069 109 2 82 _ rfl rfl rfl) (LeX.of [] rfl ⟨⟨rfl, rfl⟩, ⟨rfl, rfl⟩, ⟨rfl, rfl⟩, ⟨rfl, rfl⟩, trivial⟩ ⟨⟨rfl, rfl⟩, ⟨rfl, rfl⟩, ⟨rfl, rfl⟩, ⟨rfl, rfl⟩, trivial⟩)) (fun m v hF => ?_); unfold F_tidegateref35_Settled_l2 at hF)
    | (exact ⟨_, hF, LeX.of [] rfl ⟨⟨rfl, rfl⟩, ⟨rfl, rfl⟩, ⟨rfl, rfl⟩, ⟨rfl, rfl⟩, trivial⟩ ⟨⟨rfl, rfl⟩, ⟨rfl, rfl⟩, ⟨rfl, rfl⟩, trivial⟩⟩)
    | (refine tidegateref35_Settled_l1_o hF (LeX.of [] rfl ⟨⟨rfl, rfl⟩, ⟨rfl, rfl⟩, ⟨rfl, rfl⟩, ⟨rfl, rfl⟩, trivial⟩ ⟨⟨rfl, rfl⟩, ⟨rfl, rfl⟩, ⟨rfl, rfl⟩, trivial⟩) (fun m v hF => ?_); unfold F_tidegateref35_Settled_l1 at hF)
    | (refine And.intro ⟨by kernel_rfl, by kernel_rfl⟩ ?_)
    | (refine EqX.mk (by first | rfl | kernel_rfl) ?_)
    | (exact RetX.o hF (by repeat' first | exact Sub.nil _ | exact Sub.refl _ | refine Sub.agg ?_ | refine Sub.tup ?_ | refine Sub.fn ?_ | exact SubL.nil | refine SubL.cons ?_ ?_ | refine Sub.sl _ ?_ | exact SubE.nil | refine SubE.cons ?_ ?_))

def R_tidegateref36_Note (r : Trk × Bool × Int) : AV := .tup [.agg [aI (r.1.next), .sl 1 (List.map aI (r.1.beyond)), .sl 2 (List.map aPt (r.1.points)), aI (r.1.mark)], .bool (r.2.1), aI (r.2.2)]
theorem con_tidegateref36_Note {n : Nat} {a0 : Trk} {a1 : T_api_Message} {r : Trk × Bool × Int} (hF : F_tidegateref36_Note n a0 a1 = some r) : Con E0 false 81 [.agg [aI (a0.next), .sl 1 (List.map aI (a0.beyond)), .sl 2 (List.map aPt (a0.points)), aI (a0.mark)], .agg [aI (a1.fKind), aI (a1.fEvent.fSource), aI (a1.fEvent.fSeq), aI (a1.fEvent.fType), aI (a1.fEvent.fTime), .sl 3 (List.map e_api_Value (a1.fEvent.fValues)), aI (a1.fSource), aI (a1.fSeq), aI (a1.fTime)]] (R_tidegateref36_Note r) := by
  unfold F_tidegateref36_Note at hF
  refine Con.walk _ Tryz.func81 rfl (enters_of Tryz.func81 rfl rfl) rfl (Or.inl rfl) ?_
  repeat' first
    | (refine AW.step ?_; conv => whnf)
    | (refine CondX.o hF (fun hF => ?_) (fun hF => ?_))
    | (refine CondX.t ?_)
    | (refine CondX.f ?_)
    | (refine CallX.o hF R_puAdd (fun a h => con_rpuAdd h) (fun a hF => ?_))
    | (refine CallX.o hF R_tidegateref34_Contains (fun a h => con_tidegateref34_Contains h) (fun a hF => ?_))
    | (refine CallX.o hF R_puAllows (fun a h => con_rpuAllows h) (fun a hF => ?_))
    | (refine CallX.o hF R_tidegateref34_Receive (fun a h => con_tidegateref34_Receive h) (fun a hF => ?_))
    | (refine CallX.o hF R_tidegateref35_Settled (fun a h => con_tidegateref35_Settled h) (fun a hF => ?_))
    | (refine And.intro ⟨by kernel_rfl, by kernel_rfl⟩ ?_)
    | (refine EqX.mk (by first | rfl | kernel_rfl) ?_)
    | (exact RetX.o hF (by repeat' first | exact Sub.nil _ | exact Sub.refl _ | refine Sub.agg ?_ | refine Sub.tup ?_ | refine Sub.fn ?_ | exact SubL.nil | refine SubL.cons ?_ ?_ | refine Sub.sl _ ?_ | exact SubE.nil | refine SubE.cons ?_ ?_))

def R_tidegateref36_Receive (r : (List Trk) × Bool × Int) : AV := .tup [.sl 4 (List.map aTrk (r.1)), .bool (r.2.1), aI (r.2.2)]
theorem con_tidegateref36_Receive {n : Nat} {a0 : (List Trk)} {a1 : T_api_Message} {r : (List Trk) × Bool × Int} (hF : F_tidegateref36_Receive n a0 a1 = some r) : Con E0 false 49 [.sl 4 (List.map aTrk (a0)), .agg [aI (a1.fKind), aI (a1.fEvent.fSource), aI (a1.fEvent.fSeq), aI (a1.fEvent.fType), aI (a1.fEvent.fTime), .sl 3 (List.map e_api_Value (a1.fEvent.fValues)), aI (a1.fSource), aI (a1.fSeq), aI (a1.fTime)]] (R_tidegateref36_Receive r) := by
  unfold F_tidegateref36_Receive at hF
  refine Con.walk _ Tryz.func49 rfl (enters_of Tryz.func49 rfl rfl) rfl (Or.inl rfl) ?_
  repeat' first
    | (refine AW.step ?_; conv => whnf)
    | (refine CondX.o hF (fun hF => ?_) (fun hF => ?_))
    | (refine CondX.t ?_)
    | (refine CondX.f ?_)
    | (refine CallX.o hF R_tidegateref36_Check (fun a h => con_tidegateref36_Check h) (fun a hF => ?_))
    | (refine CallX.o hF R_tidegateref36_CheckMessage (fun a h => con_tidegateref36_CheckMessage h) (fun a hF => ?_))
    | (refine CallX.o hF R_tidegateref36_Source (fun a h => con_tidegateref36_Source h) (fun a hF => ?_))
    | (refine IdxX.o aTrk hF (fun x hF => ?_))
    | (refine CallX.o hF R_tidegateref36_Note (fun a h => con_tidegateref36_Note h) (fun a hF => ?_))
    | (refine AppX.o aTrk hF (by first | exact SubR.refl _ | (repeat' first | exact SubR.nil | refine SubR.cons ?_ ?_ | exact SubL.nil | refine SubL.cons ?_ ?_ | exact Sub.refl _ | exact Sub.nil _)) (fun l hF => ?_))
    | (refine NatX.o hF (fun m hF => ?_))
    | (refine SetX.o aTrk hF (fun x => rfl) (fun x => (by first | exact SubL.refl _ | (repeat' first | exact SubL.nil | refine SubL.cons ?_ ?_ | exact Sub.refl _ | exact Sub.nil _ | refine Sub.agg ?_))) (fun l hF => ?_))
    | (refine And.intro ⟨by kernel_rfl, by kernel_rfl⟩ ?_)
    | (refine EqX.mk (by first | rfl | kernel_rfl) ?_)
    | (exact RetX.o hF (by repeat' first | exact Sub.nil _ | exact Sub.refl _ | refine Sub.agg ?_ | refine Sub.tup ?_ | refine Sub.fn ?_ | exact SubL.nil | refine SubL.cons ?_ ?_ | refine Sub.sl _ ?_ | exact SubE.nil | refine SubE.cons ?_ ?_))

def S_tidegateref36_Honest_l2 (a1 : (List T_api_Message)) (a0 : Int) (v1_0 : Int) (v2_1 : Int) : AS := ⟨[(0, aI (a0)), (1, .sl 9 (List.map e_api_Message (a1))), (5, aI (v1_0)), (6, aI (v2_1))], []⟩
theorem tidegateref36_Honest_l2_o {n N : Nat} {a1 : (List T_api_Message)} {a0 : Int} {v1_0 : Int} {k2_1_0 : Option (Bool)} {R : Exit → AS → Prop} {K : List KItem} {c : Code} {σ : AS} {v0 : Int} {r : Bool} (hF : F_tidegateref36_Honest_l2 n a1 a0 v1_0 k2_1_0 N v0 = some r) (hl : LeX E0 121 σ (S_tidegateref36_Honest_l2 a1 a0 v1_0 v0)) (round : ∀ m v, F_tidegateref36_Honest_l2 n a1 a0 v1_0 k2_1_0 (m + 1) v = some r → AW E0 121 (thenA (fun σ' => ∃ v', F_tidegateref36_Honest_l2 n a1 a0 v1_0 k2_1_0 m v' = some r ∧ LeX E0 121 σ' (S_tidegateref36_Honest_l2 a1 a0 v1_0 v')) (AW E0 121 R K)) [.code c] .normal (S_tidegateref36_Honest_l2 a1 a0 v1_0 v)) : LoopX E0 121 (fun next σ' => AW E0 121 (thenA next (AW E0 121 R K)) [.code c] .normal σ') σ :=
  LoopA.o (S := S_tidegateref36_Honest_l2 a1 a0 v1_0) hF (fun _ => rfl) hl round
def S_tidegateref36_Honest_l1 (a1 : (List T_api_Message)) (a0 : Int) (v1_0 : Int) : AS := ⟨[(0, aI (a0)), (1, .sl 9 (List.map e_api_Message (a1))), (5, aI (v1_0))], []⟩
theorem tidegateref36_Honest_l1_o {n N : Nat} {a1 : (List T_api_Message)} {a0 : Int} {k1_0_0 : Option (Bool)} {R : Exit → AS → Prop} {K : List KItem} {c : Code} {σ : AS} {v0 : Int} {r : Bool} (hF : F_tidegateref36_Honest_l1 n a1 a0 k1_0_0 N v0 = some r) (hl : LeX E0 121 σ (S_tidegateref36_Honest_l1 a1 a0 v0)) (round : ∀ m v, F_tidegateref36_Honest_l1 n a1 a0 k1_0_0 (m + 1) v = some r → AW E0 121 (thenA (fun σ' => ∃ v', F_tidegateref36_Honest_l1 n a1 a0 k1_0_0 m v' = some r ∧ LeX E0 121 σ' (S_tidegateref36_Honest_l1 a1 a0 v')) (AW E0 121 R K)) [.code c] .normal (S_tidegateref36_Honest_l1 a1 a0 v)) : LoopX E0 121 (fun next σ' => AW E0 121 (thenA next (AW E0 121 R K)) [.code c] .normal σ') σ :=
  LoopA.o (S := S_tidegateref36_Honest_l1 a1 a0) hF (fun _ => rfl) hl round
def R_tidegateref36_Honest (r : Bool) : AV := .bool (r)
theorem con_tidegateref36_Honest {n : Nat} {a0 : Int} {a1 : (List T_api_Message)} {r : Bool} (hF : F_tidegateref36_Honest n a0 a1 = some r) : Con E0 true 59 [aI (a0), .sl 9 (List.map e_api_Message (a1))] (R_tidegateref36_Honest r) := by
  unfold F_tidegateref36_Honest at hF
  refine Con.walk _ Tryz.func59 rfl (enters_of Tryz.func59 rfl rfl) rfl (Or.inr rfl) ?_
  repeat' first
    | (refine AW.step ?_; conv => whnf)
    | (refine CondX.o hF (fun hF => ?_) (fun hF => ?_))
    | (refine CondX.t ?_)
    | (refine CondX.f ?_)
    | (refine IdxX.o e_api_Message hF (fun x hF => ?_))
    | (refine CallX.o hF R_tidegateref36_CheckMessage (fun a h => con_tidegateref36_CheckMessage h) (fun a hF => ?_))
    | (refine CallX.o hF R_tidegateref36_Source (fun a h => con_tidegateref36_Source h) (fun a hF => ?_))
    | (exact ⟨_, hF, LeX.of [] rfl ⟨⟨rfl, rfl⟩, ⟨rfl, rfl⟩, ⟨rfl, rfl⟩, trivial⟩ trivial⟩)
    | (exact ⟨_, hF, LeX.of [] rfl ⟨⟨rfl, rfl⟩, ⟨rfl, rfl⟩, ⟨rfl, rfl⟩, ⟨rfl, rfl⟩, trivial⟩ trivial⟩)
    | (refine tidegateref36_Honest_l2_o hF (LeX.of [] rfl ⟨⟨rfl, rfl⟩, ⟨rfl, rfl⟩, ⟨rfl, rfl⟩, ⟨rfl, rfl⟩, trivial⟩ trivial) (fun m v hF => ?_); unfold F_tidegateref36_Honest_l2 at hF)
    | (refine tidegateref36_Honest_l1_o hF (LeX.of [] rfl ⟨⟨rfl, rfl⟩, ⟨rfl, rfl⟩, ⟨rfl, rfl⟩, trivial⟩ trivial) (fun m v hF => ?_); unfold F_tidegateref36_Honest_l1 at hF)
    | (refine And.intro ⟨by kernel_rfl, by kernel_rfl⟩ ?_)
    | (refine EqX.mk (by first | rfl | kernel_rfl) ?_)
    | (exact RetX.o hF (by repeat' first | exact Sub.nil _ | exact Sub.refl _ | refine Sub.agg ?_ | refine Sub.tup ?_ | refine Sub.fn ?_ | exact SubL.nil | refine SubL.cons ?_ ?_ | refine Sub.sl _ ?_ | exact SubE.nil | refine SubE.cons ?_ ?_))

def R_tidegateref34_Few (r : Bool) : AV := .bool (r)
theorem con_tidegateref34_Few {n : Nat} {a0 : Trk} {r : Bool} (hF : F_tidegateref34_Few n a0 = some r) : Con E0 true 40 [.agg [aI (a0.next), .sl 1 (List.map aI (a0.beyond)), .sl 2 (List.map aPt (a0.points)), aI (a0.mark)]] (R_tidegateref34_Few r) := by
  unfold F_tidegateref34_Few at hF
  refine Con.walk _ Tryz.func40 rfl (enters_of Tryz.func40 rfl rfl) rfl (Or.inr rfl) ?_
  repeat' first
    | (refine AW.step ?_; conv => whnf)
    | (refine CondX.o hF (fun hF => ?_) (fun hF => ?_))
    | (refine CondX.t ?_)
    | (refine CondX.f ?_)
    | (refine And.intro ⟨by kernel_rfl, by kernel_rfl⟩ ?_)
    | (refine EqX.mk (by first | rfl | kernel_rfl) ?_)
    | (exact RetX.o hF (by repeat' first | exact Sub.nil _ | exact Sub.refl _ | refine Sub.agg ?_ | refine Sub.tup ?_ | refine Sub.fn ?_ | exact SubL.nil | refine SubL.cons ?_ ?_ | refine Sub.sl _ ?_ | exact SubE.nil | refine SubE.cons ?_ ?_))

def S_tidegateref36_Few_l1 (a0 : (List Trk)) (v1_0 : Int) : AS := ⟨[(0, .sl 4 (List.map aTrk (a0))), (3, aI (v1_0))], []⟩
theorem tidegateref36_Few_l1_o {n N : Nat} {a0 : (List Trk)} {k1_0_0 : Option (Bool)} {R : Exit → AS → Prop} {K : List KItem} {c : Code} {σ : AS} {v0 : Int} {r : Bool} (hF : F_tidegateref36_Few_l1 n a0 k1_0_0 N v0 = some r) (hl : LeX E0 23 σ (S_tidegateref36_Few_l1 a0 v0)) (round : ∀ m v, F_tidegateref36_Few_l1 n a0 k1_0_0 (m + 1) v = some r → AW E0 23 (thenA (fun σ' => ∃ v', F_tidegateref36_Few_l1 n a0 k1_0_0 m v' = some r ∧ LeX E0 23 σ' (S_tidegateref36_Few_l1 a0 v')) (AW E0 23 R K)) [.code c] .normal (S_tidegateref36_Few_l1 a0 v)) : LoopX E0 23 (fun next σ' => AW E0 23 (thenA next (AW E0 23 R K)) [.code c] .normal σ') σ :=
  LoopA.o (S := S_tidegateref36_Few_l1 a0) hF (fun _ => rfl) hl round
def R_tidegateref36_Few (r : Bool) : AV := .bool (r)
theorem con_tidegateref36_Few {n : Nat} {a0 : (List Trk)} {r : Bool} (hF : F_tidegateref36_Few n a0 = some r) : Con E0 true 10 [.sl 4 (List.map aTrk (a0))] (R_tidegateref36_Few r) := by
  unfold F_tidegateref36_Few at hF
  refine Con.walk _ Tryz.func10 rfl (enters_of Tryz.func10 rfl rfl) rfl (Or.inr rfl) ?_
  repeat' first
    | (refine AW.step ?_; conv => whnf)
    | (refine CondX.o hF (fun hF => ?_) (fun hF => ?_))
    | (refine CondX.t ?_)
    | (refine CondX.f ?_)
    | (refine IdxX.o aTrk hF (fun x hF => ?_))
    | (refine CallX.o hF R_tidegateref34_Few (fun a h => con_tidegateref34_Few h) (fun a hF => ?_))
    | (exact ⟨_, hF, LeX.of [] rfl ⟨⟨rfl, rfl⟩, ⟨rfl, rfl⟩, trivial⟩ trivial⟩)
    | (refine tidegateref36_Few_l1_o hF (LeX.of [] rfl ⟨⟨rfl, rfl⟩, ⟨rfl, rfl⟩, trivial⟩ trivial) (fun m v hF => ?_); unfold F_tidegateref36_Few_l1 at hF)
    | (refine And.intro ⟨by kernel_rfl, by kernel_rfl⟩ ?_)
    | (refine EqX.mk (by first | rfl | kernel_rfl) ?_)
    | (exact RetX.o hF (by repeat' first | exact Sub.nil _ | exact Sub.refl _ | refine Sub.agg ?_ | refine Sub.tup ?_ | refine Sub.fn ?_ | exact SubL.nil | refine SubL.cons ?_ ?_ | refine Sub.sl _ ?_ | exact SubE.nil | refine SubE.cons ?_ ?_))

def R_stream_placed (r : Bool) : AV := .bool (r)
theorem con_stream_placed {n : Nat} {a0 : T_api_Event} {r : Bool} (hF : F_stream_placed n a0 = some r) : Con E0 true 68 [.agg [aI (a0.fSource), aI (a0.fSeq), aI (a0.fType), aI (a0.fTime), .sl 3 (List.map e_api_Value (a0.fValues))]] (R_stream_placed r) := by
  unfold F_stream_placed at hF
  refine Con.walk _ Tryz.func68 rfl (enters_of Tryz.func68 rfl rfl) rfl (Or.inr rfl) ?_
  repeat' first
    | (refine AW.step ?_; conv => whnf)
    | (refine CondX.o hF (fun hF => ?_) (fun hF => ?_))
    | (refine CondX.t ?_)
    | (refine CondX.f ?_)
    | (refine And.intro ⟨by kernel_rfl, by kernel_rfl⟩ ?_)
    | (refine EqX.mk (by first | rfl | kernel_rfl) ?_)
    | (exact RetX.o hF (by repeat' first | exact Sub.nil _ | exact Sub.refl _ | refine Sub.agg ?_ | refine Sub.tup ?_ | refine Sub.fn ?_ | exact SubL.nil | refine SubL.cons ?_ ?_ | refine Sub.sl _ ?_ | exact SubE.nil | refine SubE.cons ?_ ?_))

def R_stream_of (r : T_stream_identity) : AV := .agg [aI (r.fsource), aI (r.fseq)]
theorem con_stream_of {n : Nat} {a0 : T_api_Event} {r : T_stream_identity} (hF : F_stream_of n a0 = some r) : Con E0 true 70 [.agg [aI (a0.fSource), aI (a0.fSeq), aI (a0.fType), aI (a0.fTime), .sl 3 (List.map e_api_Value (a0.fValues))]] (R_stream_of r) := by
  unfold F_stream_of at hF
  refine Con.walk _ Tryz.func70 rfl (enters_of Tryz.func70 rfl rfl) rfl (Or.inr rfl) ?_
  repeat' first
    | (refine AW.step ?_; conv => whnf)
    | (refine CondX.o hF (fun hF => ?_) (fun hF => ?_))
    | (refine CondX.t ?_)
    | (refine CondX.f ?_)
    | (refine And.intro ⟨by kernel_rfl, by kernel_rfl⟩ ?_)
    | (refine EqX.mk (by first | rfl | kernel_rfl) ?_)
    | (exact RetX.o hF (by repeat' first | exact Sub.nil _ | exact Sub.refl _ | refine Sub.agg ?_ | refine Sub.tup ?_ | refine Sub.fn ?_ | exact SubL.nil | refine SubL.cons ?_ ?_ | refine Sub.sl _ ?_ | exact SubE.nil | refine SubE.cons ?_ ?_))

theorem eqK_114 (a b : T_stream_identity) : eqK (e_stream_identity a) (e_stream_identity b) = some (decide (a = b)) := by cases a; cases b; simp [e_stream_identity, eqK, eqL, eq1, aI, bytes_dec]
def S_stream_Check_l1 (a0 : (List T_api_Event)) (v1_0 : Int × (List (T_stream_identity × Bool))) : AS := ⟨[(0, .sl 5 (List.map e_api_Event (a0))), (3, .row 9), (10, .sl 5 (List.map e_api_Event (a0))), (11, aI ((((List.map e_api_Event (a0)).length : Nat) : Int))), (12, aI (v1_0.1))], [(9, .mp (List.map (encM e_stream_identity AV.bool) (v1_0.2)))]⟩
theorem stream_Check_l1_o {n N : Nat} {a0 : (List T_api_Event)} {k1_0_0 : Option (Int)} {R : Exit → AS → Prop} {K : List KItem} {c : Code} {σ : AS} {v0 : Int × (List (T_stream_identity × Bool))} {r : Int} (hF : F_stream_Check_l1 n a0 k1_0_0 N v0 = some r) (hl : LeX E0 43 σ (S_stream_Check_l1 a0 v0)) (round : ∀ m v, F_stream_Check_l1 n a0 k1_0_0 (m + 1) v = some r → AW E0 43 (thenA (fun σ' => ∃ v', F_stream_Check_l1 n a0 k1_0_0 m v' = some r ∧ LeX E0 43 σ' (S_stream_Check_l1 a0 v')) (AW E0 43 R K)) [.code c] .normal (S_stream_Check_l1 a0 v)) : LoopX E0 43 (fun next σ' => AW E0 43 (thenA next (AW E0 43 R K)) [.code c] .normal σ') σ :=
  LoopA.o (S := S_stream_Check_l1 a0) hF (fun _ => rfl) hl round
def R_stream_Check (r : Int) : AV := aI (r)
theorem con_stream_Check {n : Nat} {a0 : (List T_api_Event)} {r : Int} (hF : F_stream_Check n a0 = some r) : Con E0 true 38 [.sl 5 (List.map e_api_Event (a0))] (R_stream_Check r) := by
  unfold F_stream_Check at hF
  refine Con.walk _ Tryz.func38 rfl (enters_of Tryz.func38 rfl rfl) rfl (Or.inr rfl) ?_
  repeat' first
    | (refine AW.step ?_; conv => whnf)
    | (refine CondX.o hF (fun hF => ?_) (fun hF => ?_))
    | (refine CondX.t ?_)
    | (refine CondX.f ?_)
    | (refine IdxX.o e_api_Event hF (fun x hF => ?_))
    | (refine CallX.o hF R_stream_placed (fun a h => con_stream_placed h) (fun a hF => ?_))
    | (refine CallX.o hF R_event_Compare_d (fun a h => con_evCmp h) (fun a hF => ?_))
    | (refine CallX.o hF R_stream_of (fun a h => con_stream_of h) (fun a hF => ?_))
    | (refine LkX.o e_stream_identity AV.bool hF (by first | rfl | kernel_rfl) eqK_114 (by repeat' first | exact Sub.nil _ | exact Sub.refl _ | refine Sub.agg ?_ | refine Sub.tup ?_ | refine Sub.fn ?_ | exact SubL.nil | refine SubL.cons ?_ ?_ | refine Sub.sl _ ?_ | exact SubE.nil | refine SubE.cons ?_ ?_) (fun v b hF => ?_))
    | (refine UpX.o e_stream_identity AV.bool hF (by first | rfl | kernel_rfl) eqK_114 (by repeat' first | exact Sub.nil _ | exact Sub.refl _ | refine Sub.agg ?_ | refine Sub.tup ?_ | refine Sub.fn ?_ | exact SubL.nil | refine SubL.cons ?_ ?_ | refine Sub.sl _ ?_ | exact SubE.nil | refine SubE.cons ?_ ?_) (fun l hF => ?_))
    | (exact ⟨_, hF, LeX.of [] rfl ⟨⟨rfl, rfl⟩, ⟨rfl, rfl⟩, ⟨rfl, rfl⟩, ⟨rfl, rfl⟩, ⟨rfl, rfl⟩, trivial⟩ ⟨⟨rfl, rfl⟩, trivial⟩⟩)
    | (refine stream_Check_l1_o hF (LeX.of [] rfl ⟨⟨rfl, rfl⟩, ⟨rfl, rfl⟩, ⟨rfl, rfl⟩, ⟨rfl, rfl⟩, ⟨rfl, rfl⟩, trivial⟩ ⟨⟨rfl, rfl⟩, trivial⟩) (fun m v hF => ?_); unfold F_stream_Check_l1 at hF)
    | (refine And.intro ⟨by kernel_rfl, by kernel_rfl⟩ ?_)
    | (refine EqX.mk (by first | rfl | kernel_rfl) ?_)
    | (exact RetX.o hF (by repeat' first | exact Sub.nil _ | exact Sub.refl _ | refine Sub.agg ?_ | refine Sub.tup ?_ | refine Sub.fn ?_ | exact SubL.nil | refine SubL.cons ?_ ?_ | refine Sub.sl _ ?_ | exact SubE.nil | refine SubE.cons ?_ ?_))

def R_tidegateref05_Placed (r : Bool) : AV := .bool (r)
theorem con_tidegateref05_Placed {n : Nat} {a0 : T_api_Event} {r : Bool} (hF : F_tidegateref05_Placed n a0 = some r) : Con E0 true 75 [.agg [aI (a0.fSource), aI (a0.fSeq), aI (a0.fType), aI (a0.fTime), .sl 3 (List.map e_api_Value (a0.fValues))]] (R_tidegateref05_Placed r) := by
  unfold F_tidegateref05_Placed at hF
  refine Con.walk _ Tryz.func75 rfl (enters_of Tryz.func75 rfl rfl) rfl (Or.inr rfl) ?_
  repeat' first
    | (refine AW.step ?_; conv => whnf)
    | (refine CondX.o hF (fun hF => ?_) (fun hF => ?_))
    | (refine CondX.t ?_)
    | (refine CondX.f ?_)
    | (refine And.intro ⟨by kernel_rfl, by kernel_rfl⟩ ?_)
    | (refine EqX.mk (by first | rfl | kernel_rfl) ?_)
    | (exact RetX.o hF (by repeat' first | exact Sub.nil _ | exact Sub.refl _ | refine Sub.agg ?_ | refine Sub.tup ?_ | refine Sub.fn ?_ | exact SubL.nil | refine SubL.cons ?_ ?_ | refine Sub.sl _ ?_ | exact SubE.nil | refine SubE.cons ?_ ?_))

def R_tidegateref05_Ref (r : T_api_Ref) : AV := .agg [aI (r.fTime), aI (r.fSource), aI (r.fSeq)]
theorem con_tidegateref05_Ref {n : Nat} {a0 : T_api_Event} {r : T_api_Ref} (hF : F_tidegateref05_Ref n a0 = some r) : Con E0 true 77 [.agg [aI (a0.fSource), aI (a0.fSeq), aI (a0.fType), aI (a0.fTime), .sl 3 (List.map e_api_Value (a0.fValues))]] (R_tidegateref05_Ref r) := by
  unfold F_tidegateref05_Ref at hF
  refine Con.walk _ Tryz.func77 rfl (enters_of Tryz.func77 rfl rfl) rfl (Or.inr rfl) ?_
  repeat' first
    | (refine AW.step ?_; conv => whnf)
    | (refine CondX.o hF (fun hF => ?_) (fun hF => ?_))
    | (refine CondX.t ?_)
    | (refine CondX.f ?_)
    | (refine And.intro ⟨by kernel_rfl, by kernel_rfl⟩ ?_)
    | (refine EqX.mk (by first | rfl | kernel_rfl) ?_)
    | (exact RetX.o hF (by repeat' first | exact Sub.nil _ | exact Sub.refl _ | refine Sub.agg ?_ | refine Sub.tup ?_ | refine Sub.fn ?_ | exact SubL.nil | refine SubL.cons ?_ ?_ | refine Sub.sl _ ?_ | exact SubE.nil | refine SubE.cons ?_ ?_))

def R_tidegateref05_Order (r : Int) : AV := aI (r)
theorem con_tidegateref05_Order {n : Nat} {a0 : T_api_Ref} {a1 : T_api_Ref} {r : Int} (hF : F_tidegateref05_Order n a0 a1 = some r) : Con E0 true 76 [.agg [aI (a0.fTime), aI (a0.fSource), aI (a0.fSeq)], .agg [aI (a1.fTime), aI (a1.fSource), aI (a1.fSeq)]] (R_tidegateref05_Order r) := by
  unfold F_tidegateref05_Order at hF
  refine Con.walk _ Tryz.func76 rfl (enters_of Tryz.func76 rfl rfl) rfl (Or.inr rfl) ?_
  repeat' first
    | (refine AW.step ?_; conv => whnf)
    | (refine CondX.o hF (fun hF => ?_) (fun hF => ?_))
    | (refine CondX.t ?_)
    | (refine CondX.f ?_)
    | (refine And.intro ⟨by kernel_rfl, by kernel_rfl⟩ ?_)
    | (refine EqX.mk (by first | rfl | kernel_rfl) ?_)
    | (exact RetX.o hF (by repeat' first | exact Sub.nil _ | exact Sub.refl _ | refine Sub.agg ?_ | refine Sub.tup ?_ | refine Sub.fn ?_ | exact SubL.nil | refine SubL.cons ?_ ?_ | refine Sub.sl _ ?_ | exact SubE.nil | refine SubE.cons ?_ ?_))

def R_tidegateref05_Twin (r : Bool) : AV := .bool (r)
theorem con_tidegateref05_Twin {n : Nat} {a0 : T_api_Event} {a1 : T_api_Event} {r : Bool} (hF : F_tidegateref05_Twin n a0 a1 = some r) : Con E0 true 78 [.agg [aI (a0.fSource), aI (a0.fSeq), aI (a0.fType), aI (a0.fTime), .sl 3 (List.map e_api_Value (a0.fValues))], .agg [aI (a1.fSource), aI (a1.fSeq), aI (a1.fType), aI (a1.fTime), .sl 3 (List.map e_api_Value (a1.fValues))]] (R_tidegateref05_Twin r) := by
  unfold F_tidegateref05_Twin at hF
  refine Con.walk _ Tryz.func78 rfl (enters_of Tryz.func78 rfl rfl) rfl (Or.inr rfl) ?_
  repeat' first
    | (refine AW.step ?_; conv => whnf)
    | (refine CondX.o hF (fun hF => ?_) (fun hF => ?_))
    | (refine CondX.t ?_)
    | (refine CondX.f ?_)
    | (refine And.intro ⟨by kernel_rfl, by kernel_rfl⟩ ?_)
    | (refine EqX.mk (by first | rfl | kernel_rfl) ?_)
    | (exact RetX.o hF (by repeat' first | exact Sub.nil _ | exact Sub.refl _ | refine Sub.agg ?_ | refine Sub.tup ?_ | refine Sub.fn ?_ | exact SubL.nil | refine SubL.cons ?_ ?_ | refine Sub.sl _ ?_ | exact SubE.nil | refine SubE.cons ?_ ?_))

def S_tidegateref05_Check_l2 (a0 : (List T_api_Event)) (v1_0 : Int) (v2_1 : Int) : AS := ⟨[(0, .sl 5 (List.map e_api_Event (a0))), (3, aI (v1_0)), (4, aI (v2_1))], []⟩
theorem tidegateref05_Check_l2_o {n N : Nat} {a0 : (List T_api_Event)} {v1_0 : Int} {k2_1_0 : Option (Int)} {R : Exit → AS → Prop} {K : List KItem} {c : Code} {σ : AS} {v0 : Int} {r : Int} (hF : F_tidegateref05_Check_l2 n a0 v1_0 k2_1_0 N v0 = some r) (hl : LeX E0 51 σ (S_tidegateref05_Check_l2 a0 v1_0 v0)) (round : ∀ m v, F_tidegateref05_Check_l2 n a0 v1_0 k2_1_0 (m + 1) v = some r → AW E0 51 (thenA (fun σ' => ∃ v', F_tidegateref05_Check_l2 n a0 v1_0 k2_1_0 m v' = some r ∧ LeX E0 51 σ' (S_tidegateref05_Check_l2 a0 v1_0 v')) (AW E0 51 R K)) [.code c] .normal (S_tidegateref05_Check_l2 a0 v1_0 v)) : LoopX E0 51 (fun next σ' => AW E0 51 (thenA next (AW E0 51 R K)) [.code c] .normal σ') σ :=
  LoopA.o (S := S_tidegateref05_Check_l2 a0 v1_0) hF (fun _ => rfl) hl round
def S_tidegateref05_Check_l3 (a0 : (List T_api_Event)) (v1_0 : Int) (v3_2 : Int) : AS := ⟨[(0, .sl 5 (List.map e_api_Event (a0))), (3, aI (v1_0)), (4, aI (v3_2))], []⟩
theorem tidegateref05_Check_l3_o {n N : Nat} {a0 : (List T_api_Event)} {v1_0 : Int} {k3_2_0 : Option (Int)} {R : Exit → AS → Prop} {K : List KItem} {c : Code} {σ : AS} {v0 : Int} {r : Int} (hF : F_tidegateref05_Check_l3 n a0 v1_0 k3_2_0 N v0 = some r) (hl : LeX E0 51 σ (S_tidegateref05_Check_l3 a0 v1_0 v0)) (round : ∀ m v, F_tidegateref05_Check_l3 n a0 v1_0 k3_2_0 (m + 1) v = some r → AW E0 51 (thenA (fun σ' => ∃ v', F_tidegateref05_Check_l3 n a0 v1_0 k3_2_0 m v' = some r ∧ LeX E0 51 σ' (S_tidegateref05_Check_l3 a0 v1_0 v')) (AW E0 51 R K)) [.code c] .normal (S_tidegateref05_Check_l3 a0 v1_0 v)) : LoopX E0 51 (fun next σ' => AW E0 51 (thenA next (AW E0 51 R K)) [.code c] .normal σ') σ :=
  LoopA.o (S := S_tidegateref05_Check_l3 a0 v1_0) hF (fun _ => rfl) hl round
def S_tidegateref05_Check_l1 (a0 : (List T_api_Event)) (v1_0 : Int) : AS := ⟨[(0, .sl 5 (List.map e_api_Event (a0))), (3, aI (v1_0))], []⟩
theorem tidegateref05_Check_l1_o {n N : Nat} {a0 : (List T_api_Event)} {k1_0_0 : Option (Int)} {R : Exit → AS → Prop} {K : List KItem} {c : Code} {σ : AS} {v0 : Int} {r : Int} (hF : F_tidegateref05_Check_l1 n a0 k1_0_0 N v0 = some r) (hl : LeX E0 51 σ (S_tidegateref05_Check_l1 a0 v0)) (round : ∀ m v, F_tidegateref05_Check_l1 n a0 k1_0_0 (m + 1) v = some r → AW E0 51 (thenA (fun σ' => ∃ v', F_tidegateref05_Check_l1 n a0 k1_0_0 m v' = some r ∧ LeX E0 51 σ' (S_tidegateref05_Check_l1 a0 v')) (AW E0 51 R K)) [.code c] .normal (S_tidegateref05_Check_l1 a0 v)) : LoopX E0 51 (fun next σ' => AW E0 51 (thenA next (AW E0 51 R K)) [.code c] .normal σ') σ :=
  LoopA.o (S := S_tidegateref05_Check_l1 a0) hF (fun _ => rfl) hl round
def R_tidegateref05_Check (r : Int) : AV := aI (r)
theorem con_tidegateref05_Check {n : Nat} {a0 : (List T_api_Event)} {r : Int} (hF : F_tidegateref05_Check n a0 = some r) : Con E0 true 48 [.sl 5 (List.map e_api_Event (a0))] (R_tidegateref05_Check r) := by
  unfold F_tidegateref05_Check at hF
  refine Con.walk _ Tryz.func48 rfl (enters_of Tryz.func48 rfl rfl) rfl (Or.inr rfl) ?_
  repeat' first
    | (refine AW.step ?_; conv => whnf)
    | (refine CondX.o hF (fun hF => ?_) (fun hF => ?_))
    | (refine CondX.t ?_)
    | (refine CondX.f ?_)
    | (refine IdxX.o e_api_Event hF (fun x hF => ?_))
    | (refine CallX.o hF R_tidegateref05_Placed (fun a h => con_tidegateref05_Placed h) (fun a hF => ?_))
    | (refine CallX.o hF R_tidegateref05_Ref (fun a h => con_tidegateref05_Ref h) (fun a hF => ?_))
    | (refine CallX.o hF R_tidegateref05_Order (fun a h => con_tidegateref05_Order h) (fun a hF => ?_))
    | (exact ⟨_, hF, LeX.of [] rfl ⟨⟨rfl, rfl⟩, ⟨rfl, rfl⟩, trivial⟩ trivial⟩)
    | (refine CallX.o hF R_tidegateref05_Twin (fun a h => con_tidegateref05_Twin h) (fun a hF => ?_))
    | (exact ⟨_, hF, LeX.of [] rfl ⟨⟨rfl, rfl⟩, ⟨rfl, rfl⟩, ⟨rfl, rfl⟩, trivial⟩ trivial⟩)
    | (refine tidegateref05_Check_l2_o hF (LeX.of [] rfl ⟨⟨rfl, rfl⟩, ⟨rfl, rfl⟩, ⟨rfl, rfl⟩, trivial⟩ trivial) (fun m v hF => ?_); unfold F_tidegateref05_Check_l2 at hF)
    | (refine tidegateref05_Check_l3_o hF (LeX.of [] rfl ⟨⟨rfl, rfl⟩, ⟨rfl, rfl⟩, ⟨rfl, rfl⟩, trivial⟩ trivial) (fun m v hF => ?_); unfold F_tidegateref05_Check_l3 at hF)
    | (refine tidegateref05_Check_l1_o hF (LeX.of [] rfl ⟨⟨rfl, rfl⟩, ⟨rfl, rfl⟩, trivial⟩ trivial) (fun m v hF => ?_); unfold F_tidegateref05_Check_l1 at hF)
    | (refine And.intro ⟨by kernel_rfl, by kernel_rfl⟩ ?_)
    | (refine EqX.mk (by first | rfl | kernel_rfl) ?_)
    | (exact RetX.o hF (by repeat' first | exact Sub.nil _ | exact Sub.refl _ | refine Sub.agg ?_ | refine Sub.tup ?_ | refine Sub.fn ?_ | exact SubL.nil | refine SubL.cons ?_ ?_ | refine Sub.sl _ ?_ | exact SubE.nil | refine SubE.cons ?_ ?_))

def S_tidegateref05_list_l1 (a0 : (List T_api_Event)) (v1_0 : Int) : AS := ⟨[(0, .sl 5 (List.map e_api_Event (a0))), (3, aI (v1_0))], []⟩
theorem tidegateref05_list_l1_o {n N : Nat} {a0 : (List T_api_Event)} {k1_0_0 : Option (Int)} {R : Exit → AS → Prop} {K : List KItem} {c : Code} {σ : AS} {v0 : Int} {r : Int} (hF : F_tidegateref05_list_l1 n a0 k1_0_0 N v0 = some r) (hl : LeX E0 19 σ (S_tidegateref05_list_l1 a0 v0)) (round : ∀ m v, F_tidegateref05_list_l1 n a0 k1_0_0 (m + 1) v = some r → AW E0 19 (thenA (fun σ' => ∃ v', F_tidegateref05_list_l1 n a0 k1_0_0 m v' = some r ∧ LeX E0 19 σ' (S_tidegateref05_list_l1 a0 v')) (AW E0 19 R K)) [.code c] .normal (S_tidegateref05_list_l1 a0 v)) : LoopX E0 19 (fun next σ' => AW E0 19 (thenA next (AW E0 19 R K)) [.code c] .normal σ') σ :=
  LoopA.o (S := S_tidegateref05_list_l1 a0) hF (fun _ => rfl) hl round
def R_tidegateref05_list (r : Int) : AV := aI (r)
theorem con_tidegateref05_list {n : Nat} {a0 : (List T_api_Event)} {r : Int} (hF : F_tidegateref05_list n a0 = some r) : Con E0 true 90 [.sl 5 (List.map e_api_Event (a0))] (R_tidegateref05_list r) := by
  unfold F_tidegateref05_list at hF
  refine Con.walk _ Tryz.func90 rfl (enters_of Tryz.func90 rfl rfl) rfl (Or.inr rfl) ?_
  repeat' first
    | (refine AW.step ?_; conv => whnf)
    | (refine CondX.o hF (fun hF => ?_) (fun hF => ?_))
    | (refine CondX.t ?_)
    | (refine CondX.f ?_)
    | (refine IdxX.o e_api_Event hF (fun x hF => ?_))
    | (refine CallX.o hF R_tidegateref05_Placed (fun a h => con_tidegateref05_Placed h) (fun a hF => ?_))
    | (exact ⟨_, hF, LeX.of [] rfl ⟨⟨rfl, rfl⟩, ⟨rfl, rfl⟩, trivial⟩ trivial⟩)
    | (refine tidegateref05_list_l1_o hF (LeX.of [] rfl ⟨⟨rfl, rfl⟩, ⟨rfl, rfl⟩, trivial⟩ trivial) (fun m v hF => ?_); unfold F_tidegateref05_list_l1 at hF)
    | (refine And.intro ⟨by kernel_rfl, by kernel_rfl⟩ ?_)
    | (refine EqX.mk (by first | rfl | kernel_rfl) ?_)
    | (exact RetX.o hF (by repeat' first | exact Sub.nil _ | exact Sub.refl _ | refine Sub.agg ?_ | refine Sub.tup ?_ | refine Sub.fn ?_ | exact SubL.nil | refine SubL.cons ?_ ?_ | refine Sub.sl _ ?_ | exact SubE.nil | refine SubE.cons ?_ ?_))

def S_tidegateref01_Same_l1 (a1 : (List T_api_Value)) (a0 : (List T_api_Value)) (v1_0 : Int) : AS := ⟨[(0, .sl 3 (List.map e_api_Value (a0))), (1, .sl 3 (List.map e_api_Value (a1))), (5, aI (v1_0))], []⟩
theorem tidegateref01_Same_l1_o {n N : Nat} {a1 : (List T_api_Value)} {a0 : (List T_api_Value)} {k1_0_0 : Option (Bool)} {R : Exit → AS → Prop} {K : List KItem} {c : Code} {σ : AS} {v0 : Int} {r : Bool} (hF : F_tidegateref01_Same_l1 n a1 a0 k1_0_0 N v0 = some r) (hl : LeX E0 26 σ (S_tidegateref01_Same_l1 a1 a0 v0)) (round : ∀ m v, F_tidegateref01_Same_l1 n a1 a0 k1_0_0 (m + 1) v = some r → AW E0 26 (thenA (fun σ' => ∃ v', F_tidegateref01_Same_l1 n a1 a0 k1_0_0 m v' = some r ∧ LeX E0 26 σ' (S_tidegateref01_Same_l1 a1 a0 v')) (AW E0 26 R K)) [.code c] .normal (S_tidegateref01_Same_l1 a1 a0 v)) : LoopX E0 26 (fun next σ' => AW E0 26 (thenA next (AW E0 26 R K)) [.code c] .normal σ') σ :=
  LoopA.o (S := S_tidegateref01_Same_l1 a1 a0) hF (fun _ => rfl) hl round
def R_tidegateref01_Same (r : Bool) : AV := .bool (r)
theorem con_tidegateref01_Same {n : Nat} {a0 : (List T_api_Value)} {a1 : (List T_api_Value)} {r : Bool} (hF : F_tidegateref01_Same n a0 a1 = some r) : Con E0 true 87 [.sl 3 (List.map e_api_Value (a0)), .sl 3 (List.map e_api_Value (a1))] (R_tidegateref01_Same r) := by
  unfold F_tidegateref01_Same at hF
  refine Con.walk _ Tryz.func87 rfl (enters_of Tryz.func87 rfl rfl) rfl (Or.inr rfl) ?_
  repeat' first
    | (refine AW.step ?_; conv => whnf)
    | (refine CondX.o hF (fun hF => ?_) (fun hF => ?_))
    | (refine CondX.t ?_)
    | (refine CondX.f ?_)
    | (refine IdxX.o e_api_Value hF (fun x hF => ?_))
    | (exact ⟨_, hF, LeX.of [] rfl ⟨⟨rfl, rfl⟩, ⟨rfl, rfl⟩, ⟨rfl, rfl⟩, trivial⟩ trivial⟩)
    | (refine tidegateref01_Same_l1_o hF (LeX.of [] rfl ⟨⟨rfl, rfl⟩, ⟨rfl, rfl⟩, ⟨rfl, rfl⟩, trivial⟩ trivial) (fun m v hF => ?_); unfold F_tidegateref01_Same_l1 at hF)
    | (refine And.intro ⟨by kernel_rfl, by kernel_rfl⟩ ?_)
    | (refine EqX.mk (by first | rfl | kernel_rfl) ?_)
    | (exact RetX.o hF (by repeat' first | exact Sub.nil _ | exact Sub.refl _ | refine Sub.agg ?_ | refine Sub.tup ?_ | refine Sub.fn ?_ | exact SubL.nil | refine SubL.cons ?_ ?_ | refine Sub.sl _ ?_ | exact SubE.nil | refine SubE.cons ?_ ?_))

def R_tidegateref05_Equal (r : Bool) : AV := .bool (r)
theorem con_tidegateref05_Equal {n : Nat} {a0 : T_api_Event} {a1 : T_api_Event} {r : Bool} (hF : F_tidegateref05_Equal n a0 a1 = some r) : Con E0 true 54 [.agg [aI (a0.fSource), aI (a0.fSeq), aI (a0.fType), aI (a0.fTime), .sl 3 (List.map e_api_Value (a0.fValues))], .agg [aI (a1.fSource), aI (a1.fSeq), aI (a1.fType), aI (a1.fTime), .sl 3 (List.map e_api_Value (a1.fValues))]] (R_tidegateref05_Equal r) := by
  unfold F_tidegateref05_Equal at hF
  refine Con.walk _ Tryz.func54 rfl (enters_of Tryz.func54 rfl rfl) rfl (Or.inr rfl) ?_
  repeat' first
    | (refine AW.step ?_; conv => whnf)
    | (refine CondX.o hF (fun hF => ?_) (fun hF => ?_))
    | (refine CondX.t ?_)
    | (refine CondX.f ?_)
    | (refine CallX.o hF R_tidegateref05_Ref (fun a h => con_tidegateref05_Ref h) (fun a hF => ?_))
    | (refine CallX.o hF R_tidegateref01_Same (fun a h => con_tidegateref01_Same h) (fun a hF => ?_))
    | (refine And.intro ⟨by kernel_rfl, by kernel_rfl⟩ ?_)
    | (refine EqX.mk (by first | rfl | kernel_rfl) ?_)
    | (exact RetX.o hF (by repeat' first | exact Sub.nil _ | exact Sub.refl _ | refine Sub.agg ?_ | refine Sub.tup ?_ | refine Sub.fn ?_ | exact SubL.nil | refine SubL.cons ?_ ?_ | refine Sub.sl _ ?_ | exact SubE.nil | refine SubE.cons ?_ ?_))

def S_tidegateref05_conflict_l1 (a1 : T_api_Event) (a0 : (List T_api_Event)) (v1_0 : Int) : AS := ⟨[(0, .sl 5 (List.map e_api_Event (a0))), (3, .ptr 3 0), (5, aI (v1_0))], [(3, .box 26 [aI (a1.fSource), aI (a1.fSeq), aI (a1.fType), aI (a1.fTime), .sl 3 (List.map e_api_Value (a1.fValues))])]⟩
theorem tidegateref05_conflict_l1_o {n N : Nat} {a1 : T_api_Event} {a0 : (List T_api_Event)} {k1_0_0 : Option (Bool)} {R : Exit → AS → Prop} {K : List KItem} {c : Code} {σ : AS} {v0 : Int} {r : Bool} (hF : F_tidegateref05_conflict_l1 n a1 a0 k1_0_0 N v0 = some r) (hl : LeX E0 27 σ (S_tidegateref05_conflict_l1 a1 a0 v0)) (round : ∀ m v, F_tidegateref05_conflict_l1 n a1 a0 k1_0_0 (m + 1) v = some r → AW E0 27 (thenA (fun σ' => ∃ v', F_tidegateref05_conflict_l1 n a1 a0 k1_0_0 m v' = some r ∧ LeX E0 27 σ' (S_tidegateref05_conflict_l1 a1 a0 v')) (AW E0 27 R K)) [.code c] .normal (S_tidegateref05_conflict_l1 a1 a0 v)) : LoopX E0 27 (fun next σ' => AW E0 27 (thenA next (AW E0 27 R K)) [.code c] .normal σ') σ :=
  LoopA.o (S := S_tidegateref05_conflict_l1 a1 a0) hF (fun _ => rfl) hl round
def R_tidegateref05_conflict (r : Bool) : AV := .bool (r)
end Go.Proofs.YtimkhfaddnanhaaGreat
namespace Go.Proofs.YtimkhfaddnanhaaGreat
open Go.RowKit
theorem con_tidegateref05_conflict {n : Nat} {a0 : (List T_api_Event)} {a1 : T_api_Event} {r : Bool} (hF : F_tidegateref05_conflict n a0 a1 = some r) : Con E0 true 82 [.sl 5 (List.map e_api_Event (a0)), .agg [aI (a1.fSource), aI (a1.fSeq), aI (a1.fType), aI (a1.fTime), .sl 3 (List.map e_api_Value (a1.fValues))]] (R_tidegateref05_conflict r) := by
  unfold F_tidegateref05_conflict at hF
  refine Con.walk _ Tryz.func82 rfl (enters_of Tryz.func82 rfl rfl) rfl (Or.inr rfl) ?_
  repeat' first
    | (refine AW.step ?_; conv => whnf)
    | (refine CondX.o hF (fun hF => ?_) (fun hF => ?_))
    | (refine CondX.t ?_)
    | (refine CondX.f ?_)
    | (refine IdxX.o e_api_Event hF (fun x hF => ?_))
    | (refine CallX.o hF R_tidegateref05_Twin (fun a h => con_tidegateref05_Twin h) (fun a hF => ?_))
    | (refine CallX.o hF R_tidegateref05_Equal (fun a h => con_tidegateref05_Equal h) (fun a hF => ?_))
    | (exact ⟨_, hF, LeX.of [] rfl ⟨⟨rfl, rfl⟩, ⟨rfl, rfl⟩, ⟨rfl, rfl⟩, trivial⟩ ⟨⟨rfl, rfl⟩, trivial⟩⟩)
    | (refine tidegateref05_conflict_l1_o hF (LeX.of [] rfl ⟨⟨rfl, rfl⟩, ⟨rfl, rfl⟩, ⟨rfl, rfl⟩, trivial⟩ ⟨⟨rfl, rfl⟩, trivial⟩) (fun m v hF => ?_); unfold F_tidegateref05_conflict_l1 at hF)
    | (refine And.intro ⟨by kernel_rfl, by kernel_rfl⟩ ?_)
    | (refine EqX.mk (by first | rfl | kernel_rfl) ?_)
    | (exact RetX.o hF (by repeat' first | exact Sub.nil _ | exact Sub.refl _ | refine Sub.agg ?_ | refine Sub.tup ?_ | refine Sub.fn ?_ | exact SubL.nil | refine SubL.cons ?_ ?_ | refine Sub.sl _ ?_ | exact SubE.nil | refine SubE.cons ?_ ?_))

def S_tidegateref05_Has_l1 (a1 : T_api_Event) (a0 : (List T_api_Event)) (v1_0 : Int) : AS := ⟨[(0, .sl 5 (List.map e_api_Event (a0))), (3, .ptr 3 0), (5, aI (v1_0))], [(3, .box 26 [aI (a1.fSource), aI (a1.fSeq), aI (a1.fType), aI (a1.fTime), .sl 3 (List.map e_api_Value (a1.fValues))])]⟩
theorem tidegateref05_Has_l1_o {n N : Nat} {a1 : T_api_Event} {a0 : (List T_api_Event)} {k1_0_0 : Option (Bool)} {R : Exit → AS → Prop} {K : List KItem} {c : Code} {σ : AS} {v0 : Int} {r : Bool} (hF : F_tidegateref05_Has_l1 n a1 a0 k1_0_0 N v0 = some r) (hl : LeX E0 18 σ (S_tidegateref05_Has_l1 a1 a0 v0)) (round : ∀ m v, F_tidegateref05_Has_l1 n a1 a0 k1_0_0 (m + 1) v = some r → AW E0 18 (thenA (fun σ' => ∃ v', F_tidegateref05_Has_l1 n a1 a0 k1_0_0 m v' = some r ∧ LeX E0 18 σ' (S_tidegateref05_Has_l1 a1 a0 v')) (AW E0 18 R K)) [.code c] .normal (S_tidegateref05_Has_l1 a1 a0 v)) : LoopX E0 18 (fun next σ' => AW E0 18 (thenA next (AW E0 18 R K)) [.code c] .normal σ') σ :=
  LoopA.o (S := S_tidegateref05_Has_l1 a1 a0) hF (fun _ => rfl) hl round
def R_tidegateref05_Has (r : Bool) : AV := .bool (r)
theorem con_tidegateref05_Has {n : Nat} {a0 : (List T_api_Event)} {a1 : T_api_Event} {r : Bool} (hF : F_tidegateref05_Has n a0 a1 = some r) : Con E0 true 32 [.sl 5 (List.map e_api_Event (a0)), .agg [aI (a1.fSource), aI (a1.fSeq), aI (a1.fType), aI (a1.fTime), .sl 3 (List.map e_api_Value (a1.fValues))]] (R_tidegateref05_Has r) := by
  unfold F_tidegateref05_Has at hF
  refine Con.walk _ Tryz.func32 rfl (enters_of Tryz.func32 rfl rfl) rfl (Or.inr rfl) ?_
  repeat' first
    | (refine AW.step ?_; conv => whnf)
    | (refine CondX.o hF (fun hF => ?_) (fun hF => ?_))
    | (refine CondX.t ?_)
    | (refine CondX.f ?_)
    | (refine IdxX.o e_api_Event hF (fun x hF => ?_))
    | (refine CallX.o hF R_tidegateref05_Equal (fun a h => con_tidegateref05_Equal h) (fun a hF => ?_))
    | (exact ⟨_, hF, LeX.of [] rfl ⟨⟨rfl, rfl⟩, ⟨rfl, rfl⟩, ⟨rfl, rfl⟩, trivial⟩ ⟨⟨rfl, rfl⟩, trivial⟩⟩)
    | (refine tidegateref05_Has_l1_o hF (LeX.of [] rfl ⟨⟨rfl, rfl⟩, ⟨rfl, rfl⟩, ⟨rfl, rfl⟩, trivial⟩ ⟨⟨rfl, rfl⟩, trivial⟩) (fun m v hF => ?_); unfold F_tidegateref05_Has_l1 at hF)
    | (refine And.intro ⟨by kernel_rfl, by kernel_rfl⟩ ?_)
    | (refine EqX.mk (by first | rfl | kernel_rfl) ?_)
    | (exact RetX.o hF (by repeat' first | exact Sub.nil _ | exact Sub.refl _ | refine Sub.agg ?_ | refine Sub.tup ?_ | refine Sub.fn ?_ | exact SubL.nil | refine SubL.cons ?_ ?_ | refine Sub.sl _ ?_ | exact SubE.nil | refine SubE.cons ?_ ?_))

def S_tidegateref05_put_l1 (a1 : T_api_Event) (a0 : (List T_api_Event)) (v1_0 : Int × (List T_api_Event)) : AS := ⟨[(0, .sl 5 (List.map e_api_Event (a0))), (3, .ptr 3 0), (5, .row 7028), (6, aI (v1_0.1))], [(3, .box 26 [aI (a1.fSource), aI (a1.fSeq), aI (a1.fType), aI (a1.fTime), .sl 3 (List.map e_api_Value (a1.fValues))]), (7028, .row 26 5 (List.map e_api_Event (v1_0.2)))]⟩
theorem tidegateref05_put_l1_o {n N : Nat} {a1 : T_api_Event} {a0 : (List T_api_Event)} {k1_0_0 : Int → (List T_api_Event) → Option ((List T_api_Event))} {R : Exit → AS → Prop} {K : List KItem} {c : Code} {σ : AS} {v0 : Int × (List T_api_Event)} {r : (List T_api_Event)} (hF : F_tidegateref05_put_l1 n a1 a0 k1_0_0 N v0 = some r) (hl : LeX E0 40 σ (S_tidegateref05_put_l1 a1 a0 v0)) (round : ∀ m v, F_tidegateref05_put_l1 n a1 a0 k1_0_0 (m + 1) v = some r → AW E0 40 (thenA (fun σ' => ∃ v', F_tidegateref05_put_l1 n a1 a0 k1_0_0 m v' = some r ∧ LeX E0 40 σ' (S_tidegateref05_put_l1 a1 a0 v')) (AW E0 40 R K)) [.code c] .normal (S_tidegateref05_put_l1 a1 a0 v)) : LoopX E0 40 (fun next σ' => AW E0 40 (thenA next (AW E0 40 R K)) [.code c] .normal σ') σ :=
  LoopA.o (S := S_tidegateref05_put_l1 a1 a0) hF (fun _ => rfl) hl round
def R_tidegateref05_put (r : (List T_api_Event)) : AV := .sl 5 (List.map e_api_Event (r))
theorem con_tidegateref05_put {n : Nat} {a0 : (List T_api_Event)} {a1 : T_api_Event} {r : (List T_api_Event)} (hF : F_tidegateref05_put n a0 a1 = some r) : Con E0 false 83 [.sl 5 (List.map e_api_Event (a0)), .agg [aI (a1.fSource), aI (a1.fSeq), aI (a1.fType), aI (a1.fTime), .sl 3 (List.map e_api_Value (a1.fValues))]] (R_tidegateref05_put r) := by
  unfold F_tidegateref05_put at hF
  refine Con.walk _ Tryz.func83 rfl (enters_of Tryz.func83 rfl rfl) rfl (Or.inl rfl) ?_
  repeat' first
    | (refine AW.step ?_; conv => whnf)
    | (refine CondX.o hF (fun hF => ?_) (fun hF => ?_))
    | (refine CondX.t ?_)
    | (refine CondX.f ?_)
    | (refine AppX.o e_api_Event hF (by first | exact SubR.refl _ | (repeat' first | exact SubR.nil | refine SubR.cons ?_ ?_ | exact SubL.nil | refine SubL.cons ?_ ?_ | exact Sub.refl _ | exact Sub.nil _)) (fun l hF => ?_))
    | (refine SlsX.o e_api_Event hF (fun l hF => ?_))
    | (refine IdxX.o e_api_Event hF (fun x hF => ?_))
    | (refine CallX.o hF R_tidegateref05_Ref (fun a h => con_tidegateref05_Ref h) (fun a hF => ?_))
    | (refine CallX.o hF R_tidegateref05_Order (fun a h => con_tidegateref05_Order h) (fun a hF => ?_))
    | (exact ⟨_, hF, LeX.of [(7028, 28)] rfl ⟨⟨rfl, rfl⟩, ⟨rfl, rfl⟩, ⟨rfl, rfl⟩, ⟨rfl, rfl⟩, trivial⟩ ⟨⟨rfl, rfl⟩, ⟨rfl, rfl⟩, trivial⟩⟩)
    | (refine tidegateref05_put_l1_o hF (LeX.trans (LeX.adopt 5 7028 26 5 rfl rfl) (LeX.of [] rfl ⟨⟨rfl, rfl⟩, ⟨rfl, rfl⟩, ⟨rfl, rfl⟩, ⟨rfl, rfl⟩, trivial⟩ ⟨⟨rfl, rfl⟩, ⟨rfl, rfl⟩, trivial⟩)) (fun m v hF => ?_); unfold F_tidegateref05_put_l1 at hF)
    | (refine And.intro ⟨by kernel_rfl, by kernel_rfl⟩ ?_)
    | (refine EqX.mk (by first | rfl | kernel_rfl) ?_)
    | (exact RetX.o hF (by repeat' first | exact Sub.nil _ | exact Sub.refl _ | refine Sub.agg ?_ | refine Sub.tup ?_ | refine Sub.fn ?_ | exact SubL.nil | refine SubL.cons ?_ ?_ | refine Sub.sl _ ?_ | exact SubE.nil | refine SubE.cons ?_ ?_))

def S_tidegateref05_Sorted_l1 (a0 : (List T_api_Event)) (v1_0 : (List T_api_Event) × Int) : AS := ⟨[(0, .sl 5 (List.map e_api_Event (a0))), (3, .sl 5 (List.map e_api_Event (v1_0.1))), (4, aI (v1_0.2))], []⟩
theorem tidegateref05_Sorted_l1_o {n N : Nat} {a0 : (List T_api_Event)} {k1_0_0 : (List T_api_Event) → Option ((List T_api_Event))} {R : Exit → AS → Prop} {K : List KItem} {c : Code} {σ : AS} {v0 : (List T_api_Event) × Int} {r : (List T_api_Event)} (hF : F_tidegateref05_Sorted_l1 n a0 k1_0_0 N v0 = some r) (hl : LeX E0 25 σ (S_tidegateref05_Sorted_l1 a0 v0)) (round : ∀ m v, F_tidegateref05_Sorted_l1 n a0 k1_0_0 (m + 1) v = some r → AW E0 25 (thenA (fun σ' => ∃ v', F_tidegateref05_Sorted_l1 n a0 k1_0_0 m v' = some r ∧ LeX E0 25 σ' (S_tidegateref05_Sorted_l1 a0 v')) (AW E0 25 R K)) [.code c] .normal (S_tidegateref05_Sorted_l1 a0 v)) : LoopX E0 25 (fun next σ' => AW E0 25 (thenA next (AW E0 25 R K)) [.code c] .normal σ') σ :=
  LoopA.o (S := S_tidegateref05_Sorted_l1 a0) hF (fun _ => rfl) hl round
def R_tidegateref05_Sorted (r : (List T_api_Event)) : AV := .sl 5 (List.map e_api_Event (r))
theorem con_tidegateref05_Sorted {n : Nat} {a0 : (List T_api_Event)} {r : (List T_api_Event)} (hF : F_tidegateref05_Sorted n a0 = some r) : Con E0 false 91 [.sl 5 (List.map e_api_Event (a0))] (R_tidegateref05_Sorted r) := by
  unfold F_tidegateref05_Sorted at hF
  refine Con.walk _ Tryz.func91 rfl (enters_of Tryz.func91 rfl rfl) rfl (Or.inl rfl) ?_
  repeat' first
    | (refine AW.step ?_; conv => whnf)
    | (refine CondX.o hF (fun hF => ?_) (fun hF => ?_))
    | (refine CondX.t ?_)
    | (refine CondX.f ?_)
    | (refine IdxX.o e_api_Event hF (fun x hF => ?_))
    | (refine CallX.o hF R_tidegateref05_Has (fun a h => con_tidegateref05_Has h) (fun a hF => ?_))
    | (refine CallX.o hF R_tidegateref05_put (fun a h => con_tidegateref05_put h) (fun a hF => ?_))
    | (exact ⟨_, hF, LeX.of [] rfl ⟨⟨rfl, rfl⟩, ⟨rfl, rfl⟩, ⟨rfl, rfl⟩, trivial⟩ trivial⟩)
    | (refine tidegateref05_Sorted_l1_o hF (LeX.trans (LeX.put 3 _ (by repeat' first | exact Sub.nil _ | exact Sub.refl _ | refine Sub.agg ?_ | refine Sub.tup ?_ | refine Sub.fn ?_ | exact SubL.nil | refine SubL.cons ?_ ?_ | refine Sub.sl _ ?_ | exact SubE.nil | refine SubE.cons ?_ ?_)) (LeX.of [] rfl ⟨⟨rfl, rfl⟩, ⟨rfl, rfl⟩, ⟨rfl, rfl⟩, trivial⟩ trivial)) (fun m v hF => ?_); unfold F_tidegateref05_Sorted_l1 at hF)
    | (refine And.intro ⟨by kernel_rfl, by kernel_rfl⟩ ?_)
    | (refine EqX.mk (by first | rfl | kernel_rfl) ?_)
    | (exact RetX.o hF (by repeat' first | exact Sub.nil _ | exact Sub.refl _ | refine Sub.agg ?_ | refine Sub.tup ?_ | refine Sub.fn ?_ | exact SubL.nil | refine SubL.cons ?_ ?_ | refine Sub.sl _ ?_ | exact SubE.nil | refine SubE.cons ?_ ?_))

def S_tidegateref05_Sort_l1 (a0 : (List T_api_Event)) (v1_0 : Int) : AS := ⟨[(0, .sl 5 (List.map e_api_Event (a0))), (5, aI (v1_0))], []⟩
theorem tidegateref05_Sort_l1_o {n N : Nat} {a0 : (List T_api_Event)} {k1_0_0 : Option ((List T_api_Event) × Int)} {R : Exit → AS → Prop} {K : List KItem} {c : Code} {σ : AS} {v0 : Int} {r : (List T_api_Event) × Int} (hF : F_tidegateref05_Sort_l1 n a0 k1_0_0 N v0 = some r) (hl : LeX E0 25 σ (S_tidegateref05_Sort_l1 a0 v0)) (round : ∀ m v, F_tidegateref05_Sort_l1 n a0 k1_0_0 (m + 1) v = some r → AW E0 25 (thenA (fun σ' => ∃ v', F_tidegateref05_Sort_l1 n a0 k1_0_0 m v' = some r ∧ LeX E0 25 σ' (S_tidegateref05_Sort_l1 a0 v')) (AW E0 25 R K)) [.code c] .normal (S_tidegateref05_Sort_l1 a0 v)) : LoopX E0 25 (fun next σ' => AW E0 25 (thenA next (AW E0 25 R K)) [.code c] .normal σ') σ :=
  LoopA.o (S := S_tidegateref05_Sort_l1 a0) hF (fun _ => rfl) hl round
def R_tidegateref05_Sort (r : (List T_api_Event) × Int) : AV := .tup [.sl 5 (List.map e_api_Event (r.1)), aI (r.2)]
theorem con_tidegateref05_Sort {n : Nat} {a0 : (List T_api_Event)} {r : (List T_api_Event) × Int} (hF : F_tidegateref05_Sort n a0 = some r) : Con E0 false 58 [.sl 5 (List.map e_api_Event (a0))] (R_tidegateref05_Sort r) := by
  unfold F_tidegateref05_Sort at hF
  refine Con.walk _ Tryz.func58 rfl (enters_of Tryz.func58 rfl rfl) rfl (Or.inl rfl) ?_
  repeat' first
    | (refine AW.step ?_; conv => whnf)
    | (refine CondX.o hF (fun hF => ?_) (fun hF => ?_))
    | (refine CondX.t ?_)
    | (refine CondX.f ?_)
    | (refine CallX.o hF R_tidegateref05_list (fun a h => con_tidegateref05_list h) (fun a hF => ?_))
    | (refine CallX.o hF R_tidegateref05_Sorted (fun a h => con_tidegateref05_Sorted h) (fun a hF => ?_))
    | (refine IdxX.o e_api_Event hF (fun x hF => ?_))
    | (refine CallX.o hF R_tidegateref05_conflict (fun a h => con_tidegateref05_conflict h) (fun a hF => ?_))
    | (exact ⟨_, hF, LeX.of [] rfl ⟨⟨rfl, rfl⟩, ⟨rfl, rfl⟩, trivial⟩ trivial⟩)
    | (refine tidegateref05_Sort_l1_o hF (LeX.of [] rfl ⟨⟨rfl, rfl⟩, ⟨rfl, rfl⟩, trivial⟩ trivial) (fun m v hF => ?_); unfold F_tidegateref05_Sort_l1 at hF)
    | (refine And.intro ⟨by kernel_rfl, by kernel_rfl⟩ ?_)
    | (refine EqX.mk (by first | rfl | kernel_rfl) ?_)
    | (exact RetX.o hF (by repeat' first | exact Sub.nil _ | exact Sub.refl _ | refine Sub.agg ?_ | refine Sub.tup ?_ | refine Sub.fn ?_ | exact SubL.nil | refine SubL.cons ?_ ?_ | refine Sub.sl _ ?_ | exact SubE.nil | refine SubE.cons ?_ ?_))

def S_tidegateref01_Few_l1 (a0 : (List T_api_Value)) (v1_0 : Int) : AS := ⟨[(0, .sl 3 (List.map e_api_Value (a0))), (3, aI (v1_0))], []⟩
theorem tidegateref01_Few_l1_o {n N : Nat} {a0 : (List T_api_Value)} {k1_0_0 : Option (Bool)} {R : Exit → AS → Prop} {K : List KItem} {c : Code} {σ : AS} {v0 : Int} {r : Bool} (hF : F_tidegateref01_Few_l1 n a0 k1_0_0 N v0 = some r) (hl : LeX E0 24 σ (S_tidegateref01_Few_l1 a0 v0)) (round : ∀ m v, F_tidegateref01_Few_l1 n a0 k1_0_0 (m + 1) v = some r → AW E0 24 (thenA (fun σ' => ∃ v', F_tidegateref01_Few_l1 n a0 k1_0_0 m v' = some r ∧ LeX E0 24 σ' (S_tidegateref01_Few_l1 a0 v')) (AW E0 24 R K)) [.code c] .normal (S_tidegateref01_Few_l1 a0 v)) : LoopX E0 24 (fun next σ' => AW E0 24 (thenA next (AW E0 24 R K)) [.code c] .normal σ') σ :=
  LoopA.o (S := S_tidegateref01_Few_l1 a0) hF (fun _ => rfl) hl round
def R_tidegateref01_Few (r : Bool) : AV := .bool (r)
theorem con_tidegateref01_Few {n : Nat} {a0 : (List T_api_Value)} {r : Bool} (hF : F_tidegateref01_Few n a0 = some r) : Con E0 true 41 [.sl 3 (List.map e_api_Value (a0))] (R_tidegateref01_Few r) := by
  unfold F_tidegateref01_Few at hF
  refine Con.walk _ Tryz.func41 rfl (enters_of Tryz.func41 rfl rfl) rfl (Or.inr rfl) ?_
  repeat' first
    | (refine AW.step ?_; conv => whnf)
    | (refine CondX.o hF (fun hF => ?_) (fun hF => ?_))
    | (refine CondX.t ?_)
    | (refine CondX.f ?_)
    | (refine IdxX.o e_api_Value hF (fun x hF => ?_))
    | (exact ⟨_, hF, LeX.of [] rfl ⟨⟨rfl, rfl⟩, ⟨rfl, rfl⟩, trivial⟩ trivial⟩)
    | (refine tidegateref01_Few_l1_o hF (LeX.of [] rfl ⟨⟨rfl, rfl⟩, ⟨rfl, rfl⟩, trivial⟩ trivial) (fun m v hF => ?_); unfold F_tidegateref01_Few_l1 at hF)
    | (refine And.intro ⟨by kernel_rfl, by kernel_rfl⟩ ?_)
    | (refine EqX.mk (by first | rfl | kernel_rfl) ?_)
    | (exact RetX.o hF (by repeat' first | exact Sub.nil _ | exact Sub.refl _ | refine Sub.agg ?_ | refine Sub.tup ?_ | refine Sub.fn ?_ | exact SubL.nil | refine SubL.cons ?_ ?_ | refine Sub.sl _ ?_ | exact SubE.nil | refine SubE.cons ?_ ?_))

def S_tidegateref05_Few_l1 (a0 : (List T_api_Event)) (v1_0 : Int) : AS := ⟨[(0, .sl 5 (List.map e_api_Event (a0))), (3, aI (v1_0))], []⟩
theorem tidegateref05_Few_l1_o {n N : Nat} {a0 : (List T_api_Event)} {k1_0_0 : Option (Bool)} {R : Exit → AS → Prop} {K : List KItem} {c : Code} {σ : AS} {v0 : Int} {r : Bool} (hF : F_tidegateref05_Few_l1 n a0 k1_0_0 N v0 = some r) (hl : LeX E0 33 σ (S_tidegateref05_Few_l1 a0 v0)) (round : ∀ m v, F_tidegateref05_Few_l1 n a0 k1_0_0 (m + 1) v = some r → AW E0 33 (thenA (fun σ' => ∃ v', F_tidegateref05_Few_l1 n a0 k1_0_0 m v' = some r ∧ LeX E0 33 σ' (S_tidegateref05_Few_l1 a0 v')) (AW E0 33 R K)) [.code c] .normal (S_tidegateref05_Few_l1 a0 v)) : LoopX E0 33 (fun next σ' => AW E0 33 (thenA next (AW E0 33 R K)) [.code c] .normal σ') σ :=
  LoopA.o (S := S_tidegateref05_Few_l1 a0) hF (fun _ => rfl) hl round
def R_tidegateref05_Few (r : Bool) : AV := .bool (r)
theorem con_tidegateref05_Few {n : Nat} {a0 : (List T_api_Event)} {r : Bool} (hF : F_tidegateref05_Few n a0 = some r) : Con E0 true 11 [.sl 5 (List.map e_api_Event (a0))] (R_tidegateref05_Few r) := by
  unfold F_tidegateref05_Few at hF
  refine Con.walk _ Tryz.func11 rfl (enters_of Tryz.func11 rfl rfl) rfl (Or.inr rfl) ?_
  repeat' first
    | (refine AW.step ?_; conv => whnf)
    | (refine CondX.o hF (fun hF => ?_) (fun hF => ?_))
    | (refine CondX.t ?_)
    | (refine CondX.f ?_)
    | (refine IdxX.o e_api_Event hF (fun x hF => ?_))
    | (refine CallX.o hF R_tidegateref01_Few (fun a h => con_tidegateref01_Few h) (fun a hF => ?_))
    | (exact ⟨_, hF, LeX.of [] rfl ⟨⟨rfl, rfl⟩, ⟨rfl, rfl⟩, trivial⟩ trivial⟩)
    | (refine tidegateref05_Few_l1_o hF (LeX.of [] rfl ⟨⟨rfl, rfl⟩, ⟨rfl, rfl⟩, trivial⟩ trivial) (fun m v hF => ?_); unfold F_tidegateref05_Few_l1 at hF)
    | (refine And.intro ⟨by kernel_rfl, by kernel_rfl⟩ ?_)
    | (refine EqX.mk (by first | rfl | kernel_rfl) ?_)
    | (exact RetX.o hF (by repeat' first | exact Sub.nil _ | exact Sub.refl _ | refine Sub.agg ?_ | refine Sub.tup ?_ | refine Sub.fn ?_ | exact SubL.nil | refine SubL.cons ?_ ?_ | refine Sub.sl _ ?_ | exact SubE.nil | refine SubE.cons ?_ ?_))

def S_tidegateref05_Same_l1 (a1 : (List T_api_Event)) (a0 : (List T_api_Event)) (v1_0 : Int) : AS := ⟨[(0, .sl 5 (List.map e_api_Event (a0))), (1, .sl 5 (List.map e_api_Event (a1))), (5, aI (v1_0))], []⟩
theorem tidegateref05_Same_l1_o {n N : Nat} {a1 : (List T_api_Event)} {a0 : (List T_api_Event)} {k1_0_0 : Option (Bool)} {R : Exit → AS → Prop} {K : List KItem} {c : Code} {σ : AS} {v0 : Int} {r : Bool} (hF : F_tidegateref05_Same_l1 n a1 a0 k1_0_0 N v0 = some r) (hl : LeX E0 27 σ (S_tidegateref05_Same_l1 a1 a0 v0)) (round : ∀ m v, F_tidegateref05_Same_l1 n a1 a0 k1_0_0 (m + 1) v = some r → AW E0 27 (thenA (fun σ' => ∃ v', F_tidegateref05_Same_l1 n a1 a0 k1_0_0 m v' = some r ∧ LeX E0 27 σ' (S_tidegateref05_Same_l1 a1 a0 v')) (AW E0 27 R K)) [.code c] .normal (S_tidegateref05_Same_l1 a1 a0 v)) : LoopX E0 27 (fun next σ' => AW E0 27 (thenA next (AW E0 27 R K)) [.code c] .normal σ') σ :=
  LoopA.o (S := S_tidegateref05_Same_l1 a1 a0) hF (fun _ => rfl) hl round
def R_tidegateref05_Same (r : Bool) : AV := .bool (r)
theorem con_tidegateref05_Same {n : Nat} {a0 : (List T_api_Event)} {a1 : (List T_api_Event)} {r : Bool} (hF : F_tidegateref05_Same n a0 a1 = some r) : Con E0 true 19 [.sl 5 (List.map e_api_Event (a0)), .sl 5 (List.map e_api_Event (a1))] (R_tidegateref05_Same r) := by
  unfold F_tidegateref05_Same at hF
  refine Con.walk _ Tryz.func19 rfl (enters_of Tryz.func19 rfl rfl) rfl (Or.inr rfl) ?_
  repeat' first
    | (refine AW.step ?_; conv => whnf)
    | (refine CondX.o hF (fun hF => ?_) (fun hF => ?_))
    | (refine CondX.t ?_)
    | (refine CondX.f ?_)
    | (refine IdxX.o e_api_Event hF (fun x hF => ?_))
    | (refine CallX.o hF R_tidegateref05_Equal (fun a h => con_tidegateref05_Equal h) (fun a hF => ?_))
    | (exact ⟨_, hF, LeX.of [] rfl ⟨⟨rfl, rfl⟩, ⟨rfl, rfl⟩, ⟨rfl, rfl⟩, trivial⟩ trivial⟩)
    | (refine tidegateref05_Same_l1_o hF (LeX.of [] rfl ⟨⟨rfl, rfl⟩, ⟨rfl, rfl⟩, ⟨rfl, rfl⟩, trivial⟩ trivial) (fun m v hF => ?_); unfold F_tidegateref05_Same_l1 at hF)
    | (refine And.intro ⟨by kernel_rfl, by kernel_rfl⟩ ?_)
    | (refine EqX.mk (by first | rfl | kernel_rfl) ?_)
    | (exact RetX.o hF (by repeat' first | exact Sub.nil _ | exact Sub.refl _ | refine Sub.agg ?_ | refine Sub.tup ?_ | refine Sub.fn ?_ | exact SubL.nil | refine SubL.cons ?_ ?_ | refine Sub.sl _ ?_ | exact SubE.nil | refine SubE.cons ?_ ?_))

def T_slices_Grow (r : (List T_api_Event)) : AV := .row 0
theorem conT_slices_Grow {n : Nat} {a1 : Int} {r : (List T_api_Event)} (hF : F_slices_Grow n a1 = some r) : ConT E0 121 [.nils, aI (a1)] 26 5 (List.map e_api_Event (r)) (T_slices_Grow r) := by
  unfold F_slices_Grow at hF
  refine ConT.walk _ Tryz.func121 rfl (enters_of Tryz.func121 rfl rfl) rfl rfl ?_
  repeat' first
    | (refine AW.step ?_; conv => whnf)
    | (refine CondX.o hF (fun hF => ?_) (fun hF => ?_))
    | (refine CondX.t ?_)
    | (refine CondX.f ?_)
    | (cases hF; done)
    | (refine PosX.o hF (fun hF => ?_))
    | (refine MakX.o e_api_Event hF (by first | exact SubL.refl _ | (repeat' first | exact SubL.nil | refine SubL.cons ?_ ?_ | exact Sub.refl _ | exact Sub.nil _ | refine Sub.agg ?_)) (fun l hF => ?_))
    | (refine SlsX.o e_api_Event hF (fun l hF => ?_))
    | (refine And.intro ⟨by kernel_rfl, by kernel_rfl⟩ ?_)
    | (refine EqX.mk (by first | rfl | kernel_rfl) ?_)
    | (refine TX.o (rl := fun r => List.map e_api_Event (r)) (res := T_slices_Grow) hF ?_; exact TX.mk _ 25 (LeX.refl _ _ _) _ rfl rfl (by repeat' first | exact Sub.nil _ | exact Sub.refl _ | refine Sub.agg ?_ | refine Sub.tup ?_ | refine Sub.fn ?_ | exact SubL.nil | refine SubL.cons ?_ ?_ | refine Sub.sl _ ?_ | exact SubE.nil | refine SubE.cons ?_ ?_))
    | (refine TX.o (rl := fun r => List.map e_api_Event (r)) (res := T_slices_Grow) hF ?_; exact TX.mk _ 22 (LeX.refl _ _ _) _ rfl rfl (by repeat' first | exact Sub.nil _ | exact Sub.refl _ | refine Sub.agg ?_ | refine Sub.tup ?_ | refine Sub.fn ?_ | exact SubL.nil | refine SubL.cons ?_ ?_ | refine Sub.sl _ ?_ | exact SubE.nil | refine SubE.cons ?_ ?_))
    | (refine TX.o (rl := fun r => List.map e_api_Event (r)) (res := T_slices_Grow) hF ?_; exact TX.mk _ 9000 (LeX.adopt 4 9000 26 5 rfl rfl) _ rfl rfl (by repeat' first | exact Sub.nil _ | exact Sub.refl _ | refine Sub.agg ?_ | refine Sub.tup ?_ | refine Sub.fn ?_ | exact SubL.nil | refine SubL.cons ?_ ?_ | refine Sub.sl _ ?_ | exact SubE.nil | refine SubE.cons ?_ ?_))

def S_slices_Concat_l2 (a0 : (List (List T_api_Event))) (v2_1 : Int × (List T_api_Event)) : AS := ⟨[(6, .row 7024), (25, .sl 1 (List.map (fun q => AV.sl 5 (List.map e_api_Event q)) (a0))), (26, aI ((((List.map (fun q => AV.sl 5 (List.map e_api_Event q)) (a0)).length : Nat) : Int))), (27, aI (v2_1.1))], [(7024, .row 26 5 (List.map e_api_Event (v2_1.2)))]⟩
theorem slices_Concat_l2_o {n N : Nat} {a0 : (List (List T_api_Event))} {k2_1_0 : (List T_api_Event) → Option ((List T_api_Event))} {R : Exit → AS → Prop} {K : List KItem} {c : Code} {σ : AS} {v0 : Int × (List T_api_Event)} {r : (List T_api_Event)} (hF : F_slices_Concat_l2 n a0 k2_1_0 N v0 = some r) (hl : LeX E0 36 σ (S_slices_Concat_l2 a0 v0)) (round : ∀ m v, F_slices_Concat_l2 n a0 k2_1_0 (m + 1) v = some r → AW E0 36 (thenA (fun σ' => ∃ v', F_slices_Concat_l2 n a0 k2_1_0 m v' = some r ∧ LeX E0 36 σ' (S_slices_Concat_l2 a0 v')) (AW E0 36 R K)) [.code c] .normal (S_slices_Concat_l2 a0 v)) : LoopX E0 36 (fun next σ' => AW E0 36 (thenA next (AW E0 36 R K)) [.code c] .normal σ') σ :=
  LoopA.o (S := S_slices_Concat_l2 a0) hF (fun _ => rfl) hl round
def S_slices_Concat_l1 (a0 : (List (List T_api_Event))) (v1_0 : Int × Int) : AS := ⟨[(0, .sl 1 (List.map (fun q => AV.sl 5 (List.map e_api_Event q)) (a0))), (3, aI (v1_0.1)), (9, .sl 1 (List.map (fun q => AV.sl 5 (List.map e_api_Event q)) (a0))), (10, aI ((((List.map (fun q => AV.sl 5 (List.map e_api_Event q)) (a0)).length : Nat) : Int))), (11, aI (v1_0.2))], []⟩
theorem slices_Concat_l1_o {n N : Nat} {a0 : (List (List T_api_Event))} {k1_0_0 : Int → Option ((List T_api_Event))} {R : Exit → AS → Prop} {K : List KItem} {c : Code} {σ : AS} {v0 : Int × Int} {r : (List T_api_Event)} (hF : F_slices_Concat_l1 n a0 k1_0_0 N v0 = some r) (hl : LeX E0 36 σ (S_slices_Concat_l1 a0 v0)) (round : ∀ m v, F_slices_Concat_l1 n a0 k1_0_0 (m + 1) v = some r → AW E0 36 (thenA (fun σ' => ∃ v', F_slices_Concat_l1 n a0 k1_0_0 m v' = some r ∧ LeX E0 36 σ' (S_slices_Concat_l1 a0 v')) (AW E0 36 R K)) [.code c] .normal (S_slices_Concat_l1 a0 v)) : LoopX E0 36 (fun next σ' => AW E0 36 (thenA next (AW E0 36 R K)) [.code c] .normal σ') σ :=
  LoopA.o (S := S_slices_Concat_l1 a0) hF (fun _ => rfl) hl round
def R_slices_Concat (r : (List T_api_Event)) : AV := .sl 5 (List.map e_api_Event (r))
theorem con_slices_Concat {n : Nat} {a0 : (List (List T_api_Event))} {r : (List T_api_Event)} (hF : F_slices_Concat n a0 = some r) : Con E0 false 102 [.sl 1 (List.map (fun q => AV.sl 5 (List.map e_api_Event q)) (a0))] (R_slices_Concat r) := by
  unfold F_slices_Concat at hF
  refine Con.walk _ Tryz.func102 rfl (enters_of Tryz.func102 rfl rfl) rfl (Or.inl rfl) ?_
  repeat' first
    | (refine AW.step ?_; conv => whnf)
    | (refine CondX.o hF (fun hF => ?_) (fun hF => ?_))
    | (refine CondX.t ?_)
    | (refine CondX.f ?_)
    | (refine CallX.oR hF (fun r => r) e_api_Event T_slices_Grow rfl (fun a h => conT_slices_Grow h) (fun a hF => ?_))
    | (refine CallX.oR hF (fun r => r) e_api_Event T_slices_Grow rfl (fun a h => ConT.sub (by repeat' first | exact Sub.nil _ | exact Sub.refl _ | refine Sub.agg ?_ | refine Sub.tup ?_ | refine Sub.fn ?_ | exact SubL.nil | refine SubL.cons ?_ ?_ | refine Sub.sl _ ?_ | exact SubE.nil | refine SubE.cons ?_ ?_) (conT_slices_Grow h)) (fun a hF => ?_))
    | (refine IdxX.o (fun q => AV.sl 5 (List.map e_api_Event q)) hF (fun x hF => ?_))
    | (refine AppX.o e_api_Event hF (by first | exact SubR.refl _ | (repeat' first | exact SubR.nil | refine SubR.cons ?_ ?_ | exact SubL.nil | refine SubL.cons ?_ ?_ | exact Sub.refl _ | exact Sub.nil _)) (fun l hF => ?_))
    | (exact ⟨_, hF, LeX.of [(7024, 33)] rfl ⟨⟨rfl, rfl⟩, ⟨rfl, rfl⟩, ⟨rfl, rfl⟩, ⟨rfl, rfl⟩, trivial⟩ ⟨⟨rfl, rfl⟩, trivial⟩⟩)
    | (refine slices_Concat_l2_o hF (LeX.of [(7024, 24)] rfl ⟨⟨rfl, rfl⟩, ⟨rfl, rfl⟩, ⟨rfl, rfl⟩, ⟨rfl, rfl⟩, trivial⟩ ⟨⟨rfl, rfl⟩, trivial⟩) (fun m v hF => ?_); unfold F_slices_Concat_l2 at hF)
    | (cases hF; done)
    | (exact ⟨_, hF, LeX.of [] rfl ⟨⟨rfl, rfl⟩, ⟨rfl, rfl⟩, ⟨rfl, rfl⟩, ⟨rfl, rfl⟩, ⟨rfl, rfl⟩, trivial⟩ trivial⟩)
    | (refine slices_Concat_l1_o hF (LeX.of [] rfl ⟨⟨rfl, rfl⟩, ⟨rfl, rfl⟩, ⟨rfl, rfl⟩, ⟨rfl, rfl⟩, ⟨rfl, rfl⟩, trivial⟩ trivial) (fun m v hF => ?_); unfold F_slices_Concat_l1 at hF)
    | (refine And.intro ⟨by kernel_rfl, by kernel_rfl⟩ ?_)
    | (refine EqX.mk (by first | rfl | kernel_rfl) ?_)
    | (exact RetX.o hF (by repeat' first | exact Sub.nil _ | exact Sub.refl _ | refine Sub.agg ?_ | refine Sub.tup ?_ | refine Sub.fn ?_ | exact SubL.nil | refine SubL.cons ?_ ?_ | refine Sub.sl _ ?_ | exact SubE.nil | refine SubE.cons ?_ ?_))

def S_slices_Equal_l1 (a1 : (List T_api_Value)) (a0 : (List T_api_Value)) (v1_0 : Int) : AS := ⟨[(0, .sl 3 (List.map e_api_Value (a0))), (1, .sl 3 (List.map e_api_Value (a1))), (12, aI ((((List.map e_api_Value (a0)).length : Nat) : Int))), (13, aI (v1_0))], []⟩
theorem slices_Equal_l1_o {n N : Nat} {a1 : (List T_api_Value)} {a0 : (List T_api_Value)} {k1_0_0 : Option (Bool)} {R : Exit → AS → Prop} {K : List KItem} {c : Code} {σ : AS} {v0 : Int} {r : Bool} (hF : F_slices_Equal_l1 n a1 a0 k1_0_0 N v0 = some r) (hl : LeX E0 26 σ (S_slices_Equal_l1 a1 a0 v0)) (round : ∀ m v, F_slices_Equal_l1 n a1 a0 k1_0_0 (m + 1) v = some r → AW E0 26 (thenA (fun σ' => ∃ v', F_slices_Equal_l1 n a1 a0 k1_0_0 m v' = some r ∧ LeX E0 26 σ' (S_slices_Equal_l1 a1 a0 v')) (AW E0 26 R K)) [.code c] .normal (S_slices_Equal_l1 a1 a0 v)) : LoopX E0 26 (fun next σ' => AW E0 26 (thenA next (AW E0 26 R K)) [.code c] .normal σ') σ :=
  LoopA.o (S := S_slices_Equal_l1 a1 a0) hF (fun _ => rfl) hl round
def R_slices_Equal (r : Bool) : AV := .bool (r)
theorem con_slices_Equal {n : Nat} {a0 : (List T_api_Value)} {a1 : (List T_api_Value)} {r : Bool} (hF : F_slices_Equal n a0 a1 = some r) : Con E0 true 134 [.sl 3 (List.map e_api_Value (a0)), .sl 3 (List.map e_api_Value (a1))] (R_slices_Equal r) := by
  unfold F_slices_Equal at hF
  refine Con.walk _ Tryz.func134 rfl (enters_of Tryz.func134 rfl rfl) rfl (Or.inr rfl) ?_
  repeat' first
    | (refine AW.step ?_; conv => whnf)
    | (refine CondX.o hF (fun hF => ?_) (fun hF => ?_))
    | (refine CondX.t ?_)
    | (refine CondX.f ?_)
    | (refine IdxX.o e_api_Value hF (fun x hF => ?_))
    | (exact ⟨_, hF, LeX.of [] rfl ⟨⟨rfl, rfl⟩, ⟨rfl, rfl⟩, ⟨rfl, rfl⟩, ⟨rfl, rfl⟩, trivial⟩ trivial⟩)
    | (refine slices_Equal_l1_o hF (LeX.of [] rfl ⟨⟨rfl, rfl⟩, ⟨rfl, rfl⟩, ⟨rfl, rfl⟩, ⟨rfl, rfl⟩, trivial⟩ trivial) (fun m v hF => ?_); unfold F_slices_Equal_l1 at hF)
    | (refine And.intro ⟨by kernel_rfl, by kernel_rfl⟩ ?_)
    | (refine EqX.mk (by first | rfl | kernel_rfl) ?_)
    | (exact RetX.o hF (by repeat' first | exact Sub.nil _ | exact Sub.refl _ | refine Sub.agg ?_ | refine Sub.tup ?_ | refine Sub.fn ?_ | exact SubL.nil | refine SubL.cons ?_ ?_ | refine Sub.sl _ ?_ | exact SubE.nil | refine SubE.cons ?_ ?_))

def R_stream_equal (r : Bool) : AV := .bool (r)
theorem con_stream_equal {n : Nat} {a0 : T_api_Event} {a1 : T_api_Event} {r : Bool} (hF : F_stream_equal n a0 a1 = some r) : Con E0 true 118 [.agg [aI (a0.fSource), aI (a0.fSeq), aI (a0.fType), aI (a0.fTime), .sl 3 (List.map e_api_Value (a0.fValues))], .agg [aI (a1.fSource), aI (a1.fSeq), aI (a1.fType), aI (a1.fTime), .sl 3 (List.map e_api_Value (a1.fValues))]] (R_stream_equal r) := by
  unfold F_stream_equal at hF
  refine Con.walk _ Tryz.func118 rfl (enters_of Tryz.func118 rfl rfl) rfl (Or.inr rfl) ?_
  repeat' first
    | (refine AW.step ?_; conv => whnf)
    | (refine CondX.o hF (fun hF => ?_) (fun hF => ?_))
    | (refine CondX.t ?_)
    | (refine CondX.f ?_)
    | (refine CallX.o hF R_stream_of (fun a h => con_stream_of h) (fun a hF => ?_))
    | (refine CallX.o hF R_slices_Equal (fun a h => con_slices_Equal h) (fun a hF => ?_))
    | (refine And.intro ⟨by kernel_rfl, by kernel_rfl⟩ ?_)
    | (refine EqX.mk (by first | rfl | kernel_rfl) ?_)
    | (exact RetX.o hF (by repeat' first | exact Sub.nil _ | exact Sub.refl _ | refine Sub.agg ?_ | refine Sub.tup ?_ | refine Sub.fn ?_ | exact SubL.nil | refine SubL.cons ?_ ?_ | refine Sub.sl _ ?_ | exact SubE.nil | refine SubE.cons ?_ ?_))

set_option maxHeartbeats 400000 in
theorem clone72_any (l : List (Cel 3)) (S : Nat → Prop) (v : Value) (w : World) (h : Sl w S 3 encC v l) (hl : l.length ≤ 1000000000) :
    Calls Tryz.prog 72 #[v] w (RetOwn 118 3 encC l w) := by
  have eok : EOk Tryz.prog 24 118 3 32 (encC (n := 3)) := eokC (sz := 3) tyOk24 rfl tyOk118 (by omega) rfl
  obtain ⟨A, c, rfl, hc, _⟩ := h.form
  have hq := fun (W : World) => Lib.run_eql_slice_nil W 24 118 A l.length c 0 0 Tryz.underlying24
  have H := hide h
  cases A with
  | none =>
    have h0 : l = [] := h.none_nil
    subst h0
    clear h H hl hc
    simp only [List.length_nil, Option.isNone_none] at hq ⊢
    go_enter Tryz.func72, Tryz.ntmps72
    go_wp2
    go_ret
    exact ⟨none, 0, rfl, Own.nil_, by go_grown⟩
  | some ad =>
    clear h
    go_enter Tryz.func72, Tryz.ntmps72
    go_wp2_with (at_builtin; refine wpList_append_sl rfl _ _ rfl eok rfl Own.made_ rfl (H.out.alloc _) (by simp; omega) (by omega) (by simp) ?_; intro A' c' w1 ho hg _)
    go_ret
    exact ⟨A', c', rfl, ho, (Own.made_ (sz := 3) (enc := encC (n := 3))).grown ((Below.refl _ _).alloc (Nat.le_refl _) _) (Nat.le_refl _) (by simp) hg⟩
theorem conT_clone72 {n : Nat} {a r : List T_api_Value} (hF : F_clone n a = some r) : ConT E0 72 [.sl 3 (List.map e_api_Value a)] 118 3 (List.map e_api_Value r) (.row 0) := clone_gen rfl (enters_of Tryz.func72 rfl rfl) clone72_any hF
theorem con_clone72 {n : Nat} {a r : List T_api_Value} (hF : F_clone n a = some r) : Con E0 false 72 [.sl 3 (List.map e_api_Value a)] (.sl 3 (List.map e_api_Value r)) := (conT_clone72 hF).close rfl
def R_stream_copied (r : T_api_Event) : AV := .agg [aI (r.fSource), aI (r.fSeq), aI (r.fType), aI (r.fTime), .sl 3 (List.map e_api_Value (r.fValues))]
theorem con_stream_copied {n : Nat} {a0 : T_api_Event} {r : T_api_Event} (hF : F_stream_copied n a0 = some r) : Con E0 false 119 [.agg [aI (a0.fSource), aI (a0.fSeq), aI (a0.fType), aI (a0.fTime), .sl 3 (List.map e_api_Value (a0.fValues))]] (R_stream_copied r) := by
  unfold F_stream_copied at hF
  refine Con.walk _ Tryz.func119 rfl (enters_of Tryz.func119 rfl rfl) rfl (Or.inl rfl) ?_
  repeat' first
    | (refine AW.step ?_; conv => whnf)
    | (refine CondX.o hF (fun hF => ?_) (fun hF => ?_))
    | (refine CondX.t ?_)
    | (refine CondX.f ?_)
    | (refine CallX.o hF (fun q => AV.sl 3 (List.map e_api_Value q)) (fun a h => con_clone72 h) (fun a hF => ?_))
    | (refine And.intro ⟨by kernel_rfl, by kernel_rfl⟩ ?_)
    | (refine EqX.mk (by first | rfl | kernel_rfl) ?_)
    | (exact RetX.o hF (by repeat' first | exact Sub.nil _ | exact Sub.refl _ | refine Sub.agg ?_ | refine Sub.tup ?_ | refine Sub.fn ?_ | exact SubL.nil | refine SubL.cons ?_ ?_ | refine Sub.sl _ ?_ | exact SubE.nil | refine SubE.cons ?_ ?_))

def S_stream_sorted_l1 (a0 : (List T_api_Event)) (v1_0 : Int × (List (T_stream_identity × T_api_Event)) × (List T_api_Event)) : AS := ⟨[(4, .row 10), (5, .row 7041), (11, .sl 5 (List.map e_api_Event (a0))), (12, aI ((((List.map e_api_Event (a0)).length : Nat) : Int))), (13, aI (v1_0.1))], [(10, .mp (List.map (encM e_stream_identity e_api_Event) (v1_0.2.1))), (7041, .row 26 5 (List.map e_api_Event (v1_0.2.2)))]⟩
theorem stream_sorted_l1_o {n N : Nat} {a0 : (List T_api_Event)} {k1_0_0 : (List T_api_Event) → Option ((List T_api_Event) × Bool)} {R : Exit → AS → Prop} {K : List KItem} {c : Code} {σ : AS} {v0 : Int × (List (T_stream_identity × T_api_Event)) × (List T_api_Event)} {r : (List T_api_Event) × Bool} (hF : F_stream_sorted_l1 n a0 k1_0_0 N v0 = some r) (hl : LeX E0 46 σ (S_stream_sorted_l1 a0 v0)) (round : ∀ m v, F_stream_sorted_l1 n a0 k1_0_0 (m + 1) v = some r → AW E0 46 (thenA (fun σ' => ∃ v', F_stream_sorted_l1 n a0 k1_0_0 m v' = some r ∧ LeX E0 46 σ' (S_stream_sorted_l1 a0 v')) (AW E0 46 R K)) [.code c] .normal (S_stream_sorted_l1 a0 v)) : LoopX E0 46 (fun next σ' => AW E0 46 (thenA next (AW E0 46 R K)) [.code c] .normal σ') σ :=
  LoopA.o (S := S_stream_sorted_l1 a0) hF (fun _ => rfl) hl round
def R_stream_sorted (r : (List T_api_Event) × Bool) : AV := .tup [.sl 5 (List.map e_api_Event (r.1)), .bool (r.2)]
theorem con_stream_sorted {n : Nat} {a0 : (List T_api_Event)} {r : (List T_api_Event) × Bool} (hF : F_stream_sorted n a0 = some r) : Con E0 false 101 [.sl 5 (List.map e_api_Event (a0))] (R_stream_sorted r) := by
  unfold F_stream_sorted at hF
  refine Con.walk _ Tryz.func101 rfl (enters_of Tryz.func101 rfl rfl) rfl (Or.inl rfl) ?_
  repeat' first
    | (refine AW.step ?_; conv => whnf)
    | (refine CondX.o hF (fun hF => ?_) (fun hF => ?_))
    | (refine CondX.t ?_)
    | (refine CondX.f ?_)
    | (refine CallC.oI hF 7041 (fun r => r) e_api_Event (fun _ => AV.tup []) rfl (fun a h => sortEv_con h) rfl rfl rfl (fun a hF => ?_))
    | (refine IdxX.o e_api_Event hF (fun x hF => ?_))
    | (refine CallX.o hF R_stream_of (fun a h => con_stream_of h) (fun a hF => ?_))
    | (refine LkX.o e_stream_identity e_api_Event hF (by first | rfl | kernel_rfl) eqK_114 (by repeat' first | exact Sub.nil _ | exact Sub.refl _ | refine Sub.agg ?_ | refine Sub.tup ?_ | refine Sub.fn ?_ | exact SubL.nil | refine SubL.cons ?_ ?_ | refine Sub.sl _ ?_ | exact SubE.nil | refine SubE.cons ?_ ?_) (fun v b hF => ?_))
    | (refine CallX.o hF R_stream_equal (fun a h => con_stream_equal h) (fun a hF => ?_))
    | (refine UpX.o e_stream_identity e_api_Event hF (by first | rfl | kernel_rfl) eqK_114 (by repeat' first | exact Sub.nil _ | exact Sub.refl _ | refine Sub.agg ?_ | refine Sub.tup ?_ | refine Sub.fn ?_ | exact SubL.nil | refine SubL.cons ?_ ?_ | refine Sub.sl _ ?_ | exact SubE.nil | refine SubE.cons ?_ ?_) (fun l hF => ?_))
    | (refine CallX.o hF R_stream_copied (fun a h => con_stream_copied h) (fun a hF => ?_))
    | (refine AppX.o e_api_Event hF (by first | exact SubR.refl _ | (repeat' first | exact SubR.nil | refine SubR.cons ?_ ?_ | exact SubL.nil | refine SubL.cons ?_ ?_ | exact Sub.refl _ | exact Sub.nil _)) (fun l hF => ?_))
    | (exact ⟨_, hF, LeX.of [(7041, 41)] rfl ⟨⟨rfl, rfl⟩, ⟨rfl, rfl⟩, ⟨rfl, rfl⟩, ⟨rfl, rfl⟩, ⟨rfl, rfl⟩, trivial⟩ ⟨⟨rfl, rfl⟩, ⟨rfl, rfl⟩, trivial⟩⟩)
    | (exact ⟨_, hF, LeX.of [] rfl ⟨⟨rfl, rfl⟩, ⟨rfl, rfl⟩, ⟨rfl, rfl⟩, ⟨rfl, rfl⟩, ⟨rfl, rfl⟩, trivial⟩ ⟨⟨rfl, rfl⟩, ⟨rfl, rfl⟩, trivial⟩⟩)
    | (refine stream_sorted_l1_o hF (LeX.trans (LeX.adopt 5 7041 26 5 rfl rfl) (LeX.of [] rfl ⟨⟨rfl, rfl⟩, ⟨rfl, rfl⟩, ⟨rfl, rfl⟩, ⟨rfl, rfl⟩, ⟨rfl, rfl⟩, trivial⟩ ⟨⟨rfl, rfl⟩, ⟨rfl, rfl⟩, trivial⟩)) (fun m v hF => ?_); unfold F_stream_sorted_l1 at hF)
    | (refine And.intro ⟨by kernel_rfl, by kernel_rfl⟩ ?_)
    | (refine EqX.mk (by first | rfl | kernel_rfl) ?_)
    | (exact RetX.o hF (by repeat' first | exact Sub.nil _ | exact Sub.refl _ | refine Sub.agg ?_ | refine Sub.tup ?_ | refine Sub.fn ?_ | exact SubL.nil | refine SubL.cons ?_ ?_ | refine Sub.sl _ ?_ | exact SubE.nil | refine SubE.cons ?_ ?_))

def R_stream_joined (r : (List T_api_Event) × Int) : AV := .tup [.sl 5 (List.map e_api_Event (r.1)), aI (r.2)]
theorem con_stream_joined {n : Nat} {a0 : (List T_api_Event)} {a1 : (List T_api_Event)} {r : (List T_api_Event) × Int} (hF : F_stream_joined n a0 a1 = some r) : Con E0 false 73 [.sl 5 (List.map e_api_Event (a0)), .sl 5 (List.map e_api_Event (a1))] (R_stream_joined r) := by
  unfold F_stream_joined at hF
  refine Con.walk _ Tryz.func73 rfl (enters_of Tryz.func73 rfl rfl) rfl (Or.inl rfl) ?_
  repeat' first
    | (refine AW.step ?_; conv => whnf)
    | (refine CondX.o hF (fun hF => ?_) (fun hF => ?_))
    | (refine CondX.t ?_)
    | (refine CondX.f ?_)
    | (refine CallX.o hF R_slices_Concat (fun a h => con_slices_Concat h) (fun a hF => ?_))
    | (refine CallX.o hF R_stream_sorted (fun a h => con_stream_sorted h) (fun a hF => ?_))
    | (refine And.intro ⟨by kernel_rfl, by kernel_rfl⟩ ?_)
    | (refine EqX.mk (by first | rfl | kernel_rfl) ?_)
    | (exact RetX.o hF (by repeat' first | exact Sub.nil _ | exact Sub.refl _ | refine Sub.agg ?_ | refine Sub.tup ?_ | refine Sub.fn ?_ | exact SubL.nil | refine SubL.cons ?_ ?_ | refine Sub.sl _ ?_ | exact SubE.nil | refine SubE.cons ?_ ?_))

def R_stream_Insert (r : (List T_api_Event) × Int) : AV := .tup [.sl 5 (List.map e_api_Event (r.1)), aI (r.2)]
theorem con_stream_Insert {n : Nat} {a0 : (List T_api_Event)} {a1 : T_api_Event} {r : (List T_api_Event) × Int} (hF : F_stream_Insert n a0 a1 = some r) : Con E0 false 46 [.sl 5 (List.map e_api_Event (a0)), .agg [aI (a1.fSource), aI (a1.fSeq), aI (a1.fType), aI (a1.fTime), .sl 3 (List.map e_api_Value (a1.fValues))]] (R_stream_Insert r) := by
  unfold F_stream_Insert at hF
  refine Con.walk _ Tryz.func46 rfl (enters_of Tryz.func46 rfl rfl) rfl (Or.inl rfl) ?_
  repeat' first
    | (refine AW.step ?_; conv => whnf)
    | (refine CondX.o hF (fun hF => ?_) (fun hF => ?_))
    | (refine CondX.t ?_)
    | (refine CondX.f ?_)
    | (refine CallX.o hF R_stream_Check (fun a h => con_stream_Check h) (fun a hF => ?_))
    | (refine CallX.o hF R_stream_placed (fun a h => con_stream_placed h) (fun a hF => ?_))
    | (refine CallX.o hF R_stream_joined (fun a h => con_stream_joined h) (fun a hF => ?_))
    | (refine And.intro ⟨by kernel_rfl, by kernel_rfl⟩ ?_)
    | (refine EqX.mk (by first | rfl | kernel_rfl) ?_)
    | (exact RetX.o hF (by repeat' first | exact Sub.nil _ | exact Sub.refl _ | refine Sub.agg ?_ | refine Sub.tup ?_ | refine Sub.fn ?_ | exact SubL.nil | refine SubL.cons ?_ ?_ | refine Sub.sl _ ?_ | exact SubE.nil | refine SubE.cons ?_ ?_))

def R_tidegateref05_Insert (r : (List T_api_Event) × Int) : AV := .tup [.sl 5 (List.map e_api_Event (r.1)), aI (r.2)]
theorem con_tidegateref05_Insert {n : Nat} {a0 : (List T_api_Event)} {a1 : T_api_Event} {r : (List T_api_Event) × Int} (hF : F_tidegateref05_Insert n a0 a1 = some r) : Con E0 false 50 [.sl 5 (List.map e_api_Event (a0)), .agg [aI (a1.fSource), aI (a1.fSeq), aI (a1.fType), aI (a1.fTime), .sl 3 (List.map e_api_Value (a1.fValues))]] (R_tidegateref05_Insert r) := by
  unfold F_tidegateref05_Insert at hF
  refine Con.walk _ Tryz.func50 rfl (enters_of Tryz.func50 rfl rfl) rfl (Or.inl rfl) ?_
  repeat' first
    | (refine AW.step ?_; conv => whnf)
    | (refine CondX.o hF (fun hF => ?_) (fun hF => ?_))
    | (refine CondX.t ?_)
    | (refine CondX.f ?_)
    | (refine CallX.o hF R_tidegateref05_Check (fun a h => con_tidegateref05_Check h) (fun a hF => ?_))
    | (refine CallX.o hF R_tidegateref05_Placed (fun a h => con_tidegateref05_Placed h) (fun a hF => ?_))
    | (refine CallX.o hF R_tidegateref05_conflict (fun a h => con_tidegateref05_conflict h) (fun a hF => ?_))
    | (refine CallX.o hF R_tidegateref05_Has (fun a h => con_tidegateref05_Has h) (fun a hF => ?_))
    | (refine CallX.o hF R_tidegateref05_put (fun a h => con_tidegateref05_put h) (fun a hF => ?_))
    | (refine And.intro ⟨by kernel_rfl, by kernel_rfl⟩ ?_)
    | (refine EqX.mk (by first | rfl | kernel_rfl) ?_)
    | (exact RetX.o hF (by repeat' first | exact Sub.nil _ | exact Sub.refl _ | refine Sub.agg ?_ | refine Sub.tup ?_ | refine Sub.fn ?_ | exact SubL.nil | refine SubL.cons ?_ ?_ | refine Sub.sl _ ?_ | exact SubE.nil | refine SubE.cons ?_ ?_))

def R_reorder_Begin (r : (List Trk) × Int) : AV := .tup [.sl 4 (List.map aTrk (r.1)), aI (r.2)]
theorem con_reorder_Begin {n : Nat} {a0 : Int} {r : (List Trk) × Int} (hF : F_reorder_Begin n a0 = some r) : Con E0 false 16 [aI (a0)] (R_reorder_Begin r) := by
  unfold F_reorder_Begin at hF
  refine Con.walk _ Tryz.func16 rfl (enters_of Tryz.func16 rfl rfl) rfl (Or.inl rfl) ?_
  repeat' first
    | (refine AW.step ?_; conv => whnf)
    | (refine CondX.o hF (fun hF => ?_) (fun hF => ?_))
    | (refine CondX.t ?_)
    | (refine CondX.f ?_)
    | (refine CallX.o hF R_watermark_Begin (fun a h => con_watermark_Begin h) (fun a hF => ?_))
    | (refine And.intro ⟨by kernel_rfl, by kernel_rfl⟩ ?_)
    | (refine EqX.mk (by first | rfl | kernel_rfl) ?_)
    | (exact RetX.o hF (by repeat' first | exact Sub.nil _ | exact Sub.refl _ | refine Sub.agg ?_ | refine Sub.tup ?_ | refine Sub.fn ?_ | exact SubL.nil | refine SubL.cons ?_ ?_ | refine Sub.sl _ ?_ | exact SubE.nil | refine SubE.cons ?_ ?_))

def R_reorder_check (r : Int) : AV := aI (r)
theorem con_reorder_check {n : Nat} {a0 : (List Trk)} {a1 : (List T_api_Event)} {r : Int} (hF : F_reorder_check n a0 a1 = some r) : Con E0 true 44 [.sl 4 (List.map aTrk (a0)), .sl 5 (List.map e_api_Event (a1))] (R_reorder_check r) := by
  unfold F_reorder_check at hF
  refine Con.walk _ Tryz.func44 rfl (enters_of Tryz.func44 rfl rfl) rfl (Or.inr rfl) ?_
  repeat' first
    | (refine AW.step ?_; conv => whnf)
    | (refine CondX.o hF (fun hF => ?_) (fun hF => ?_))
    | (refine CondX.t ?_)
    | (refine CondX.f ?_)
    | (refine CallX.o hF R_watermark_Check (fun a h => con_watermark_Check h) (fun a hF => ?_))
    | (refine CallX.o hF R_stream_Check (fun a h => con_stream_Check h) (fun a hF => ?_))
    | (refine And.intro ⟨by kernel_rfl, by kernel_rfl⟩ ?_)
    | (refine EqX.mk (by first | rfl | kernel_rfl) ?_)
    | (exact RetX.o hF (by repeat' first | exact Sub.nil _ | exact Sub.refl _ | refine Sub.agg ?_ | refine Sub.tup ?_ | refine Sub.fn ?_ | exact SubL.nil | refine SubL.cons ?_ ?_ | refine Sub.sl _ ?_ | exact SubE.nil | refine SubE.cons ?_ ?_))

def S_reorder_copied_l1 (a0 : (List T_api_Event)) (v1_0 : Int × (List T_api_Event)) : AS := ⟨[(3, .row 7019), (6, .sl 5 (List.map e_api_Event (a0))), (7, aI ((((List.map e_api_Event (a0)).length : Nat) : Int))), (8, aI (v1_0.1))], [(7019, .row 26 5 (List.map e_api_Event (v1_0.2)))]⟩
theorem reorder_copied_l1_o {n N : Nat} {a0 : (List T_api_Event)} {k1_0_0 : (List T_api_Event) → Option ((List T_api_Event))} {R : Exit → AS → Prop} {K : List KItem} {c : Code} {σ : AS} {v0 : Int × (List T_api_Event)} {r : (List T_api_Event)} (hF : F_reorder_copied_l1 n a0 k1_0_0 N v0 = some r) (hl : LeX E0 22 σ (S_reorder_copied_l1 a0 v0)) (round : ∀ m v, F_reorder_copied_l1 n a0 k1_0_0 (m + 1) v = some r → AW E0 22 (thenA (fun σ' => ∃ v', F_reorder_copied_l1 n a0 k1_0_0 m v' = some r ∧ LeX E0 22 σ' (S_reorder_copied_l1 a0 v')) (AW E0 22 R K)) [.code c] .normal (S_reorder_copied_l1 a0 v)) : LoopX E0 22 (fun next σ' => AW E0 22 (thenA next (AW E0 22 R K)) [.code c] .normal σ') σ :=
  LoopA.o (S := S_reorder_copied_l1 a0) hF (fun _ => rfl) hl round
def R_reorder_copied (r : (List T_api_Event)) : AV := .sl 5 (List.map e_api_Event (r))
end Go.Proofs.YtimkhfaddnanhaaGreat
