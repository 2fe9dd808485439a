/- What some functions compute, over plain values. Printed by a program of mine (gen_fun.lean). -/
import Derived.Test.YthhnhajldhnfmaaH36B
set_option linter.unusedVariables false
set_option linter.unusedSimpArgs false
set_option maxRecDepth 100000
set_option maxHeartbeats 8000000
namespace Go.Proofs.Ythhnhajldhnfmaa
open Go.RowKit
theorem con_tidegateref34_Contains {n : Nat} {a0 : Trk} {a1 : Int} {r : Bool} (hF : F_tidegateref34_Contains n a0 a1 = some r) : Con E0 true 52 [.agg [aI (a0.next), .sl 1 (List.map aI (a0.beyond)), .sl 2 (List.map aPt (a0.points)), aI (a0.mark)], aI (a1)] (R_tidegateref34_Contains r) := by
  unfold F_tidegateref34_Contains at hF
  refine Con.walk _ Try.func52 rfl (enters_of Try.func52 rfl rfl) rfl (Or.inr rfl) ?_
  repeat' first
    | (refine AW.step ?_; conv => whnf)
    | (refine CondX.o hF (fun hF => ?_) (fun hF => ?_))
    | (refine CondX.t ?_)
    | (refine CondX.f ?_)
    | (refine IdxX.o aI hF (fun x hF => ?_))
    | (exact ⟨_, hF, LeX.of [] rfl ⟨⟨rfl, rfl⟩, ⟨rfl, rfl⟩, ⟨rfl, rfl⟩, trivial⟩ ⟨⟨rfl, rfl⟩, trivial⟩⟩)
    | (refine tidegateref34_Contains_l1_o hF (LeX.of [] rfl ⟨⟨rfl, rfl⟩, ⟨rfl, rfl⟩, ⟨rfl, rfl⟩, trivial⟩ ⟨⟨rfl, rfl⟩, trivial⟩) (fun m v hF => ?_); unfold F_tidegateref34_Contains_l1 at hF)
    | (refine And.intro ⟨by kernel_rfl, by kernel_rfl⟩ ?_)
    | (refine EqX.mk (by first | rfl | kernel_rfl) ?_)
    | (exact RetX.o hF (by repeat' first | exact Sub.nil _ | exact Sub.refl _ | refine Sub.agg ?_ | refine Sub.tup ?_ | refine Sub.fn ?_ | exact SubL.nil | refine SubL.cons ?_ ?_ | refine Sub.sl _ ?_ | exact SubE.nil | refine SubE.cons ?_ ?_))

def S_tidegateref34_Check_l1 (a0 : Trk) (v1_0 : Int × Int) : AS := ⟨[(1, .ptr 1 0), (3, aI (v1_0.1)), (4, aI (v1_0.2))], [(1, .box 25 [aI (a0.next), .sl 1 (List.map aI (a0.beyond)), .sl 2 (List.map aPt (a0.points)), aI (a0.mark)])]⟩
theorem tidegateref34_Check_l1_o {n N : Nat} {a0 : Trk} {k1_0_0 : Option (Int)} {R : Exit → AS → Prop} {K : List KItem} {c : Code} {σ : AS} {v0 : Int × Int} {r : Int} (hF : F_tidegateref34_Check_l1 n a0 k1_0_0 N v0 = some r) (hl : LeX E0 42 σ (S_tidegateref34_Check_l1 a0 v0)) (round : ∀ m v, F_tidegateref34_Check_l1 n a0 k1_0_0 (m + 1) v = some r → AW E0 42 (thenA (fun σ' => ∃ v', F_tidegateref34_Check_l1 n a0 k1_0_0 m v' = some r ∧ LeX E0 42 σ' (S_tidegateref34_Check_l1 a0 v')) (AW E0 42 R K)) [.code c] .normal (S_tidegateref34_Check_l1 a0 v)) : LoopX E0 42 (fun next σ' => AW E0 42 (thenA next (AW E0 42 R K)) [.code c] .normal σ') σ :=
  LoopA.o (S := S_tidegateref34_Check_l1 a0) hF (fun _ => rfl) hl round
def R_tidegateref34_Check (r : Int) : AV := aI (r)
theorem con_tidegateref34_Check {n : Nat} {a0 : Trk} {r : Int} (hF : F_tidegateref34_Check n a0 = some r) : Con E0 true 84 [.agg [aI (a0.next), .sl 1 (List.map aI (a0.beyond)), .sl 2 (List.map aPt (a0.points)), aI (a0.mark)]] (R_tidegateref34_Check r) := by
  unfold F_tidegateref34_Check at hF
  refine Con.walk _ Try.func84 rfl (enters_of Try.func84 rfl rfl) rfl (Or.inr rfl) ?_
  repeat' first
    | (refine AW.step ?_; conv => whnf)
    | (refine CondX.o hF (fun hF => ?_) (fun hF => ?_))
    | (refine CondX.t ?_)
    | (refine CondX.f ?_)
    | (refine IdxX.o aI hF (fun x hF => ?_))
    | (exact ⟨_, hF, LeX.of [] rfl ⟨⟨rfl, rfl⟩, ⟨rfl, rfl⟩, ⟨rfl, rfl⟩, trivial⟩ ⟨⟨rfl, rfl⟩, trivial⟩⟩)
    | (refine tidegateref34_Check_l1_o hF (LeX.of [] rfl ⟨⟨rfl, rfl⟩, ⟨rfl, rfl⟩, ⟨rfl, rfl⟩, trivial⟩ ⟨⟨rfl, rfl⟩, trivial⟩) (fun m v hF => ?_); unfold F_tidegateref34_Check_l1 at hF)
    | (refine And.intro ⟨by kernel_rfl, by kernel_rfl⟩ ?_)
    | (refine EqX.mk (by first | rfl | kernel_rfl) ?_)
    | (exact RetX.o hF (by repeat' first | exact Sub.nil _ | exact Sub.refl _ | refine Sub.agg ?_ | refine Sub.tup ?_ | refine Sub.fn ?_ | exact SubL.nil | refine SubL.cons ?_ ?_ | refine Sub.sl _ ?_ | exact SubE.nil | refine SubE.cons ?_ ?_))

def S_tidegateref34_With_l2 (a0 : Trk) (v2_1 : (List Int) × Int) : AS := ⟨[(4, .ptr 4 0), (5, .sl 1 (List.map aI (v2_1.1))), (8, .ptr 8 0)], [(4, .box 25 [aI (0), .nils, .nils, aI (0)]), (8, .box 25 [aI (v2_1.2), .sl 1 (List.map aI (a0.beyond)), .sl 2 (List.map aPt (a0.points)), aI (a0.mark)])]⟩
theorem tidegateref34_With_l2_o {n N : Nat} {a0 : Trk} {k2_1_0 : (List Int) → Int → Option (Trk)} {R : Exit → AS → Prop} {K : List KItem} {c : Code} {σ : AS} {v0 : (List Int) × Int} {r : Trk} (hF : F_tidegateref34_With_l2 n a0 k2_1_0 N v0 = some r) (hl : LeX E0 70 σ (S_tidegateref34_With_l2 a0 v0)) (round : ∀ m v, F_tidegateref34_With_l2 n a0 k2_1_0 (m + 1) v = some r → AW E0 70 (thenA (fun σ' => ∃ v', F_tidegateref34_With_l2 n a0 k2_1_0 m v' = some r ∧ LeX E0 70 σ' (S_tidegateref34_With_l2 a0 v')) (AW E0 70 R K)) [.code c] .normal (S_tidegateref34_With_l2 a0 v)) : LoopX E0 70 (fun next σ' => AW E0 70 (thenA next (AW E0 70 R K)) [.code c] .normal σ') σ :=
  LoopA.o (S := S_tidegateref34_With_l2 a0) hF (fun _ => rfl) hl round
def S_tidegateref34_With_l3 (a0 : Trk) (v3_2 : (List Int) × Int) : AS := ⟨[(4, .ptr 4 0), (5, .sl 1 (List.map aI (v3_2.1))), (8, .ptr 8 0)], [(4, .box 25 [aI (0), .nils, .nils, aI (0)]), (8, .box 25 [aI (v3_2.2), .sl 1 (List.map aI (a0.beyond)), .sl 2 (List.map aPt (a0.points)), aI (a0.mark)])]⟩
theorem tidegateref34_With_l3_o {n N : Nat} {a0 : Trk} {k3_2_0 : (List Int) → Int → Option (Trk)} {R : Exit → AS → Prop} {K : List KItem} {c : Code} {σ : AS} {v0 : (List Int) × Int} {r : Trk} (hF : F_tidegateref34_With_l3 n a0 k3_2_0 N v0 = some r) (hl : LeX E0 70 σ (S_tidegateref34_With_l3 a0 v0)) (round : ∀ m v, F_tidegateref34_With_l3 n a0 k3_2_0 (m + 1) v = some r → AW E0 70 (thenA (fun σ' => ∃ v', F_tidegateref34_With_l3 n a0 k3_2_0 m v' = some r ∧ LeX E0 70 σ' (S_tidegateref34_With_l3 a0 v')) (AW E0 70 R K)) [.code c] .normal (S_tidegateref34_With_l3 a0 v)) : LoopX E0 70 (fun next σ' => AW E0 70 (thenA next (AW E0 70 R K)) [.code c] .normal σ') σ :=
  LoopA.o (S := S_tidegateref34_With_l3 a0) hF (fun _ => rfl) hl round
def S_tidegateref34_With_l1 (a1 : Int) (a0 : Trk) (v1_0 : Bool × Int × (List Int)) : AS := ⟨[(1, aI (a1)), (2, .ptr 2 0), (4, .ptr 4 0), (5, .row 7000), (6, .bool (v1_0.1)), (7, aI (v1_0.2.1))], [(2, .box 25 [aI (a0.next), .sl 1 (List.map aI (a0.beyond)), .sl 2 (List.map aPt (a0.points)), aI (a0.mark)]), (4, .box 25 [aI (0), .nils, .nils, aI (0)]), (7000, .row 3 1 (List.map aI (v1_0.2.2)))]⟩
theorem tidegateref34_With_l1_o {n N : Nat} {a1 : Int} {a0 : Trk} {k1_0_0 : Bool → (List Int) → Option (Trk)} {R : Exit → AS → Prop} {K : List KItem} {c : Code} {σ : AS} {v0 : Bool × Int × (List Int)} {r : Trk} (hF : F_tidegateref34_With_l1 n a1 a0 k1_0_0 N v0 = some r) (hl : LeX E0 70 σ (S_tidegateref34_With_l1 a1 a0 v0)) (round : ∀ m v, F_tidegateref34_With_l1 n a1 a0 k1_0_0 (m + 1) v = some r → AW E0 70 (thenA (fun σ' => ∃ v', F_tidegateref34_With_l1 n a1 a0 k1_0_0 m v' = some r ∧ LeX E0 70 σ' (S_tidegateref34_With_l1 a1 a0 v')) (AW E0 70 R K)) [.code c] .normal (S_tidegateref34_With_l1 a1 a0 v)) : LoopX E0 70 (fun next σ' => AW E0 70 (thenA next (AW E0 70 R K)) [.code c] .normal σ') σ :=
  LoopA.o (S := S_tidegateref34_With_l1 a1 a0) hF (fun _ => rfl) hl round
def R_tidegateref34_With (r : Trk) : AV := .agg [aI (r.next), .sl 1 (List.map aI (r.beyond)), .sl 2 (List.map aPt (r.points)), aI (r.mark)]
theorem con_tidegateref34_With {n : Nat} {a0 : Trk} {a1 : Int} {r : Trk} (hF : F_tidegateref34_With n a0 a1 = some r) : Con E0 false 98 [.agg [aI (a0.next), .sl 1 (List.map aI (a0.beyond)), .sl 2 (List.map aPt (a0.points)), aI (a0.mark)], aI (a1)] (R_tidegateref34_With r) := by
  unfold F_tidegateref34_With at hF
  refine Con.walk _ Try.func98 rfl (enters_of Try.func98 rfl rfl) rfl (Or.inl rfl) ?_
  repeat' first
    | (refine AW.regO hF (fun hF => ?_))
    | (refine AW.frzO hF 48 rfl (fun hF => ?_))
    | (refine AW.frzO hF 7000 rfl (fun hF => ?_))
    | (refine AW.stepU [16] ?_; conv => whnf)
    | (refine CondX.o hF (fun hF => ?_) (fun hF => ?_))
    | (refine CondX.t ?_)
    | (refine CondX.f ?_)
    | (refine CallX.o hF R_tidegateref34_Contains (fun a h => con_tidegateref34_Contains h) (fun a hF => ?_))
    | (refine AppX.o aI hF (by first | exact SubR.refl _ | (repeat' first | exact SubR.nil | refine SubR.cons ?_ ?_ | exact SubL.nil | refine SubL.cons ?_ ?_ | exact Sub.refl _ | exact Sub.nil _)) (fun l hF => ?_))
    | (refine IdxX.o aI hF (fun x hF => ?_))
    | (refine SlsX.o aI hF (fun l hF => ?_))
    | (exact ⟨_, hF, LeX.of [] rfl ⟨⟨rfl, rfl⟩, ⟨rfl, rfl⟩, ⟨rfl, rfl⟩, trivial⟩ ⟨⟨rfl, rfl⟩, ⟨rfl, rfl⟩, trivial⟩⟩)
    | (refine tidegateref34_With_l2_o hF (LeX.trans (LeX.frzAll 48 3 1 _ rfl) (LeX.of [] rfl ⟨⟨rfl, rfl⟩, ⟨rfl, rfl⟩, ⟨rfl, rfl⟩, trivial⟩ ⟨⟨rfl, rfl⟩, ⟨rfl, rfl⟩, trivial⟩)) (fun m v hF => ?_); unfold F_tidegateref34_With_l2 at hF)
    | (refine tidegateref34_With_l3_o hF (LeX.trans (LeX.frzAll 7000 3 1 _ rfl) (LeX.of [] rfl ⟨⟨rfl, rfl⟩, ⟨rfl, rfl⟩, ⟨rfl, rfl⟩, trivial⟩ ⟨⟨rfl, rfl⟩, ⟨rfl, rfl⟩, trivial⟩)) (fun m v hF => ?_); unfold F_tidegateref34_With_l3 at hF)
    | (exact ⟨_, hF, LeX.of [(7000, 42)] rfl ⟨⟨rfl, rfl⟩, ⟨rfl, rfl⟩, ⟨rfl, rfl⟩, ⟨rfl, rfl⟩, ⟨rfl, rfl⟩, ⟨rfl, rfl⟩, trivial⟩ ⟨⟨rfl, rfl⟩, ⟨rfl, rfl⟩, ⟨rfl, rfl⟩, trivial⟩⟩)
    | (refine tidegateref34_With_l1_o hF (LeX.trans (LeX.adopt 5 7000 3 1 rfl rfl) (LeX.of [] rfl ⟨⟨rfl, rfl⟩, ⟨rfl, rfl⟩, ⟨rfl, rfl⟩, ⟨rfl, rfl⟩, ⟨rfl, rfl⟩, ⟨rfl, rfl⟩, trivial⟩ ⟨⟨rfl, rfl⟩, ⟨rfl, rfl⟩, ⟨rfl, rfl⟩, trivial⟩)) (fun m v hF => ?_); unfold F_tidegateref34_With_l1 at hF)
    | (refine And.intro ⟨by kernel_rfl, by kernel_rfl⟩ ?_)
    | (refine EqX.mk (by first | rfl | kernel_rfl) ?_)
    | (exact RetX.o hF (by repeat' first | exact Sub.nil _ | exact Sub.refl _ | refine Sub.agg ?_ | refine Sub.tup ?_ | refine Sub.fn ?_ | exact SubL.nil | refine SubL.cons ?_ ?_ | refine Sub.sl _ ?_ | exact SubE.nil | refine SubE.cons ?_ ?_))

def R_tidegateref34_Receive (r : Trk × Bool × Int) : AV := .tup [.agg [aI (r.1.next), .sl 1 (List.map aI (r.1.beyond)), .sl 2 (List.map aPt (r.1.points)), aI (r.1.mark)], .bool (r.2.1), aI (r.2.2)]
theorem con_tidegateref34_Receive {n : Nat} {a0 : Trk} {a1 : Int} {r : Trk × Bool × Int} (hF : F_tidegateref34_Receive n a0 a1 = some r) : Con E0 false 89 [.agg [aI (a0.next), .sl 1 (List.map aI (a0.beyond)), .sl 2 (List.map aPt (a0.points)), aI (a0.mark)], aI (a1)] (R_tidegateref34_Receive r) := by
  unfold F_tidegateref34_Receive at hF
  refine Con.walk _ Try.func89 rfl (enters_of Try.func89 rfl rfl) rfl (Or.inl rfl) ?_
  repeat' first
    | (refine AW.step ?_; conv => whnf)
    | (refine CondX.o hF (fun hF => ?_) (fun hF => ?_))
    | (refine CondX.t ?_)
    | (refine CondX.f ?_)
    | (refine CallX.o hF R_tidegateref34_Check (fun a h => con_tidegateref34_Check h) (fun a hF => ?_))
    | (refine CallX.o hF R_tidegateref34_Contains (fun a h => con_tidegateref34_Contains h) (fun a hF => ?_))
    | (refine CallX.o hF R_tidegateref34_With (fun a h => con_tidegateref34_With h) (fun a hF => ?_))
    | (refine And.intro ⟨by kernel_rfl, by kernel_rfl⟩ ?_)
    | (refine EqX.mk (by first | rfl | kernel_rfl) ?_)
    | (exact RetX.o hF (by repeat' first | exact Sub.nil _ | exact Sub.refl _ | refine Sub.agg ?_ | refine Sub.tup ?_ | refine Sub.fn ?_ | exact SubL.nil | refine SubL.cons ?_ ?_ | refine Sub.sl _ ?_ | exact SubE.nil | refine SubE.cons ?_ ?_))

def S_tidegateref35_Settled_l2 (a0 : Trk) (k1_0_0y : Int) (v2_1 : Int × (List Pt)) : AS := ⟨[(1, .ptr 1 0), (2, .ptr 2 0), (3, .ptr 3 0), (5, aI (v2_1.1))], [(1, .box 25 [aI (a0.next), .sl 1 (List.map aI (a0.beyond)), .sl 2 (List.map aPt (a0.points)), aI (a0.mark)]), (2, .box 25 [aI (0), .nils, .nils, aI (0)]), (3, .box 25 [aI (a0.next), .sl 1 (List.map aI (a0.beyond)), .row 7000, aI (k1_0_0y)]), (7000, .row 27 2 (List.map aPt (v2_1.2)))]⟩
theorem tidegateref35_Settled_l2_o {n N : Nat} {a0 : Trk} {k1_0_0y : Int} {k2_1_0 : (List Pt) → Option (Trk)} {R : Exit → AS → Prop} {K : List KItem} {c : Code} {σ : AS} {v0 : Int × (List Pt)} {r : Trk} (hF : F_tidegateref35_Settled_l2 n a0 k1_0_0y k2_1_0 N v0 = some r) (hl : LeX E0 72 σ (S_tidegateref35_Settled_l2 a0 k1_0_0y v0)) (round : ∀ m v, F_tidegateref35_Settled_l2 n a0 k1_0_0y k2_1_0 (m + 1) v = some r → AW E0 72 (thenA (fun σ' => ∃ v', F_tidegateref35_Settled_l2 n a0 k1_0_0y k2_1_0 m v' = some r ∧ LeX E0 72 σ' (S_tidegateref35_Settled_l2 a0 k1_0_0y v')) (AW E0 72 R K)) [.code c] .normal (S_tidegateref35_Settled_l2 a0 k1_0_0y v)) : LoopX E0 72 (fun next σ' => AW E0 72 (thenA next (AW E0 72 R K)) [.code c] .normal σ') σ :=
  LoopA.o (S := S_tidegateref35_Settled_l2 a0 k1_0_0y) hF (fun _ => rfl) hl round
def S_tidegateref35_Settled_l1 (a0 : Trk) (v1_0 : Int × Int) : AS := ⟨[(1, .ptr 1 0), (2, .ptr 2 0), (3, .ptr 3 0), (4, aI (v1_0.1))], [(1, .box 25 [aI (a0.next), .sl 1 (List.map aI (a0.beyond)), .sl 2 (List.map aPt (a0.points)), aI (a0.mark)]), (2, .box 25 [aI (0), .nils, .nils, aI (0)]), (3, .box 25 [aI (a0.next), .sl 1 (List.map aI (a0.beyond)), .nils, aI (v1_0.2)])]⟩
theorem tidegateref35_Settled_l1_o {n N : Nat} {a0 : Trk} {k1_0_0 : Int → Option (Trk)} {R : Exit → AS → Prop} {K : List KItem} {c : Code} {σ : AS} {v0 : Int × Int} {r : Trk} (hF : F_tidegateref35_Settled_l1 n a0 k1_0_0 N v0 = some r) (hl : LeX E0 72 σ (S_tidegateref35_Settled_l1 a0 v0)) (round : ∀ m v, F_tidegateref35_Settled_l1 n a0 k1_0_0 (m + 1) v = some r → AW E0 72 (thenA (fun σ' => ∃ v', F_tidegateref35_Settled_l1 n a0 k1_0_0 m v' = some r ∧ LeX E0 72 σ' (S_tidegateref35_Settled_l1 a0 v')) (AW E0 72 R K)) [.code c] .normal (S_tidegateref35_Settled_l1 a0 v)) : LoopX E0 72 (fun next σ' => AW E0 72 (thenA next (AW E0 72 R K)) [.code c] .normal σ') σ :=
  LoopA.o (S := S_tidegateref35_Settled_l1 a0) hF (fun _ => rfl) hl round
def R_tidegateref35_Settled (r : Trk) : AV := .agg [aI (r.next), .sl 1 (List.map aI (r.beyond)), .sl 2 (List.map aPt (r.points)), aI (r.mark)]
theorem con_tidegateref35_Settled {n : Nat} {a0 : Trk} {r : Trk} (hF : F_tidegateref35_Settled n a0 = some r) : Con E0 false 90 [.agg [aI (a0.next), .sl 1 (List.map aI (a0.beyond)), .sl 2 (List.map aPt (a0.points)), aI (a0.mark)]] (R_tidegateref35_Settled r) := by
  unfold F_tidegateref35_Settled at hF
  refine Con.walk _ Try.func90 rfl (enters_of Try.func90 rfl rfl) rfl (Or.inl rfl) ?_
  repeat' first
    | (refine AW.step ?_; conv => whnf)
    | (refine CondX.o hF (fun hF => ?_) (fun hF => ?_))
    | (refine CondX.t ?_)
    | (refine CondX.f ?_)
    | (refine IdxX.o aPt hF (fun x hF => ?_))
    | (refine AppX.o aPt hF (by first | exact SubR.refl _ | (repeat' first | exact SubR.nil | refine SubR.cons ?_ ?_ | exact SubL.nil | refine SubL.cons ?_ ?_ | exact Sub.refl _ | exact Sub.nil _)) (fun l hF => ?_))
    | (exact ⟨_, hF, LeX.of [(7000, 69)] rfl ⟨⟨rfl, rfl⟩, ⟨rfl, rfl⟩, ⟨rfl, rfl⟩, ⟨rfl, rfl⟩, trivial⟩ ⟨⟨rfl, rfl⟩, ⟨rfl, rfl⟩, ⟨rfl, rfl⟩, ⟨rfl, rfl⟩, trivial⟩⟩)
    | (exact ⟨_, hF, LeX.of [] rfl ⟨⟨rfl, rfl⟩, ⟨rfl, rfl⟩, ⟨rfl, rfl⟩, ⟨rfl, rfl⟩, trivial⟩ ⟨⟨rfl, rfl⟩, ⟨rfl, rfl⟩, ⟨rfl, rfl⟩, ⟨rfl, rfl⟩, trivial⟩⟩)
    | (refine tidegateref35_Settled_l2_o hF (LeX.trans (LeX.adoptC 3 2 7000 27 2 25 _ rfl rfl rfl) (LeX.of [] rfl ⟨⟨rfl, rfl⟩, ⟨rfl, rfl⟩, ⟨rfl, rfl⟩, ⟨rfl, rfl⟩, trivial⟩ ⟨⟨rfl, rfl⟩, ⟨rfl, rfl⟩, ⟨rfl, rfl⟩, ⟨rfl, rfl⟩, trivial⟩)) (fun m v hF => ?_); unfold F_tidegateref35_Settled_l2 at hF)
    | (exact ⟨_, hF, LeX.of [] rfl ⟨⟨rfl, rfl⟩, ⟨rfl, rfl⟩, ⟨rfl, rfl⟩, ⟨rfl, rfl⟩, trivial⟩ ⟨⟨rfl, rfl⟩, ⟨rfl, rfl⟩, ⟨rfl, rfl⟩, trivial⟩⟩)
    | (refine tidegateref35_Settled_l1_o hF (LeX.of [] rfl ⟨⟨rfl, rfl⟩, ⟨rfl, rfl⟩, ⟨rfl, rfl⟩, ⟨rfl, rfl⟩, trivial⟩ ⟨⟨rfl, rfl⟩, ⟨rfl, rfl⟩, ⟨rfl, rfl⟩, trivial⟩) (fun m v hF => ?_); unfold F_tidegateref35_Settled_l1 at hF)
    | (refine And.intro ⟨by kernel_rfl, by kernel_rfl⟩ ?_)
    | (refine EqX.mk (by first | rfl | kernel_rfl) ?_)
    | (exact RetX.o hF (by repeat' first | exact Sub.nil _ | exact Sub.refl _ | refine Sub.agg ?_ | refine Sub.tup ?_ | refine Sub.fn ?_ | exact SubL.nil | refine SubL.cons ?_ ?_ | refine Sub.sl _ ?_ | exact SubE.nil | refine SubE.cons ?_ ?_))

def R_tidegateref36_Note (r : Trk × Bool × Int) : AV := .tup [.agg [aI (r.1.next), .sl 1 (List.map aI (r.1.beyond)), .sl 2 (List.map aPt (r.1.points)), aI (r.1.mark)], .bool (r.2.1), aI (r.2.2)]
theorem con_tidegateref36_Note {n : Nat} {a0 : Trk} {a1 : T_api_Message} {r : Trk × Bool × Int} (hF : F_tidegateref36_Note n a0 a1 = some r) : Con E0 false 72 [.agg [aI (a0.next), .sl 1 (List.map aI (a0.beyond)), .sl 2 (List.map aPt (a0.points)), aI (a0.mark)], .agg [aI (a1.fKind), aI (a1.fEvent.fSource), aI (a1.fEvent.fSeq), aI (a1.fEvent.fType), aI (a1.fEvent.fTime), .sl 3 (List.map e_api_Value (a1.fEvent.fValues)), aI (a1.fSource), aI (a1.fSeq), aI (a1.fTime)]] (R_tidegateref36_Note r) := by
  unfold F_tidegateref36_Note at hF
  refine Con.walk _ Try.func72 rfl (enters_of Try.func72 rfl rfl) rfl (Or.inl rfl) ?_
  repeat' first
    | (refine AW.step ?_; conv => whnf)
    | (refine CondX.o hF (fun hF => ?_) (fun hF => ?_))
    | (refine CondX.t ?_)
    | (refine CondX.f ?_)
    | (refine CallX.o hF R_puAdd (fun a h => con_rpuAdd h) (fun a hF => ?_))
    | (refine CallX.o hF R_tidegateref34_Contains (fun a h => con_tidegateref34_Contains h) (fun a hF => ?_))
    | (refine CallX.o hF R_puAllows (fun a h => con_rpuAllows h) (fun a hF => ?_))
    | (refine CallX.o hF R_tidegateref34_Receive (fun a h => con_tidegateref34_Receive h) (fun a hF => ?_))
    | (refine CallX.o hF R_tidegateref35_Settled (fun a h => con_tidegateref35_Settled h) (fun a hF => ?_))
    | (refine And.intro ⟨by kernel_rfl, by kernel_rfl⟩ ?_)
    | (refine EqX.mk (by first | rfl | kernel_rfl) ?_)
    | (exact RetX.o hF (by repeat' first | exact Sub.nil _ | exact Sub.refl _ | refine Sub.agg ?_ | refine Sub.tup ?_ | refine Sub.fn ?_ | exact SubL.nil | refine SubL.cons ?_ ?_ | refine Sub.sl _ ?_ | exact SubE.nil | refine SubE.cons ?_ ?_))

def R_tidegateref36_Receive (r : (List Trk) × Bool × Int) : AV := .tup [.sl 4 (List.map aTrk (r.1)), .bool (r.2.1), aI (r.2.2)]
theorem con_tidegateref36_Receive {n : Nat} {a0 : (List Trk)} {a1 : T_api_Message} {r : (List Trk) × Bool × Int} (hF : F_tidegateref36_Receive n a0 a1 = some r) : Con E0 false 30 [.sl 4 (List.map aTrk (a0)), .agg [aI (a1.fKind), aI (a1.fEvent.fSource), aI (a1.fEvent.fSeq), aI (a1.fEvent.fType), aI (a1.fEvent.fTime), .sl 3 (List.map e_api_Value (a1.fEvent.fValues)), aI (a1.fSource), aI (a1.fSeq), aI (a1.fTime)]] (R_tidegateref36_Receive r) := by
  unfold F_tidegateref36_Receive at hF
  refine Con.walk _ Try.func30 rfl (enters_of Try.func30 rfl rfl) rfl (Or.inl rfl) ?_
  repeat' first
    | (refine AW.step ?_; conv => whnf)
    | (refine CondX.o hF (fun hF => ?_) (fun hF => ?_))
    | (refine CondX.t ?_)
    | (refine CondX.f ?_)
    | (refine CallX.o hF R_tidegateref36_Check (fun a h => con_tidegateref36_Check h) (fun a hF => ?_))
    | (refine CallX.o hF R_tidegateref36_CheckMessage (fun a h => con_tidegateref36_CheckMessage h) (fun a hF => ?_))
    | (refine CallX.o hF R_tidegateref36_Source (fun a h => con_tidegateref36_Source h) (fun a hF => ?_))
    | (refine IdxX.o aTrk hF (fun x hF => ?_))
    | (refine CallX.o hF R_tidegateref36_Note (fun a h => con_tidegateref36_Note h) (fun a hF => ?_))
    | (refine AppX.o aTrk hF (by first | exact SubR.refl _ | (repeat' first | exact SubR.nil | refine SubR.cons ?_ ?_ | exact SubL.nil | refine SubL.cons ?_ ?_ | exact Sub.refl _ | exact Sub.nil _)) (fun l hF => ?_))
    | (refine NatX.o hF (fun m hF => ?_))
    | (refine SetX.o aTrk hF (fun x => rfl) (fun x => (by first | exact SubL.refl _ | (repeat' first | exact SubL.nil | refine SubL.cons ?_ ?_ | exact Sub.refl _ | exact Sub.nil _ | refine Sub.agg ?_))) (fun l hF => ?_))
    | (refine And.intro ⟨by kernel_rfl, by kernel_rfl⟩ ?_)
    | (refine EqX.mk (by first | rfl | kernel_rfl) ?_)
    | (exact RetX.o hF (by repeat' first | exact Sub.nil _ | exact Sub.refl _ | refine Sub.agg ?_ | refine Sub.tup ?_ | refine Sub.fn ?_ | exact SubL.nil | refine SubL.cons ?_ ?_ | refine Sub.sl _ ?_ | exact SubE.nil | refine SubE.cons ?_ ?_))

def T_tidegateref36_Receive (r : (List Trk) × Bool × Int) : AV := .tup [.row 0, .bool (r.2.1), aI (r.2.2)]
theorem conT_tidegateref36_Receive {n : Nat} {a0 : (List Trk)} {a1 : T_api_Message} {r : (List Trk) × Bool × Int} (hF : F_tidegateref36_Receive n a0 a1 = some r) : ConT E0 30 [.sl 4 (List.map aTrk (a0)), .agg [aI (a1.fKind), aI (a1.fEvent.fSource), aI (a1.fEvent.fSeq), aI (a1.fEvent.fType), aI (a1.fEvent.fTime), .sl 3 (List.map e_api_Value (a1.fEvent.fValues)), aI (a1.fSource), aI (a1.fSeq), aI (a1.fTime)]] 25 4 (List.map aTrk (r.1)) (T_tidegateref36_Receive r) := by
  unfold F_tidegateref36_Receive at hF
  refine ConT.walk _ Try.func30 rfl (enters_of Try.func30 rfl rfl) rfl rfl ?_
  repeat' first
    | (refine AW.step ?_; conv => whnf)
    | (refine CondX.o hF (fun hF => ?_) (fun hF => ?_))
    | (refine CondX.t ?_)
    | (refine CondX.f ?_)
    | (refine CallX.o hF R_tidegateref36_Check (fun a h => con_tidegateref36_Check h) (fun a hF => ?_))
    | (refine CallX.o hF R_tidegateref36_CheckMessage (fun a h => con_tidegateref36_CheckMessage h) (fun a hF => ?_))
    | (refine CallX.o hF R_tidegateref36_Source (fun a h => con_tidegateref36_Source h) (fun a hF => ?_))
    | (refine IdxX.o aTrk hF (fun x hF => ?_))
    | (refine CallX.o hF R_tidegateref36_Note (fun a h => con_tidegateref36_Note h) (fun a hF => ?_))
    | (refine AppX.o aTrk hF (by first | exact SubR.refl _ | (repeat' first | exact SubR.nil | refine SubR.cons ?_ ?_ | exact SubL.nil | refine SubL.cons ?_ ?_ | exact Sub.refl _ | exact Sub.nil _)) (fun l hF => ?_))
    | (refine NatX.o hF (fun m hF => ?_))
    | (refine SetX.o aTrk hF (fun x => rfl) (fun x => (by first | exact SubL.refl _ | (repeat' first | exact SubL.nil | refine SubL.cons ?_ ?_ | exact Sub.refl _ | exact Sub.nil _ | refine Sub.agg ?_))) (fun l hF => ?_))
    | (refine And.intro ⟨by kernel_rfl, by kernel_rfl⟩ ?_)
    | (refine EqX.mk (by first | rfl | kernel_rfl) ?_)
    | (refine TX.o (rl := fun r => List.map aTrk (r.1)) (res := T_tidegateref36_Receive) hF ?_; exact TX.mk _ 45 (LeX.refl _ _ _) _ rfl rfl (by repeat' first | exact Sub.nil _ | exact Sub.refl _ | refine Sub.agg ?_ | refine Sub.tup ?_ | refine Sub.fn ?_ | exact SubL.nil | refine SubL.cons ?_ ?_ | refine Sub.sl _ ?_ | exact SubE.nil | refine SubE.cons ?_ ?_))
    | (refine TX.o (rl := fun r => List.map aTrk (r.1)) (res := T_tidegateref36_Receive) hF ?_; exact TX.mk _ 43 (LeX.refl _ _ _) _ rfl rfl (by repeat' first | exact Sub.nil _ | exact Sub.refl _ | refine Sub.agg ?_ | refine Sub.tup ?_ | refine Sub.fn ?_ | exact SubL.nil | refine SubL.cons ?_ ?_ | refine Sub.sl _ ?_ | exact SubE.nil | refine SubE.cons ?_ ?_))
    | (refine TX.o (rl := fun r => List.map aTrk (r.1)) (res := T_tidegateref36_Receive) hF ?_; exact TX.mk _ 9000 (LeX.adopt 4 9000 25 4 rfl rfl) _ rfl rfl (by repeat' first | exact Sub.nil _ | exact Sub.refl _ | refine Sub.agg ?_ | refine Sub.tup ?_ | refine Sub.fn ?_ | exact SubL.nil | refine SubL.cons ?_ ?_ | refine Sub.sl _ ?_ | exact SubE.nil | refine SubE.cons ?_ ?_))

def S_watermark_Run_l1 (a1 : (List T_api_Message)) (v1_0 : (List Trk) × Int × (List Bool)) : AS := ⟨[(7, .sl 4 (List.map aTrk (v1_0.1))), (9, .row 28), (29, .sl 9 (List.map e_api_Message (a1))), (30, aI ((((List.map e_api_Message (a1)).length : Nat) : Int))), (31, aI (v1_0.2.1))], [(28, .row 4 1 (List.map AV.bool (v1_0.2.2)))]⟩
theorem watermark_Run_l1_o {n N : Nat} {a1 : (List T_api_Message)} {k1_0_0 : (List Trk) → (List Bool) → Option ((List Trk) × (List Bool) × Int)} {R : Exit → AS → Prop} {K : List KItem} {c : Code} {σ : AS} {v0 : (List Trk) × Int × (List Bool)} {r : (List Trk) × (List Bool) × Int} (hF : F_watermark_Run_l1 n a1 k1_0_0 N v0 = some r) (hl : LeX E0 53 σ (S_watermark_Run_l1 a1 v0)) (round : ∀ m v, F_watermark_Run_l1 n a1 k1_0_0 (m + 1) v = some r → AW E0 53 (thenA (fun σ' => ∃ v', F_watermark_Run_l1 n a1 k1_0_0 m v' = some r ∧ LeX E0 53 σ' (S_watermark_Run_l1 a1 v')) (AW E0 53 R K)) [.code c] .normal (S_watermark_Run_l1 a1 v)) : LoopX E0 53 (fun next σ' => AW E0 53 (thenA next (AW E0 53 R K)) [.code c] .normal σ') σ :=
  LoopA.o (S := S_watermark_Run_l1 a1) hF (fun _ => rfl) hl round
def R_watermark_Run (r : (List Trk) × (List Bool) × Int) : AV := .tup [.sl 4 (List.map aTrk (r.1)), .sl 1 (List.map AV.bool (r.2.1)), aI (r.2.2)]
theorem con_watermark_Run {n : Nat} {a0 : Int} {a1 : (List T_api_Message)} {r : (List Trk) × (List Bool) × Int} (hF : F_watermark_Run n a0 a1 = some r) : Con E0 false 43 [aI (a0), .sl 9 (List.map e_api_Message (a1))] (R_watermark_Run r) := by
  unfold F_watermark_Run at hF
  refine Con.walk _ Try.func43 rfl (enters_of Try.func43 rfl rfl) rfl (Or.inl rfl) ?_
  repeat' first
    | (refine AW.step ?_; conv => whnf)
    | (refine CondX.o hF (fun hF => ?_) (fun hF => ?_))
    | (refine CondX.t ?_)
    | (refine CondX.f ?_)
    | (refine CallX.o hF R_watermark_Begin (fun a h => con_watermark_Begin h) (fun a hF => ?_))
    | (refine MakX.o AV.bool hF (by first | exact SubL.refl _ | (repeat' first | exact SubL.nil | refine SubL.cons ?_ ?_ | exact Sub.refl _ | exact Sub.nil _ | refine Sub.agg ?_)) (fun l hF => ?_))
    | (refine IdxX.o e_api_Message hF (fun x hF => ?_))
    | (refine CallX.o hF R_watermark_receive (fun a h => con_watermark_receive h) (fun a hF => ?_))
    | (refine NatX.o hF (fun m hF => ?_))
    | (refine SetX.o AV.bool hF (fun x => rfl) (fun x => (by first | exact SubL.refl _ | (repeat' first | exact SubL.nil | refine SubL.cons ?_ ?_ | exact Sub.refl _ | exact Sub.nil _ | refine Sub.agg ?_))) (fun l hF => ?_))
    | (exact ⟨_, hF, LeX.of [] rfl ⟨⟨rfl, rfl⟩, ⟨rfl, rfl⟩, ⟨rfl, rfl⟩, ⟨rfl, rfl⟩, ⟨rfl, rfl⟩, trivial⟩ ⟨⟨rfl, rfl⟩, trivial⟩⟩)
    | (refine watermark_Run_l1_o hF (LeX.of [] rfl ⟨⟨rfl, rfl⟩, ⟨rfl, rfl⟩, ⟨rfl, rfl⟩, ⟨rfl, rfl⟩, ⟨rfl, rfl⟩, trivial⟩ ⟨⟨rfl, rfl⟩, trivial⟩) (fun m v hF => ?_); unfold F_watermark_Run_l1 at hF)
    | (refine And.intro ⟨by kernel_rfl, by kernel_rfl⟩ ?_)
    | (refine EqX.mk (by first | rfl | kernel_rfl) ?_)
    | (exact RetX.o hF (by repeat' first | exact Sub.nil _ | exact Sub.refl _ | refine Sub.agg ?_ | refine Sub.tup ?_ | refine Sub.fn ?_ | exact SubL.nil | refine SubL.cons ?_ ?_ | refine Sub.sl _ ?_ | exact SubE.nil | refine SubE.cons ?_ ?_))

def T_watermark_Run (r : (List Trk) × (List Bool) × Int) : AV := .tup [.sl 4 (List.map aTrk (r.1)), .row 0, aI (r.2.2)]
theorem conT_watermark_Run {n : Nat} {a0 : Int} {a1 : (List T_api_Message)} {r : (List Trk) × (List Bool) × Int} (hF : F_watermark_Run n a0 a1 = some r) : ConT E0 43 [aI (a0), .sl 9 (List.map e_api_Message (a1))] 4 1 (List.map AV.bool (r.2.1)) (T_watermark_Run r) := by
  unfold F_watermark_Run at hF
  refine ConT.walk _ Try.func43 rfl (enters_of Try.func43 rfl rfl) rfl rfl ?_
  repeat' first
    | (refine AW.step ?_; conv => whnf)
    | (refine CondX.o hF (fun hF => ?_) (fun hF => ?_))
    | (refine CondX.t ?_)
    | (refine CondX.f ?_)
    | (refine CallX.o hF R_watermark_Begin (fun a h => con_watermark_Begin h) (fun a hF => ?_))
    | (refine MakX.o AV.bool hF (by first | exact SubL.refl _ | (repeat' first | exact SubL.nil | refine SubL.cons ?_ ?_ | exact Sub.refl _ | exact Sub.nil _ | refine Sub.agg ?_)) (fun l hF => ?_))
    | (refine IdxX.o e_api_Message hF (fun x hF => ?_))
    | (refine CallX.o hF R_watermark_receive (fun a h => con_watermark_receive h) (fun a hF => ?_))
    | (refine NatX.o hF (fun m hF => ?_))
    | (refine SetX.o AV.bool hF (fun x => rfl) (fun x => (by first | exact SubL.refl _ | (repeat' first | exact SubL.nil | refine SubL.cons ?_ ?_ | exact Sub.refl _ | exact Sub.nil _ | refine Sub.agg ?_))) (fun l hF => ?_))
    | (exact ⟨_, hF, LeX.of [] rfl ⟨⟨rfl, rfl⟩, ⟨rfl, rfl⟩, ⟨rfl, rfl⟩, ⟨rfl, rfl⟩, ⟨rfl, rfl⟩, trivial⟩ ⟨⟨rfl, rfl⟩, trivial⟩⟩)
    | (refine watermark_Run_l1_o hF (LeX.of [] rfl ⟨⟨rfl, rfl⟩, ⟨rfl, rfl⟩, ⟨rfl, rfl⟩, ⟨rfl, rfl⟩, ⟨rfl, rfl⟩, trivial⟩ ⟨⟨rfl, rfl⟩, trivial⟩) (fun m v hF => ?_); unfold F_watermark_Run_l1 at hF)
    | (refine And.intro ⟨by kernel_rfl, by kernel_rfl⟩ ?_)
    | (refine EqX.mk (by first | rfl | kernel_rfl) ?_)
    | (refine TX.o (rl := fun r => List.map AV.bool (r.2.1)) (res := T_watermark_Run) hF ?_; exact TX.mk _ 28 (LeX.refl _ _ _) _ rfl rfl (by repeat' first | exact Sub.nil _ | exact Sub.refl _ | refine Sub.agg ?_ | refine Sub.tup ?_ | refine Sub.fn ?_ | exact SubL.nil | refine SubL.cons ?_ ?_ | refine Sub.sl _ ?_ | exact SubE.nil | refine SubE.cons ?_ ?_))
    | (refine TX.o (rl := fun r => List.map AV.bool (r.2.1)) (res := T_watermark_Run) hF ?_; exact TX.mk _ 9000 (LeX.adopt 5 9000 4 1 rfl rfl) _ rfl rfl (by repeat' first | exact Sub.nil _ | exact Sub.refl _ | refine Sub.agg ?_ | refine Sub.tup ?_ | refine Sub.fn ?_ | exact SubL.nil | refine SubL.cons ?_ ?_ | refine Sub.sl _ ?_ | exact SubE.nil | refine SubE.cons ?_ ?_))

def S_tidegateref36_Run_l1 (a1 : (List T_api_Message)) (v1_0 : (List Trk) × Int × (List Bool)) : AS := ⟨[(1, .sl 9 (List.map e_api_Message (a1))), (7, .sl 4 (List.map aTrk (v1_0.1))), (9, .row 7000), (10, aI (v1_0.2.1))], [(7000, .row 4 1 (List.map AV.bool (v1_0.2.2)))]⟩
theorem tidegateref36_Run_l1_o {n N : Nat} {a1 : (List T_api_Message)} {k1_0_0 : (List Trk) → (List Bool) → Option ((List Trk) × (List Bool) × Int)} {R : Exit → AS → Prop} {K : List KItem} {c : Code} {σ : AS} {v0 : (List Trk) × Int × (List Bool)} {r : (List Trk) × (List Bool) × Int} (hF : F_tidegateref36_Run_l1 n a1 k1_0_0 N v0 = some r) (hl : LeX E0 50 σ (S_tidegateref36_Run_l1 a1 v0)) (round : ∀ m v, F_tidegateref36_Run_l1 n a1 k1_0_0 (m + 1) v = some r → AW E0 50 (thenA (fun σ' => ∃ v', F_tidegateref36_Run_l1 n a1 k1_0_0 m v' = some r ∧ LeX E0 50 σ' (S_tidegateref36_Run_l1 a1 v')) (AW E0 50 R K)) [.code c] .normal (S_tidegateref36_Run_l1 a1 v)) : LoopX E0 50 (fun next σ' => AW E0 50 (thenA next (AW E0 50 R K)) [.code c] .normal σ') σ :=
  LoopA.o (S := S_tidegateref36_Run_l1 a1) hF (fun _ => rfl) hl round
def R_tidegateref36_Run (r : (List Trk) × (List Bool) × Int) : AV := .tup [.sl 4 (List.map aTrk (r.1)), .sl 1 (List.map AV.bool (r.2.1)), aI (r.2.2)]
theorem con_tidegateref36_Run {n : Nat} {a0 : Int} {a1 : (List T_api_Message)} {r : (List Trk) × (List Bool) × Int} (hF : F_tidegateref36_Run n a0 a1 = some r) : Con E0 false 44 [aI (a0), .sl 9 (List.map e_api_Message (a1))] (R_tidegateref36_Run r) := by
  unfold F_tidegateref36_Run at hF
  refine Con.walk _ Try.func44 rfl (enters_of Try.func44 rfl rfl) rfl (Or.inl rfl) ?_
  repeat' first
    | (refine AW.step ?_; conv => whnf)
    | (refine CondX.o hF (fun hF => ?_) (fun hF => ?_))
    | (refine CondX.t ?_)
    | (refine CondX.f ?_)
    | (refine CallX.o hF R_tidegateref36_Begin (fun a h => con_tidegateref36_Begin h) (fun a hF => ?_))
    | (refine IdxX.o e_api_Message hF (fun x hF => ?_))
    | (refine CallX.o hF R_tidegateref36_Receive (fun a h => con_tidegateref36_Receive h) (fun a hF => ?_))
    | (refine AppX.o AV.bool hF (by first | exact SubR.refl _ | (repeat' first | exact SubR.nil | refine SubR.cons ?_ ?_ | exact SubL.nil | refine SubL.cons ?_ ?_ | exact Sub.refl _ | exact Sub.nil _)) (fun l hF => ?_))
    | (exact ⟨_, hF, LeX.of [(7000, 47)] rfl ⟨⟨rfl, rfl⟩, ⟨rfl, rfl⟩, ⟨rfl, rfl⟩, ⟨rfl, rfl⟩, trivial⟩ ⟨⟨rfl, rfl⟩, trivial⟩⟩)
    | (refine tidegateref36_Run_l1_o hF (LeX.trans (LeX.adopt 9 7000 4 1 rfl rfl) (LeX.of [] rfl ⟨⟨rfl, rfl⟩, ⟨rfl, rfl⟩, ⟨rfl, rfl⟩, ⟨rfl, rfl⟩, trivial⟩ ⟨⟨rfl, rfl⟩, trivial⟩)) (fun m v hF => ?_); unfold F_tidegateref36_Run_l1 at hF)
    | (refine And.intro ⟨by kernel_rfl, by kernel_rfl⟩ ?_)
    | (refine EqX.mk (by first | rfl | kernel_rfl) ?_)
    | (exact RetX.o hF (by repeat' first | exact Sub.nil _ | exact Sub.refl _ | refine Sub.agg ?_ | refine Sub.tup ?_ | refine Sub.fn ?_ | exact SubL.nil | refine SubL.cons ?_ ?_ | refine Sub.sl _ ?_ | exact SubE.nil | refine SubE.cons ?_ ?_))

def T_tidegateref36_Run (r : (List Trk) × (List Bool) × Int) : AV := .tup [.sl 4 (List.map aTrk (r.1)), .row 0, aI (r.2.2)]
theorem conT_tidegateref36_Run {n : Nat} {a0 : Int} {a1 : (List T_api_Message)} {r : (List Trk) × (List Bool) × Int} (hF : F_tidegateref36_Run n a0 a1 = some r) : ConT E0 44 [aI (a0), .sl 9 (List.map e_api_Message (a1))] 4 1 (List.map AV.bool (r.2.1)) (T_tidegateref36_Run r) := by
  unfold F_tidegateref36_Run at hF
  refine ConT.walk _ Try.func44 rfl (enters_of Try.func44 rfl rfl) rfl rfl ?_
  repeat' first
    | (refine AW.step ?_; conv => whnf)
    | (refine CondX.o hF (fun hF => ?_) (fun hF => ?_))
    | (refine CondX.t ?_)
    | (refine CondX.f ?_)
    | (refine CallX.o hF R_tidegateref36_Begin (fun a h => con_tidegateref36_Begin h) (fun a hF => ?_))
    | (refine IdxX.o e_api_Message hF (fun x hF => ?_))
    | (refine CallX.o hF R_tidegateref36_Receive (fun a h => con_tidegateref36_Receive h) (fun a hF => ?_))
    | (refine AppX.o AV.bool hF (by first | exact SubR.refl _ | (repeat' first | exact SubR.nil | refine SubR.cons ?_ ?_ | exact SubL.nil | refine SubL.cons ?_ ?_ | exact Sub.refl _ | exact Sub.nil _)) (fun l hF => ?_))
    | (exact ⟨_, hF, LeX.of [(7000, 47)] rfl ⟨⟨rfl, rfl⟩, ⟨rfl, rfl⟩, ⟨rfl, rfl⟩, ⟨rfl, rfl⟩, trivial⟩ ⟨⟨rfl, rfl⟩, trivial⟩⟩)
    | (refine tidegateref36_Run_l1_o hF (LeX.trans (LeX.adopt 9 7000 4 1 rfl rfl) (LeX.of [] rfl ⟨⟨rfl, rfl⟩, ⟨rfl, rfl⟩, ⟨rfl, rfl⟩, ⟨rfl, rfl⟩, trivial⟩ ⟨⟨rfl, rfl⟩, trivial⟩)) (fun m v hF => ?_); unfold F_tidegateref36_Run_l1 at hF)
    | (refine And.intro ⟨by kernel_rfl, by kernel_rfl⟩ ?_)
    | (refine EqX.mk (by first | rfl | kernel_rfl) ?_)
    | (refine TX.o (rl := fun r => List.map AV.bool (r.2.1)) (res := T_tidegateref36_Run) hF ?_; exact TX.mk _ 7000 (LeX.refl _ _ _) _ rfl rfl (by repeat' first | exact Sub.nil _ | exact Sub.refl _ | refine Sub.agg ?_ | refine Sub.tup ?_ | refine Sub.fn ?_ | exact SubL.nil | refine SubL.cons ?_ ?_ | refine Sub.sl _ ?_ | exact SubE.nil | refine SubE.cons ?_ ?_))
    | (refine TX.o (rl := fun r => List.map AV.bool (r.2.1)) (res := T_tidegateref36_Run) hF ?_; exact TX.mk _ 47 (LeX.refl _ _ _) _ rfl rfl (by repeat' first | exact Sub.nil _ | exact Sub.refl _ | refine Sub.agg ?_ | refine Sub.tup ?_ | refine Sub.fn ?_ | exact SubL.nil | refine SubL.cons ?_ ?_ | refine Sub.sl _ ?_ | exact SubE.nil | refine SubE.cons ?_ ?_))
    | (refine TX.o (rl := fun r => List.map AV.bool (r.2.1)) (res := T_tidegateref36_Run) hF ?_; exact TX.mk _ 9000 (LeX.adopt 5 9000 4 1 rfl rfl) _ rfl rfl (by repeat' first | exact Sub.nil _ | exact Sub.refl _ | refine Sub.agg ?_ | refine Sub.tup ?_ | refine Sub.fn ?_ | exact SubL.nil | refine SubL.cons ?_ ?_ | refine Sub.sl _ ?_ | exact SubE.nil | refine SubE.cons ?_ ?_))

def S_tidegateref36_Same_l1 (a1 : (List Trk)) (a0 : (List Trk)) (v1_0 : Int) : AS := ⟨[(0, .sl 4 (List.map aTrk (a0))), (1, .sl 4 (List.map aTrk (a1))), (5, aI (v1_0))], []⟩
theorem tidegateref36_Same_l1_o {n N : Nat} {a1 : (List Trk)} {a0 : (List Trk)} {k1_0_0 : Option (Bool)} {R : Exit → AS → Prop} {K : List KItem} {c : Code} {σ : AS} {v0 : Int} {r : Bool} (hF : F_tidegateref36_Same_l1 n a1 a0 k1_0_0 N v0 = some r) (hl : LeX E0 27 σ (S_tidegateref36_Same_l1 a1 a0 v0)) (round : ∀ m v, F_tidegateref36_Same_l1 n a1 a0 k1_0_0 (m + 1) v = some r → AW E0 27 (thenA (fun σ' => ∃ v', F_tidegateref36_Same_l1 n a1 a0 k1_0_0 m v' = some r ∧ LeX E0 27 σ' (S_tidegateref36_Same_l1 a1 a0 v')) (AW E0 27 R K)) [.code c] .normal (S_tidegateref36_Same_l1 a1 a0 v)) : LoopX E0 27 (fun next σ' => AW E0 27 (thenA next (AW E0 27 R K)) [.code c] .normal σ') σ :=
  LoopA.o (S := S_tidegateref36_Same_l1 a1 a0) hF (fun _ => rfl) hl round
def R_tidegateref36_Same (r : Bool) : AV := .bool (r)
theorem con_tidegateref36_Same {n : Nat} {a0 : (List Trk)} {a1 : (List Trk)} {r : Bool} (hF : F_tidegateref36_Same n a0 a1 = some r) : Con E0 true 31 [.sl 4 (List.map aTrk (a0)), .sl 4 (List.map aTrk (a1))] (R_tidegateref36_Same r) := by
  unfold F_tidegateref36_Same at hF
  refine Con.walk _ Try.func31 rfl (enters_of Try.func31 rfl rfl) rfl (Or.inr rfl) ?_
  repeat' first
    | (refine AW.step ?_; conv => whnf)
    | (refine CondX.o hF (fun hF => ?_) (fun hF => ?_))
    | (refine CondX.t ?_)
    | (refine CondX.f ?_)
    | (refine IdxX.o aTrk hF (fun x hF => ?_))
    | (refine CallX.o hF R_trkSame (fun a h => con_trkSame h) (fun a hF => ?_))
    | (exact ⟨_, hF, LeX.of [] rfl ⟨⟨rfl, rfl⟩, ⟨rfl, rfl⟩, ⟨rfl, rfl⟩, trivial⟩ trivial⟩)
    | (refine tidegateref36_Same_l1_o hF (LeX.of [] rfl ⟨⟨rfl, rfl⟩, ⟨rfl, rfl⟩, ⟨rfl, rfl⟩, trivial⟩ trivial) (fun m v hF => ?_); unfold F_tidegateref36_Same_l1 at hF)
    | (refine And.intro ⟨by kernel_rfl, by kernel_rfl⟩ ?_)
    | (refine EqX.mk (by first | rfl | kernel_rfl) ?_)
    | (exact RetX.o hF (by repeat' first | exact Sub.nil _ | exact Sub.refl _ | refine Sub.agg ?_ | refine Sub.tup ?_ | refine Sub.fn ?_ | exact SubL.nil | refine SubL.cons ?_ ?_ | refine Sub.sl _ ?_ | exact SubE.nil | refine SubE.cons ?_ ?_))

def S_tidegateref36_SameBools_l1 (a1 : (List Bool)) (a0 : (List Bool)) (v1_0 : Int) : AS := ⟨[(0, .sl 1 (List.map AV.bool (a0))), (1, .sl 1 (List.map AV.bool (a1))), (5, aI (v1_0))], []⟩
theorem tidegateref36_SameBools_l1_o {n N : Nat} {a1 : (List Bool)} {a0 : (List Bool)} {k1_0_0 : Option (Bool)} {R : Exit → AS → Prop} {K : List KItem} {c : Code} {σ : AS} {v0 : Int} {r : Bool} (hF : F_tidegateref36_SameBools_l1 n a1 a0 k1_0_0 N v0 = some r) (hl : LeX E0 26 σ (S_tidegateref36_SameBools_l1 a1 a0 v0)) (round : ∀ m v, F_tidegateref36_SameBools_l1 n a1 a0 k1_0_0 (m + 1) v = some r → AW E0 26 (thenA (fun σ' => ∃ v', F_tidegateref36_SameBools_l1 n a1 a0 k1_0_0 m v' = some r ∧ LeX E0 26 σ' (S_tidegateref36_SameBools_l1 a1 a0 v')) (AW E0 26 R K)) [.code c] .normal (S_tidegateref36_SameBools_l1 a1 a0 v)) : LoopX E0 26 (fun next σ' => AW E0 26 (thenA next (AW E0 26 R K)) [.code c] .normal σ') σ :=
  LoopA.o (S := S_tidegateref36_SameBools_l1 a1 a0) hF (fun _ => rfl) hl round
def R_tidegateref36_SameBools (r : Bool) : AV := .bool (r)
theorem con_tidegateref36_SameBools {n : Nat} {a0 : (List Bool)} {a1 : (List Bool)} {r : Bool} (hF : F_tidegateref36_SameBools n a0 a1 = some r) : Con E0 true 45 [.sl 1 (List.map AV.bool (a0)), .sl 1 (List.map AV.bool (a1))] (R_tidegateref36_SameBools r) := by
  unfold F_tidegateref36_SameBools at hF
  refine Con.walk _ Try.func45 rfl (enters_of Try.func45 rfl rfl) rfl (Or.inr rfl) ?_
  repeat' first
    | (refine AW.step ?_; conv => whnf)
    | (refine CondX.o hF (fun hF => ?_) (fun hF => ?_))
    | (refine CondX.t ?_)
    | (refine CondX.f ?_)
    | (refine IdxX.o AV.bool hF (fun x hF => ?_))
    | (exact ⟨_, hF, LeX.of [] rfl ⟨⟨rfl, rfl⟩, ⟨rfl, rfl⟩, ⟨rfl, rfl⟩, trivial⟩ trivial⟩)
    | (refine tidegateref36_SameBools_l1_o hF (LeX.of [] rfl ⟨⟨rfl, rfl⟩, ⟨rfl, rfl⟩, ⟨rfl, rfl⟩, trivial⟩ trivial) (fun m v hF => ?_); unfold F_tidegateref36_SameBools_l1 at hF)
    | (refine And.intro ⟨by kernel_rfl, by kernel_rfl⟩ ?_)
    | (refine EqX.mk (by first | rfl | kernel_rfl) ?_)
    | (exact RetX.o hF (by repeat' first | exact Sub.nil _ | exact Sub.refl _ | refine Sub.agg ?_ | refine Sub.tup ?_ | refine Sub.fn ?_ | exact SubL.nil | refine SubL.cons ?_ ?_ | refine Sub.sl _ ?_ | exact SubE.nil | refine SubE.cons ?_ ?_))

def S_tidegateref34_SameGaps_l1 (a1 : (List (Int × Int))) (a0 : (List (Int × Int))) (v1_0 : Int) : AS := ⟨[(0, .sl 2 (List.map aIv (a0))), (1, .sl 2 (List.map aIv (a1))), (5, aI (v1_0))], []⟩
theorem tidegateref34_SameGaps_l1_o {n N : Nat} {a1 : (List (Int × Int))} {a0 : (List (Int × Int))} {k1_0_0 : Option (Bool)} {R : Exit → AS → Prop} {K : List KItem} {c : Code} {σ : AS} {v0 : Int} {r : Bool} (hF : F_tidegateref34_SameGaps_l1 n a1 a0 k1_0_0 N v0 = some r) (hl : LeX E0 26 σ (S_tidegateref34_SameGaps_l1 a1 a0 v0)) (round : ∀ m v, F_tidegateref34_SameGaps_l1 n a1 a0 k1_0_0 (m + 1) v = some r → AW E0 26 (thenA (fun σ' => ∃ v', F_tidegateref34_SameGaps_l1 n a1 a0 k1_0_0 m v' = some r ∧ LeX E0 26 σ' (S_tidegateref34_SameGaps_l1 a1 a0 v')) (AW E0 26 R K)) [.code c] .normal (S_tidegateref34_SameGaps_l1 a1 a0 v)) : LoopX E0 26 (fun next σ' => AW E0 26 (thenA next (AW E0 26 R K)) [.code c] .normal σ') σ :=
  LoopA.o (S := S_tidegateref34_SameGaps_l1 a1 a0) hF (fun _ => rfl) hl round
def R_tidegateref34_SameGaps (r : Bool) : AV := .bool (r)
theorem con_tidegateref34_SameGaps {n : Nat} {a0 : (List (Int × Int))} {a1 : (List (Int × Int))} {r : Bool} (hF : F_tidegateref34_SameGaps n a0 a1 = some r) : Con E0 true 40 [.sl 2 (List.map aIv (a0)), .sl 2 (List.map aIv (a1))] (R_tidegateref34_SameGaps r) := by
  unfold F_tidegateref34_SameGaps at hF
  refine Con.walk _ Try.func40 rfl (enters_of Try.func40 rfl rfl) rfl (Or.inr rfl) ?_
  repeat' first
    | (refine AW.step ?_; conv => whnf)
    | (refine CondX.o hF (fun hF => ?_) (fun hF => ?_))
    | (refine CondX.t ?_)
    | (refine CondX.f ?_)
    | (refine IdxX.o aIv hF (fun x hF => ?_))
    | (exact ⟨_, hF, LeX.of [] rfl ⟨⟨rfl, rfl⟩, ⟨rfl, rfl⟩, ⟨rfl, rfl⟩, trivial⟩ trivial⟩)
    | (refine tidegateref34_SameGaps_l1_o hF (LeX.of [] rfl ⟨⟨rfl, rfl⟩, ⟨rfl, rfl⟩, ⟨rfl, rfl⟩, trivial⟩ trivial) (fun m v hF => ?_); unfold F_tidegateref34_SameGaps_l1 at hF)
    | (refine And.intro ⟨by kernel_rfl, by kernel_rfl⟩ ?_)
    | (refine EqX.mk (by first | rfl | kernel_rfl) ?_)
    | (exact RetX.o hF (by repeat' first | exact Sub.nil _ | exact Sub.refl _ | refine Sub.agg ?_ | refine Sub.tup ?_ | refine Sub.fn ?_ | exact SubL.nil | refine SubL.cons ?_ ?_ | refine Sub.sl _ ?_ | exact SubE.nil | refine SubE.cons ?_ ?_))

def S_tidegateref36_Honest_l2 (a1 : (List T_api_Message)) (a0 : Int) (v1_0 : Int) (v2_1 : Int) : AS := ⟨[(0, aI (a0)), (1, .sl 9 (List.map e_api_Message (a1))), (5, aI (v1_0)), (6, aI (v2_1))], []⟩
theorem tidegateref36_Honest_l2_o {n N : Nat} {a1 : (List T_api_Message)} {a0 : Int} {v1_0 : Int} {k2_1_0 : Option (Bool)} {R : Exit → AS → Prop} {K : List KItem} {c : Code} {σ : AS} {v0 : Int} {r : Bool} (hF : F_tidegateref36_Honest_l2 n a1 a0 v1_0 k2_1_0 N v0 = some r) (hl : LeX E0 121 σ (S_tidegateref36_Honest_l2 a1 a0 v1_0 v0)) (round : ∀ m v, F_tidegateref36_Honest_l2 n a1 a0 v1_0 k2_1_0 (m + 1) v = some r → AW E0 121 (thenA (fun σ' => ∃ v', F_tidegateref36_Honest_l2 n a1 a0 v1_0 k2_1_0 m v' = some r ∧ LeX E0 121 σ' (S_tidegateref36_Honest_l2 a1 a0 v1_0 v')) (AW E0 121 R K)) [.code c] .normal (S_tidegateref36_Honest_l2 a1 a0 v1_0 v)) : LoopX E0 121 (fun next σ' => AW E0 121 (thenA next (AW E0 121 R K)) [.code c] .normal σ') σ :=
  LoopA.o (S := S_tidegateref36_Honest_l2 a1 a0 v1_0) hF (fun _ => rfl) hl round
def S_tidegateref36_Honest_l1 (a1 : (List T_api_Message)) (a0 : Int) (v1_0 : Int) : AS := ⟨[(0, aI (a0)), (1, .sl 9 (List.map e_api_Message (a1))), (5, aI (v1_0))], []⟩
theorem tidegateref36_Honest_l1_o {n N : Nat} {a1 : (List T_api_Message)} {a0 : Int} {k1_0_0 : Option (Bool)} {R : Exit → AS → Prop} {K : List KItem} {c : Code} {σ : AS} {v0 : Int} {r : Bool} (hF : F_tidegateref36_Honest_l1 n a1 a0 k1_0_0 N v0 = some r) (hl : LeX E0 121 σ (S_tidegateref36_Honest_l1 a1 a0 v0)) (round : ∀ m v, F_tidegateref36_Honest_l1 n a1 a0 k1_0_0 (m + 1) v = some r → AW E0 121 (thenA (fun σ' => ∃ v', F_tidegateref36_Honest_l1 n a1 a0 k1_0_0 m v' = some r ∧ LeX E0 121 σ' (S_tidegateref36_Honest_l1 a1 a0 v')) (AW E0 121 R K)) [.code c] .normal (S_tidegateref36_Honest_l1 a1 a0 v)) : LoopX E0 121 (fun next σ' => AW E0 121 (thenA next (AW E0 121 R K)) [.code c] .normal σ') σ :=
  LoopA.o (S := S_tidegateref36_Honest_l1 a1 a0) hF (fun _ => rfl) hl round
def R_tidegateref36_Honest (r : Bool) : AV := .bool (r)
theorem con_tidegateref36_Honest {n : Nat} {a0 : Int} {a1 : (List T_api_Message)} {r : Bool} (hF : F_tidegateref36_Honest n a0 a1 = some r) : Con E0 true 46 [aI (a0), .sl 9 (List.map e_api_Message (a1))] (R_tidegateref36_Honest r) := by
  unfold F_tidegateref36_Honest at hF
  refine Con.walk _ Try.func46 rfl (enters_of Try.func46 rfl rfl) rfl (Or.inr rfl) ?_
  repeat' first
    | (refine AW.step ?_; conv => whnf)
    | (refine CondX.o hF (fun hF => ?_) (fun hF => ?_))
    | (refine CondX.t ?_)
    | (refine CondX.f ?_)
    | (refine IdxX.o e_api_Message hF (fun x hF => ?_))
    | (refine CallX.o hF R_tidegateref36_CheckMessage (fun a h => con_tidegateref36_CheckMessage h) (fun a hF => ?_))
    | (refine CallX.o hF R_tidegateref36_Source (fun a h => con_tidegateref36_Source h) (fun a hF => ?_))
    | (exact ⟨_, hF, LeX.of [] rfl ⟨⟨rfl, rfl⟩, ⟨rfl, rfl⟩, ⟨rfl, rfl⟩, trivial⟩ trivial⟩)
    | (exact ⟨_, hF, LeX.of [] rfl ⟨⟨rfl, rfl⟩, ⟨rfl, rfl⟩, ⟨rfl, rfl⟩, ⟨rfl, rfl⟩, trivial⟩ trivial⟩)
    | (refine tidegateref36_Honest_l2_o hF (LeX.of [] rfl ⟨⟨rfl, rfl⟩, ⟨rfl, rfl⟩, ⟨rfl, rfl⟩, ⟨rfl, rfl⟩, trivial⟩ trivial) (fun m v hF => ?_); unfold F_tidegateref36_Honest_l2 at hF)
    | (refine tidegateref36_Honest_l1_o hF (LeX.of [] rfl ⟨⟨rfl, rfl⟩, ⟨rfl, rfl⟩, ⟨rfl, rfl⟩, trivial⟩ trivial) (fun m v hF => ?_); unfold F_tidegateref36_Honest_l1 at hF)
    | (refine And.intro ⟨by kernel_rfl, by kernel_rfl⟩ ?_)
    | (refine EqX.mk (by first | rfl | kernel_rfl) ?_)
    | (exact RetX.o hF (by repeat' first | exact Sub.nil _ | exact Sub.refl _ | refine Sub.agg ?_ | refine Sub.tup ?_ | refine Sub.fn ?_ | exact SubL.nil | refine SubL.cons ?_ ?_ | refine Sub.sl _ ?_ | exact SubE.nil | refine SubE.cons ?_ ?_))

def R_tidegateref34_Few (r : Bool) : AV := .bool (r)
end Go.Proofs.Ythhnhajldhnfmaa
