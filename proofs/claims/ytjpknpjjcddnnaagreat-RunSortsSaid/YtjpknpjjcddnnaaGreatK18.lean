/- What some functions compute, over plain values. Printed by a program of mine (gen_fun.lean). Layer 25: the contract of the law RunSorts. -/
import Derived.Test.YtjpknpjjcddnnaaGreatK17
import Derived.Test.YtjpknpjjcddnnaaGreatK14
set_option linter.unusedVariables false
set_option linter.unusedSimpArgs false
set_option maxRecDepth 100000
set_option maxHeartbeats 8000000
namespace Go.Proofs.YtjpknpjjcddnnaaGreat
open Go.RowKit
theorem zgx {n : Nat} {m0 : (List z00)} {m1 : (List z03)} {m2 : z0h} {m3 : z00} {m4 : z02} {r : (List z00) × (List z03) × z0h × z00 × z02} (hF : z7p n m0 m1 m2 m3 m4 = some r) (yl_l : Nat) (yl_R : Obj) (yl_T : Array Value) (hY : ∀ {n : Nat} {a0 : z00} {m0 : (List z00)} {m1 : (List z03)} {r : (List z00) × (List z03)}, z72 n a0 m0 m1 = some r → ConG E0.P (some (yl_l, yl_R)) (fun vs cs w R => cs = yl_T → CalY E0.P yl_l vs cs w R) [.agg [aI (a0.fState), .sl 4 (List.map z09 (a0.fBindings)), .sl 2 (List.map z07 (a0.fStarts))]] [.any, .any, .any, .any, .any, .any, .any, .any, .ptr 100000 0, .ptr 100001 0] (zm6 m0 m1) (.bool true) (z30 r)) : ConG E0.P (some (yl_l, yl_R)) (CalF E0.P 105 0) [.yld yl_l yl_T [.any, .any, .any, .any, .any, .any, .any, .any, .ptr 100000 0, .ptr 100001 0], .ptr 100002 0, .ptr 100003 0, .ptr 100004 0] [] (zif m0 m1 m2 m3 m4) (z7g r) (z3l r) := by
 unfold z7p at hF
 refine ConG.walk (E := (E0y yl_l yl_R 4)) (caps := []) _ Tryz.func105 rfl rfl rfl rfl rfl ?_
 repeat' first
  | (refine AW.step ?_; conv => whnf)
  | (refine z0b.o hF (fun hF => ?_) (fun hF => ?_))
  | (refine z0b.t ?_)
  | (refine z0b.f ?_)
  | (refine z0p.o hF zlz (fun a h => Con.env rfl rfl (zrj h)) (fun a hF => ?_))
  | (refine OpX.nckR rfl rfl rfl rfl ?_)
  | (refine IdxX.o z0m hF (fun x hF => ?_))
  | (refine z9v.o hF zca (fun a h => Con.env rfl rfl (zi9 h)) (fun _ => Or.inr rfl) (fun a hF => ?_))
  | (refine YldX.oM (z3n 32 hF) [(100000, 100000), (200000, 200000), (100001, 100001), (200001, 200001)] [(100000, 100000), (250000, 33000001), (100001, 100001), (250001, 33000003)] _ _ _ z30 (fun _ => AV.bool true) [200000, 200001] (fun a h => hY h) rfl rfl rfl rfl rfl ⟨⟨rfl, rfl⟩, ⟨⟨rfl, rfl⟩, ⟨⟨rfl, rfl⟩, ⟨⟨rfl, rfl⟩, trivial⟩⟩⟩⟩ (fun a => ⟨rfl, rfl, rfl, rfl, rfl, rfl, rfl, rfl⟩) (fun a hF => ?_))
  | (refine GX.o (res := z7g) (meF := z3l) hF ?_; exact GX.mk (zay yl_l yl_T _) (LeX.of [(250000, 33000001), (250001, 33000003)] rfl ⟨⟨rfl, rfl⟩, ⟨rfl, rfl⟩, ⟨rfl, rfl⟩, ⟨rfl, rfl⟩, trivial⟩ ⟨⟨rfl, rfl⟩, ⟨rfl, rfl⟩, ⟨rfl, rfl⟩, ⟨rfl, rfl⟩, ⟨rfl, rfl⟩, ⟨rfl, rfl⟩, ⟨rfl, rfl⟩, trivial⟩) rfl _ rfl (by repeat' first | exact Sub.nil _ | exact Sub.refl _ | refine Sub.agg ?_ | refine Sub.tup ?_ | refine Sub.fn ?_ | exact SubL.nil | refine SubL.cons ?_ ?_ | refine Sub.sl _ ?_ | exact SubE.nil | refine SubE.cons ?_ ?_) [100000, 100001] ⟨Or.inl ⟨0, 0, 8, _, _, _, _, _, _, rfl, rfl, rfl, rfl, rfl⟩, ⟨Or.inl ⟨0, 0, 9, _, _, _, _, _, _, rfl, rfl, rfl, rfl, rfl⟩, trivial⟩⟩ rfl)
  | (refine IdxX.o z0n hF (fun x hF => ?_))
  | (exact ⟨_, hF, LeX.of [] rfl ⟨⟨rfl, rfl⟩, ⟨rfl, rfl⟩, ⟨rfl, rfl⟩, ⟨rfl, rfl⟩, ⟨rfl, rfl⟩, ⟨rfl, rfl⟩, ⟨rfl, rfl⟩, ⟨rfl, rfl⟩, trivial⟩ ⟨⟨rfl, rfl⟩, ⟨rfl, rfl⟩, ⟨rfl, rfl⟩, ⟨rfl, rfl⟩, ⟨rfl, rfl⟩, ⟨rfl, rfl⟩, ⟨rfl, rfl⟩, ⟨rfl, rfl⟩, trivial⟩⟩)
  | (refine z0p.o hF zh8 (fun a h => Con.env rfl rfl (zmp h)) (fun a hF => ?_))
  | (refine YldX.oM (z3n 63 hF) [(100000, 100000), (200000, 33000001), (100001, 100001), (200001, 33000003)] [(100000, 100000), (250000, 64000001), (100001, 100001), (250001, 64000003)] _ _ _ z30 (fun _ => AV.bool true) [33000001, 33000003] (fun a h => hY h) rfl rfl rfl rfl rfl ⟨⟨rfl, rfl⟩, ⟨⟨rfl, rfl⟩, ⟨⟨rfl, rfl⟩, ⟨⟨rfl, rfl⟩, trivial⟩⟩⟩⟩ (fun a => ⟨rfl, rfl, rfl, rfl, rfl, rfl, rfl, rfl⟩) (fun a hF => ?_))
  | (exact ⟨_, hF, LeX.of [(33000001, 64000001), (33000003, 64000003)] rfl ⟨⟨rfl, rfl⟩, ⟨rfl, rfl⟩, ⟨rfl, rfl⟩, ⟨rfl, rfl⟩, ⟨rfl, rfl⟩, ⟨rfl, rfl⟩, ⟨rfl, rfl⟩, ⟨rfl, rfl⟩, trivial⟩ ⟨⟨rfl, rfl⟩, ⟨rfl, rfl⟩, ⟨rfl, rfl⟩, ⟨rfl, rfl⟩, ⟨rfl, rfl⟩, ⟨rfl, rfl⟩, ⟨rfl, rfl⟩, ⟨rfl, rfl⟩, trivial⟩⟩)
  | (refine zgd hF (LeX.of [] rfl ⟨⟨rfl, rfl⟩, ⟨rfl, rfl⟩, ⟨rfl, rfl⟩, ⟨rfl, rfl⟩, ⟨rfl, rfl⟩, ⟨rfl, rfl⟩, ⟨rfl, rfl⟩, ⟨rfl, rfl⟩, trivial⟩ ⟨⟨rfl, rfl⟩, ⟨rfl, rfl⟩, ⟨rfl, rfl⟩, ⟨rfl, rfl⟩, ⟨rfl, rfl⟩, ⟨rfl, rfl⟩, ⟨rfl, rfl⟩, ⟨rfl, rfl⟩, trivial⟩) (fun m v hF => ?_); unfold z18 at hF)
  | (refine GX.o (res := z7g) (meF := z3l) hF ?_; exact GX.mk (zay yl_l yl_T _) (LeX.of [(250000, 200000), (250001, 200001)] rfl ⟨⟨rfl, rfl⟩, ⟨rfl, rfl⟩, ⟨rfl, rfl⟩, ⟨rfl, rfl⟩, trivial⟩ ⟨⟨rfl, rfl⟩, ⟨rfl, rfl⟩, ⟨rfl, rfl⟩, ⟨rfl, rfl⟩, ⟨rfl, rfl⟩, ⟨rfl, rfl⟩, ⟨rfl, rfl⟩, trivial⟩) rfl _ rfl (by repeat' first | exact Sub.nil _ | exact Sub.refl _ | refine Sub.agg ?_ | refine Sub.tup ?_ | refine Sub.fn ?_ | exact SubL.nil | refine SubL.cons ?_ ?_ | refine Sub.sl _ ?_ | exact SubE.nil | refine SubE.cons ?_ ?_) [100000, 100001] ⟨Or.inl ⟨0, 0, 8, _, _, _, _, _, _, rfl, rfl, rfl, rfl, rfl⟩, ⟨Or.inl ⟨0, 0, 9, _, _, _, _, _, _, rfl, rfl, rfl, rfl, rfl⟩, trivial⟩⟩ rfl)
  | (refine YldX.oM (z3n 63 hF) [(100000, 100000), (200000, 200000), (100001, 100001), (200001, 200001)] [(100000, 100000), (250000, 64000001), (100001, 100001), (250001, 64000003)] _ _ _ z30 (fun _ => AV.bool true) [200000, 200001] (fun a h => hY h) rfl rfl rfl rfl rfl ⟨⟨rfl, rfl⟩, ⟨⟨rfl, rfl⟩, ⟨⟨rfl, rfl⟩, ⟨⟨rfl, rfl⟩, trivial⟩⟩⟩⟩ (fun a => ⟨rfl, rfl, rfl, rfl, rfl, rfl, rfl, rfl⟩) (fun a hF => ?_))
  | (exact ⟨_, hF, LeX.of [(200000, 64000001), (200001, 64000003)] rfl ⟨⟨rfl, rfl⟩, ⟨rfl, rfl⟩, ⟨rfl, rfl⟩, ⟨rfl, rfl⟩, ⟨rfl, rfl⟩, ⟨rfl, rfl⟩, ⟨rfl, rfl⟩, ⟨rfl, rfl⟩, trivial⟩ ⟨⟨rfl, rfl⟩, ⟨rfl, rfl⟩, ⟨rfl, rfl⟩, ⟨rfl, rfl⟩, ⟨rfl, rfl⟩, ⟨rfl, rfl⟩, ⟨rfl, rfl⟩, ⟨rfl, rfl⟩, trivial⟩⟩)
  | (refine zgc hF (LeX.of [] rfl ⟨⟨rfl, rfl⟩, ⟨rfl, rfl⟩, ⟨rfl, rfl⟩, ⟨rfl, rfl⟩, ⟨rfl, rfl⟩, ⟨rfl, rfl⟩, ⟨rfl, rfl⟩, ⟨rfl, rfl⟩, trivial⟩ ⟨⟨rfl, rfl⟩, ⟨rfl, rfl⟩, ⟨rfl, rfl⟩, ⟨rfl, rfl⟩, ⟨rfl, rfl⟩, ⟨rfl, rfl⟩, ⟨rfl, rfl⟩, ⟨rfl, rfl⟩, trivial⟩) (fun m v hF => ?_); unfold z17 at hF)
  | (refine And.intro ⟨by kernel_rfl, by kernel_rfl⟩ ?_)
  | (refine EqX.mk (by first | rfl | kernel_rfl) ?_)
def zlx (r : Bool) : AV := .bool (r)
theorem zrh {n : Nat} {a0 : z03} {a1 : z03} {r : Bool} (hF : zbz n a0 a1 = some r) : Con E0 true 76 [.agg [.sl 4 (List.map z09 (a0.fBindings))], .agg [.sl 4 (List.map z09 (a1.fBindings))], .ref [.fn 43 []]] (zlx r) := by
 unfold zbz at hF
 refine Con.walk _ Tryz.func76 rfl (z06 Tryz.func76 rfl rfl) rfl (Or.inr rfl) ?_
 repeat' first
  | (refine AW.step ?_; conv => whnf)
  | (refine z0b.o hF (fun hF => ?_) (fun hF => ?_))
  | (refine z0b.t ?_)
  | (refine z0b.f ?_)
  | (refine z0p.o hF zjc (fun a h => zlr h) (fun a hF => ?_))
  | (refine And.intro ⟨by kernel_rfl, by kernel_rfl⟩ ?_)
  | (refine EqX.mk (by first | rfl | kernel_rfl) ?_)
  | (exact RetX.o hF (by repeat' first | exact Sub.nil _ | exact Sub.refl _ | refine Sub.agg ?_ | refine Sub.tup ?_ | refine Sub.fn ?_ | exact SubL.nil | refine SubL.cons ?_ ?_ | refine Sub.sl _ ?_ | exact SubE.nil | refine SubE.cons ?_ ?_))
def z4r (x46 : Nat) (v2_1 : Int × Int × (List z03)) : AS := ⟨[(0, .row 200000), (1, .fn 76 [.ref [.fn 43 []]]), (5, aI (v2_1.1)), (6, .der (.sub 1 (x46)) 200000), (7, aI (v2_1.2.1))], [(200000, .row 83 1 (List.map z0j (v2_1.2.2)))]⟩
theorem zi5 {n N : Nat} {x46 : Nat} {k2_1_0 : Int → (List z03) → Option ((List z03))} {R : Exit → AS → Prop} {K : List z16} {c : Code} {σ : AS} {v0 : Int × Int × (List z03)} {r : (List z03)} (hF : z20 n x46 k2_1_0 N v0 = some r) (hl : LeX (E0p 2) 66 σ (z4r x46 v0)) (round : ∀ m v, z20 n x46 k2_1_0 (m + 1) v = some r → AW (E0p 2) 66 (z0v (fun σ' => ∃ v', z20 n x46 k2_1_0 m v' = some r ∧ LeX (E0p 2) 66 σ' (z4r x46 v')) (AW (E0p 2) 66 R K)) [.code c] .normal (z4r x46 v)) : z5v (E0p 2) 66 (fun next σ' => AW (E0p 2) 66 (z0v next (AW (E0p 2) 66 R K)) [.code c] .normal σ') σ :=
 LoopA.o (S := z4r x46) hF (fun _ => rfl) hl round
def z4s (m0 : (List z03)) (v1_0 : Int) : AS := ⟨[(0, .row 200000), (1, .fn 76 [.ref [.fn 43 []]]), (5, aI (v1_0))], [(200000, .row 83 1 (List.map z0j (m0)))]⟩
theorem zi6 {n N : Nat} {m0 : (List z03)} {k1_0_0 : Option ((List z03))} {R : Exit → AS → Prop} {K : List z16} {c : Code} {σ : AS} {v0 : Int} {r : (List z03)} (hF : z2x n m0 k1_0_0 N v0 = some r) (hl : LeX (E0p 2) 66 σ (z4s m0 v0)) (round : ∀ m v, z2x n m0 k1_0_0 (m + 1) v = some r → AW (E0p 2) 66 (z0v (fun σ' => ∃ v', z2x n m0 k1_0_0 m v' = some r ∧ LeX (E0p 2) 66 σ' (z4s m0 v')) (AW (E0p 2) 66 R K)) [.code c] .normal (z4s m0 v)) : z5v (E0p 2) 66 (fun next σ' => AW (E0p 2) 66 (z0v next (AW (E0p 2) 66 R K)) [.code c] .normal σ') σ :=
 LoopA.o (S := z4s m0) hF (fun _ => rfl) hl round
def zl9 (m0 : (List z03)) : List (Nat × Ent) := [(200000, .row 83 1 (List.map z0j (m0)))]
def z3e (r : (List z03)) : List (Nat × Ent) := [(260000, .row 83 1 (List.map z0j (r)))]
def z4b (r : (List z03)) : AV := .row 260000
def zd1 (r : (List z03)) : AS := ⟨[(4, .row 260000)], z3e r⟩
theorem zb5 {n : Nat} {m0 : (List z03)} {r : (List z03)} (hF : z9a n m0 = some r) : ConG E0.P none (CalF E0.P 75 0) [.row 200000, .fn 76 [.ref [.fn 43 []]]] [] (zl9 m0) (z4b r) (z3e r) := by
 unfold z9a at hF
 refine ConG.walk (E := (E0p 2)) (caps := []) _ Tryz.func75 rfl rfl rfl rfl rfl ?_
 repeat' first
  | (refine AW.step ?_; conv => whnf)
  | (refine z0b.o hF (fun hF => ?_) (fun hF => ?_))
  | (refine z0b.t ?_)
  | (refine z0b.f ?_)
  | (refine GX.o (res := z4b) (meF := z3e) hF ?_; exact GX.mk (zd1 _) (LeX.of [(260000, 200000)] rfl ⟨⟨rfl, rfl⟩, trivial⟩ ⟨⟨rfl, rfl⟩, trivial⟩) rfl _ rfl (by repeat' first | exact Sub.nil _ | exact Sub.refl _ | refine Sub.agg ?_ | refine Sub.tup ?_ | refine Sub.fn ?_ | exact SubL.nil | refine SubL.cons ?_ ?_ | refine Sub.sl _ ?_ | exact SubE.nil | refine SubE.cons ?_ ?_) [] trivial rfl)
  | (refine NatX.o hF (fun m hF => ?_))
  | (refine EltX.o z0j hF (fun x hF => ?_))
  | (refine z0p.o hF zlx (fun a h => Con.env rfl rfl (zrh h)) (fun a hF => ?_))
  | (refine OpX.sub hF rfl rfl rfl rfl rfl rfl rfl rfl rfl rfl (fun m hF => ?_))
  | (refine OpX.clr z0j hF rfl rfl rfl rfl rfl rfl rfl rfl rfl rfl rfl (by first | exact SubL.refl _ | (repeat' first | exact SubL.nil | refine SubL.cons ?_ ?_ | exact Sub.refl _ | exact Sub.nil _ | refine Sub.agg ?_)) (fun l hF => ?_))
  | (refine SlsX.o z0j hF (fun l hF => ?_))
  | (refine GX.o (res := z4b) (meF := z3e) hF ?_; exact GX.mk (zd1 _) (LeX.of [(260000, 64)] rfl ⟨⟨rfl, rfl⟩, trivial⟩ ⟨⟨rfl, rfl⟩, trivial⟩) rfl _ rfl (by repeat' first | exact Sub.nil _ | exact Sub.refl _ | refine Sub.agg ?_ | refine Sub.tup ?_ | refine Sub.fn ?_ | exact SubL.nil | refine SubL.cons ?_ ?_ | refine Sub.sl _ ?_ | exact SubE.nil | refine SubE.cons ?_ ?_) [] trivial rfl)
  | (refine OpX.lns hF rfl rfl rfl rfl rfl rfl rfl (fun hF => ?_))
  | (refine OpX.ixs hF rfl rfl rfl rfl rfl rfl rfl rfl rfl rfl (fun m hF => ?_))
  | (refine SetX.o z0j hF (fun x => rfl) (fun x => (by first | exact SubL.refl _ | (repeat' first | exact SubL.nil | refine SubL.cons ?_ ?_ | exact Sub.refl _ | exact Sub.nil _ | refine Sub.agg ?_))) (fun l hF => ?_))
  | (exact ⟨_, hF, LeX.of [] rfl ⟨⟨rfl, rfl⟩, ⟨rfl, rfl⟩, ⟨rfl, rfl⟩, ⟨rfl, rfl⟩, ⟨rfl, rfl⟩, trivial⟩ ⟨⟨rfl, rfl⟩, trivial⟩⟩)
  | (refine zi5 hF (LeX.of [] rfl ⟨⟨rfl, rfl⟩, ⟨rfl, rfl⟩, ⟨rfl, rfl⟩, ⟨rfl, rfl⟩, ⟨rfl, rfl⟩, trivial⟩ ⟨⟨rfl, rfl⟩, trivial⟩) (fun m v hF => ?_); unfold z20 at hF)
  | (exact ⟨_, hF, LeX.of [] rfl ⟨⟨rfl, rfl⟩, ⟨rfl, rfl⟩, ⟨rfl, rfl⟩, trivial⟩ ⟨⟨rfl, rfl⟩, trivial⟩⟩)
  | (refine zi6 hF (LeX.of [] rfl ⟨⟨rfl, rfl⟩, ⟨rfl, rfl⟩, ⟨rfl, rfl⟩, trivial⟩ ⟨⟨rfl, rfl⟩, trivial⟩) (fun m v hF => ?_); unfold z2x at hF)
  | (refine And.intro ⟨by kernel_rfl, by kernel_rfl⟩ ?_)
  | (refine EqX.mk (by first | rfl | kernel_rfl) ?_)
def M_run_unique_s164 (m0 : (List z03)) : List (Nat × Ent) := [(200000, .row 83 1 (List.map z0j (m0)))]
def z5u (r : (List z03)) : List (Nat × Ent) := [(260000, .row 83 1 (List.map z0j (r)))]
def z7s (r : (List z03)) : AV := .row 260000
def Z_run_unique_s164 (r : (List z03)) : AS := ⟨[(4, .row 260000)], z5u r⟩
theorem za2 {n : Nat} {m0 : (List z03)} {r : (List z03)} (hF : zc0 n m0 = some r) : ConG E0.P none (CalF E0.P 42 0) [.row 200000, .fn 43 []] [] (M_run_unique_s164 m0) (z7s r) (z5u r) := by
 unfold zc0 at hF
 refine ConG.walk (E := (E0p 2)) (caps := []) _ Tryz.func42 rfl rfl rfl rfl rfl ?_
 repeat' first
  | (refine AW.frbO hF 3 rfl rfl (fun hF => ?_))
  | (refine AW.frb0 3 rfl rfl ?_)
  | (refine AW.regO hF (fun hF => ?_))
  | (refine AW.frzO hF 3 rfl (fun hF => ?_))
  | (refine AW.stepU [2] ?_; conv => whnf)
  | (refine z0b.o hF (fun hF => ?_) (fun hF => ?_))
  | (refine z0b.t ?_)
  | (refine z0b.f ?_)
  | (refine z9v.oI hF 200000 (fun r => r) z0j (fun _ => AV.tup []) rfl (fun a h => (ConC.env rfl (sortMa_con h))) rfl rfl rfl (fun a hF => ?_))
  | (refine AW.frbO hF 3 rfl rfl (fun hF => ?_))
  | (refine AW.frb0 3 rfl rfl ?_)
  | (refine z9v.oM (z3n 10 hF) [(200000, 200000)] [(260000, 11000000)] _ _ z3e z4b [200000] (fun a h => ConG.up (zb5 h)) (z06 Tryz.func75 rfl rfl) rfl rfl rfl ⟨⟨rfl, rfl⟩, trivial⟩ (fun a => ⟨rfl, rfl, rfl, rfl, rfl, rfl, rfl, rfl⟩) (fun a hF => ?_))
  | (refine z0p.oM (z3n 10 hF) [(200000, 200000)] [(260000, 11000000)] _ _ z3e z4b [200000] (fun a h => ConG.up (zb5 h)) (z06 Tryz.func75 rfl rfl) rfl rfl rfl ⟨⟨rfl, rfl⟩, trivial⟩ (fun a => ⟨rfl, rfl, rfl, rfl, rfl, rfl, rfl, rfl⟩) (fun a hF => ?_))
  | (refine GX.o (res := z7s) (meF := z5u) hF ?_; exact GX.mk (Z_run_unique_s164 _) (LeX.of [(260000, 11000000)] rfl ⟨⟨rfl, rfl⟩, trivial⟩ ⟨⟨rfl, rfl⟩, trivial⟩) rfl _ rfl (by repeat' first | exact Sub.nil _ | exact Sub.refl _ | refine Sub.agg ?_ | refine Sub.tup ?_ | refine Sub.fn ?_ | exact SubL.nil | refine SubL.cons ?_ ?_ | refine Sub.sl _ ?_ | exact SubE.nil | refine SubE.cons ?_ ?_) [] trivial rfl)
  | (refine And.intro ⟨by kernel_rfl, by kernel_rfl⟩ ?_)
  | (refine EqX.mk (by first | rfl | kernel_rfl) ?_)
def z6q (a2 : z02) (a1 : (List z00)) (a0 : z0h) (v1_0 : Int × (List z00) × (List z03)) : AS := ⟨[(0, .ref [aI (a0.fa.fVars), aI (a0.fa.fScopes), .sl 1 (List.map z0m (a0.fa.fStates)), .sl 17 (List.map z0n (a0.fa.fEdges)), .mapv (List.map (encM z43 z0a) (a0.fheld))]), (5, .ptr 5 0), (8, .ptr 8 0), (9, .ptr 9 0), (13, .sl 3 (List.map z08 (a1))), (14, aI ((((List.map z08 (a1)).length : Nat) : Int))), (15, aI (v1_0.1))], [(5, .box 66 [aI (a2.fSource), aI (a2.fSeq), aI (a2.fType), aI (a2.fTime), .sl 3 (List.map z0c (a2.fValues))]), (8, .box 29 [.row 811000001]), (9, .box 30 [.row 811000003]), (811000001, .row 77 3 (List.map z08 (v1_0.2.1))), (811000003, .row 83 1 (List.map z0j (v1_0.2.2)))]⟩
theorem zli {n N : Nat} {a2 : z02} {a1 : (List z00)} {a0 : z0h} {k1_0_0 : (List z00) → (List z03) → Option ((List z00) × (List z03))} {R : Exit → AS → Prop} {K : List z16} {c : Code} {σ : AS} {v0 : Int × (List z00) × (List z03)} {r : (List z00) × (List z03)} (hF : z3r n a2 a1 a0 k1_0_0 N v0 = some r) (hl : LeX E0r 42 σ (z6q a2 a1 a0 v0)) (round : ∀ m v, z3r n a2 a1 a0 k1_0_0 (m + 1) v = some r → AW E0r 42 (z0v (fun σ' => ∃ v', z3r n a2 a1 a0 k1_0_0 m v' = some r ∧ LeX E0r 42 σ' (z6q a2 a1 a0 v')) (AW E0r 42 R K)) [.code c] .normal (z6q a2 a1 a0 v)) : z5v E0r 42 (fun next σ' => AW E0r 42 (z0v next (AW E0r 42 R K)) [.code c] .normal σ') σ :=
 LoopA.o (S := z6q a2 a1 a0) hF (fun _ => rfl) hl round
def zh9 (r : (List z00) × (List z03)) : AV := .tup [.sl 3 (List.map z08 (r.1)), .sl 1 (List.map z0j (r.2))]
theorem zmq {n : Nat} {a0 : z0h} {a1 : (List z00)} {a2 : z02} {r : (List z00) × (List z03)} (hF : z93 n a0 a1 a2 = some r) : Con E0 false 41 [.ref [aI (a0.fa.fVars), aI (a0.fa.fScopes), .sl 1 (List.map z0m (a0.fa.fStates)), .sl 17 (List.map z0n (a0.fa.fEdges)), .mapv (List.map (encM z43 z0a) (a0.fheld))], .sl 3 (List.map z08 (a1)), .agg [aI (a2.fSource), aI (a2.fSeq), aI (a2.fType), aI (a2.fTime), .sl 3 (List.map z0c (a2.fValues))]] (zh9 r) := by
 unfold z93 at hF
 refine Con.walkM (E := E0r) _ Tryz.func41 rfl (z06 Tryz.func41 rfl rfl) rfl (Or.inl rfl) ?_ rfl rfl rfl
 repeat' first
  | (refine AW.step ?_; conv => whnf)
  | (refine z0b.o hF (fun hF => ?_) (fun hF => ?_))
  | (refine z0b.t ?_)
  | (refine z0b.f ?_)
  | (refine z9v.oM (z3n 39 hF) [(200000, 811000001)] [(260000, 40000000)] _ _ zbe ze1 [811000001] (fun a h => ConG.up (zgo h)) (z06 Tryz.func58 rfl rfl) rfl rfl rfl ⟨⟨rfl, rfl⟩, trivial⟩ (fun a => ⟨rfl, rfl, rfl, rfl, rfl, rfl, rfl, rfl⟩) (fun a hF => ?_))
  | (refine z0p.oM (z3n 39 hF) [(200000, 811000001)] [(260000, 40000000)] _ _ zbe ze1 [811000001] (fun a h => ConG.up (zgo h)) (z06 Tryz.func58 rfl rfl) rfl rfl rfl ⟨⟨rfl, rfl⟩, trivial⟩ (fun a => ⟨rfl, rfl, rfl, rfl, rfl, rfl, rfl, rfl⟩) (fun a hF => ?_))
  | (refine z9v.oM (z3n 41 hF) [(200000, 811000003)] [(260000, 42000000)] _ _ z5u z7s [811000003] (fun a h => ConG.up (za2 h)) (z06 Tryz.func42 rfl rfl) rfl rfl rfl ⟨⟨rfl, rfl⟩, trivial⟩ (fun a => ⟨rfl, rfl, rfl, rfl, rfl, rfl, rfl, rfl⟩) (fun a hF => ?_))
  | (refine z0p.oM (z3n 41 hF) [(200000, 811000003)] [(260000, 42000000)] _ _ z5u z7s [811000003] (fun a h => ConG.up (za2 h)) (z06 Tryz.func42 rfl rfl) rfl rfl rfl ⟨⟨rfl, rfl⟩, trivial⟩ (fun a => ⟨rfl, rfl, rfl, rfl, rfl, rfl, rfl, rfl⟩) (fun a hF => ?_))
  | (refine IdxX.o z08 hF (fun x hF => ?_))
  | (refine z9v.oM (z3n 22 hF) [] [(3, 23000000), (4, 23000001), (5, 23000002)] _ _ z6e z8u [] (fun a h => ConG.up (zel h)) (z06 Tryz.func73 rfl rfl) rfl rfl rfl trivial (fun a => ⟨rfl, rfl, rfl, rfl, rfl, rfl, rfl, rfl⟩) (fun a hF => ?_))
  | (refine z0p.oM (z3n 22 hF) [] [(3, 23000000), (4, 23000001), (5, 23000002)] _ _ z6e z8u [] (fun a h => ConG.up (zel h)) (z06 Tryz.func73 rfl rfl) rfl rfl rfl trivial (fun a => ⟨rfl, rfl, rfl, rfl, rfl, rfl, rfl, rfl⟩) (fun a hF => ?_))
  | (refine AppX.o z0j hF (by first | exact SubR.refl _ | (repeat' first | exact SubR.nil | refine SubR.cons ?_ ?_ | exact SubL.nil | refine SubL.cons ?_ ?_ | exact Sub.refl _ | exact Sub.nil _)) (fun l hF => ?_))
  | (refine BX.o (meF := z30) hF ?_; exact BX.mk (zdz _) (LeX.of [(250000, 200000), (250001, 32)] rfl ⟨⟨rfl, rfl⟩, ⟨rfl, rfl⟩, trivial⟩ ⟨⟨rfl, rfl⟩, ⟨rfl, rfl⟩, ⟨rfl, rfl⟩, ⟨rfl, rfl⟩, trivial⟩) rfl rfl)
  | (refine AppX.o z08 hF (by first | exact SubR.refl _ | (repeat' first | exact SubR.nil | refine SubR.cons ?_ ?_ | exact SubL.nil | refine SubL.cons ?_ ?_ | exact Sub.refl _ | exact Sub.nil _)) (fun l hF => ?_))
  | (refine BX.o (meF := z30) hF ?_; exact BX.mk (zdz _) (LeX.of [(250000, 36), (250001, 200001)] rfl ⟨⟨rfl, rfl⟩, ⟨rfl, rfl⟩, trivial⟩ ⟨⟨rfl, rfl⟩, ⟨rfl, rfl⟩, ⟨rfl, rfl⟩, ⟨rfl, rfl⟩, trivial⟩) rfl rfl)
  | (refine RngX.oM (z3n 810 hF) [(100000, 8), (100001, 9), (100002, 23000000), (100003, 23000001), (100004, 23000002), (200000, 811000001), (200001, 811000003)] [(100000, 8), (250000, 811500001), (100001, 9), (250001, 811500003), (100002, 23000000), (100003, 23000001), (100004, 23000002)] _ _ _ z3l [811000001, 811000003] (fun x h l D fn T hT => zgx h l _ T (fun hF => ConG.round (E := E0p 10) rfl rfl rfl rfl rfl rfl ?_ l D fn T hT)) (z06 Tryz.func105 rfl rfl) rfl rfl rfl rfl rfl ⟨⟨rfl, rfl⟩, ⟨⟨rfl, rfl⟩, trivial⟩⟩ ⟨⟨rfl, rfl⟩, ⟨⟨rfl, rfl⟩, ⟨⟨rfl, rfl⟩, ⟨⟨rfl, rfl⟩, ⟨⟨rfl, rfl⟩, ⟨⟨rfl, rfl⟩, ⟨⟨rfl, rfl⟩, trivial⟩⟩⟩⟩⟩⟩⟩ (fun a => ⟨rfl, rfl, rfl, rfl, rfl, rfl, rfl, rfl⟩) (fun a hF => ?_))
  | (exact ⟨_, hF, LeX.of [(811000001, 811500001), (811000003, 811500003)] rfl ⟨⟨rfl, rfl⟩, ⟨rfl, rfl⟩, ⟨rfl, rfl⟩, ⟨rfl, rfl⟩, ⟨rfl, rfl⟩, ⟨rfl, rfl⟩, ⟨rfl, rfl⟩, trivial⟩ ⟨⟨rfl, rfl⟩, ⟨rfl, rfl⟩, ⟨rfl, rfl⟩, ⟨rfl, rfl⟩, ⟨rfl, rfl⟩, trivial⟩⟩)
  | (refine zli hF (LeX.trans (LeX.adoptC 8 0 811000001 77 3 29 _ rfl rfl rfl) (LeX.trans (LeX.adoptC 9 0 811000003 83 1 30 _ rfl rfl rfl) (LeX.of [] rfl ⟨⟨rfl, rfl⟩, ⟨rfl, rfl⟩, ⟨rfl, rfl⟩, ⟨rfl, rfl⟩, ⟨rfl, rfl⟩, ⟨rfl, rfl⟩, ⟨rfl, rfl⟩, trivial⟩ ⟨⟨rfl, rfl⟩, ⟨rfl, rfl⟩, ⟨rfl, rfl⟩, ⟨rfl, rfl⟩, ⟨rfl, rfl⟩, trivial⟩))) (fun m v hF => ?_); unfold z3r at hF)
  | (refine And.intro ⟨by kernel_rfl, by kernel_rfl⟩ ?_)
  | (refine EqX.mk (by first | rfl | kernel_rfl) ?_)
  | (exact RetX.o hF (by repeat' first | exact Sub.nil _ | exact Sub.refl _ | refine Sub.agg ?_ | refine Sub.tup ?_ | refine Sub.fn ?_ | exact SubL.nil | refine SubL.cons ?_ ?_ | refine Sub.sl _ ?_ | exact SubE.nil | refine SubE.cons ?_ ?_))
def zp3 (a1 : (List z02)) (x2 : z0h) (v2_1 : (List z00) × Int × (List z03)) (cv2_1 : (List z00) × Int × (List z03) → Option ((List z00) × (List z03) × Int)) (x49 : (List z00) × (List z03)) (w3_2 : Bool) : AS := ⟨[(7, .ref [aI (x2.fa.fVars), aI (x2.fa.fScopes), .sl 1 (List.map z0m (x2.fa.fStates)), .sl 17 (List.map z0n (x2.fa.fEdges)), .mapv (List.map (encM z43 z0a) (x2.fheld))]), (10, .row 7058), (13, .sl 3 (List.map z08 (x49.1))), (14, .sl 1 (List.map z0j (x49.2))), (26, .sl 5 (List.map z0a (a1))), (27, aI ((((List.map z0a (a1)).length : Nat) : Int))), (28, aI (v2_1.2.1)), (54, .bool (w3_2))], [(7058, .row 83 1 (List.map z0j (v2_1.2.2)))]⟩
theorem run_Run_j3_o {n : Nat} {a1 : (List z02)} {x2 : z0h} {v2_1 : (List z00) × Int × (List z03)} {cv2_1 : (List z00) × Int × (List z03) → Option ((List z00) × (List z03) × Int)} {x49 : (List z00) × (List z03)} {R : Exit → AS → Prop} {K : List z16} {i : Nat} {os : Array Oper} {d : Bool} {C : Code} {σ : AS} {x : Option ((List z00) × (List z03) × Int)} {r : (List z00) × (List z03) × Int} (hF : jon (z7q n a1 x2 v2_1 cv2_1 x49) x = some r) (h1 : x = some r → AW E0 63 (z0v (fun σ' => ∃ v', z7q n a1 x2 v2_1 cv2_1 x49 v' = some r ∧ LeX E0 63 σ' (zp3 a1 x2 v2_1 cv2_1 x49 v')) (AW E0 63 R (.code C :: K))) [.code (.region i os d)] .normal σ) (h2 : ∀ v, z7q n a1 x2 v2_1 cv2_1 x49 v = some r → AW E0 63 R (.code C :: K) .normal (zp3 a1 x2 v2_1 cv2_1 x49 v)) : AW E0 63 R (.code (.region i os d) :: .code C :: K) .normal σ :=
 AW.joinO1 (S := zp3 a1 x2 v2_1 cv2_1 x49) hF h1 h2
def zka (a1 : (List z02)) (x2 : z0h) (v2_1 : (List z00) × Int × (List z03)) : AS := ⟨[(7, .ref [aI (x2.fa.fVars), aI (x2.fa.fScopes), .sl 1 (List.map z0m (x2.fa.fStates)), .sl 17 (List.map z0n (x2.fa.fEdges)), .mapv (List.map (encM z43 z0a) (x2.fheld))]), (9, .sl 3 (List.map z08 (v2_1.1))), (10, .row 7058), (26, .sl 5 (List.map z0a (a1))), (27, aI ((((List.map z0a (a1)).length : Nat) : Int))), (28, aI (v2_1.2.1))], [(7058, .row 83 1 (List.map z0j (v2_1.2.2)))]⟩
theorem run_Run_l2_o {n N : Nat} {a1 : (List z02)} {x2 : z0h} {k2_1_0 : (List z00) → (List z03) → Option ((List z00) × (List z03) × Int)} {R : Exit → AS → Prop} {K : List z16} {c : Code} {σ : AS} {v0 : (List z00) × Int × (List z03)} {r : (List z00) × (List z03) × Int} (hF : z94 n a1 x2 k2_1_0 N v0 = some r) (hl : LeX E0 63 σ (zka a1 x2 v0)) (round : ∀ m v, z94 n a1 x2 k2_1_0 (m + 1) v = some r → AW E0 63 (z0v (fun σ' => ∃ v', z94 n a1 x2 k2_1_0 m v' = some r ∧ LeX E0 63 σ' (zka a1 x2 v')) (AW E0 63 R K)) [.code c] .normal (zka a1 x2 v)) : z5v E0 63 (fun next σ' => AW E0 63 (z0v next (AW E0 63 R K)) [.code c] .normal σ') σ :=
 LoopA.o (S := zka a1 x2) hF (fun _ => rfl) hl round
def R_run_Run (r : (List z00) × (List z03) × Int) : AV := .tup [.sl 3 (List.map z08 (r.1)), .sl 1 (List.map z0j (r.2.1)), aI (r.2.2)]
theorem con_run_Run {n : Nat} {a0 : z05} {a1 : (List z02)} {r : (List z00) × (List z03) × Int} (hF : zhj n a0 a1 = some r) : Con E0 false 9 [.agg [aI (a0.fVars), aI (a0.fScopes), .sl 1 (List.map z0m (a0.fStates)), .sl 17 (List.map z0n (a0.fEdges))], .sl 5 (List.map z0a (a1))] (R_run_Run r) := by
 unfold zhj at hF
 refine Con.walk _ Tryz.func9 rfl (z06 Tryz.func9 rfl rfl) rfl (Or.inl rfl) ?_
 repeat' first
  | (refine run_Run_j3_o hF (fun hF => ?_) (fun v hF => ?_); rotate_left; unfold z7q at hF)
  | (refine AW.regO hF (fun hF => ?_))
  | (refine AW.stepU [10] ?_; conv => whnf)
  | (refine z0b.o hF (fun hF => ?_) (fun hF => ?_))
  | (refine z0b.t ?_)
  | (refine z0b.f ?_)
  | (refine z0p.oP hF zmu (fun u => .tup [.nilp, aI (u.2)]) (fun u y => .tup [.ref [aI (y.fa.fVars), aI (y.fa.fScopes), .sl 1 (List.map z0m (y.fa.fStates)), .sl 17 (List.map z0n (y.fa.fEdges)), .mapv (List.map (encM z43 z0a) (y.fheld))], aI (u.2)]) (fun u h => by simp only [zmu, h, zmh]) (fun u y h => by simp only [zmu, h, zmh]) (fun a h => con_run_begin h) (fun a hF => ?_) (fun a y hF => ?_))
  | (refine z0p.o hF R_run_Begin (fun a h => con_run_Begin h) (fun a hF => ?_))
  | (cases hF; done)
  | (refine z9v.oM (z3n 62 hF) [(200000, 7058)] [(260000, 63000000)] _ _ z5u z7s [7058] (fun a h => ConG.up (za2 h)) (z06 Tryz.func42 rfl rfl) rfl rfl rfl ⟨⟨rfl, rfl⟩, trivial⟩ (fun a => ⟨rfl, rfl, rfl, rfl, rfl, rfl, rfl, rfl⟩) (fun a hF => ?_))
  | (refine z0p.oM (z3n 62 hF) [(200000, 7058)] [(260000, 63000000)] _ _ z5u z7s [7058] (fun a h => ConG.up (za2 h)) (z06 Tryz.func42 rfl rfl) rfl rfl rfl ⟨⟨rfl, rfl⟩, trivial⟩ (fun a => ⟨rfl, rfl, rfl, rfl, rfl, rfl, rfl, rfl⟩) (fun a hF => ?_))
  | (refine IdxX.o z0a hF (fun x hF => ?_))
  | (refine z0p.o hF zh9 (fun a h => zmq h) (fun a hF => ?_))
  | (refine AppX.o z0j hF (by first | exact SubR.refl _ | (repeat' first | exact SubR.nil | refine SubR.cons ?_ ?_ | exact SubL.nil | refine SubL.cons ?_ ?_ | exact Sub.refl _ | exact Sub.nil _)) (fun l hF => ?_))
  | (exact ⟨_, hF, LeX.of [(7058, 58)] rfl ⟨⟨rfl, rfl⟩, ⟨rfl, rfl⟩, ⟨rfl, rfl⟩, ⟨rfl, rfl⟩, ⟨rfl, rfl⟩, ⟨rfl, rfl⟩, trivial⟩ ⟨⟨rfl, rfl⟩, trivial⟩⟩)
  | (refine run_Run_j3_o hF (fun hF => ?_) (fun v hF => ?_); rotate_left; unfold z7q at hF)
  | (exact ⟨_, hF, LeX.of [] rfl ⟨⟨rfl, rfl⟩, ⟨rfl, rfl⟩, ⟨rfl, rfl⟩, ⟨rfl, rfl⟩, ⟨rfl, rfl⟩, ⟨rfl, rfl⟩, ⟨rfl, rfl⟩, ⟨rfl, rfl⟩, trivial⟩ ⟨⟨rfl, rfl⟩, trivial⟩⟩)
  | (refine run_Run_l2_o hF (LeX.trans (LeX.adopt 10 7058 83 1 rfl rfl) (LeX.of [] rfl ⟨⟨rfl, rfl⟩, ⟨rfl, rfl⟩, ⟨rfl, rfl⟩, ⟨rfl, rfl⟩, ⟨rfl, rfl⟩, ⟨rfl, rfl⟩, trivial⟩ ⟨⟨rfl, rfl⟩, trivial⟩)) (fun m v hF => ?_); unfold z94 at hF)
  | (refine And.intro ⟨by kernel_rfl, by kernel_rfl⟩ ?_)
  | (refine EqX.mk (by first | rfl | kernel_rfl) ?_)
  | (exact RetX.o hF (by repeat' first | exact Sub.nil _ | exact Sub.refl _ | refine Sub.agg ?_ | refine Sub.tup ?_ | refine Sub.fn ?_ | exact SubL.nil | refine SubL.cons ?_ ?_ | refine Sub.sl _ ?_ | exact SubE.nil | refine SubE.cons ?_ ?_))
def zid : List (Nat × Ent) := []
def z1z (r : z05) : List (Nat × Ent) := [(261002, .row 56 1 (List.map z0m (r.fStates))), (261003, .row 51 17 (List.map z0n (r.fEdges))), (0, .box 25 [aI (r.fVars), aI (r.fScopes), .row 261002, .row 261003])]
def z2w (r : z05) : AV := .agg [aI (r.fVars), aI (r.fScopes), .row 261002, .row 261003]
def zia (r : z05) : AS := ⟨[(0, .ptr 0 0)], z1z r⟩
theorem z47 {n : Nat} {r : z05} (hF : z4v n = some r) : ConG E0.P none (CalF E0.P 37 0) [] [] (zid) (z2w r) (z1z r) := by
 unfold z4v at hF
 refine ConG.walk (E := (E0q 0)) (caps := []) _ Tryz.func37 rfl rfl rfl rfl rfl ?_
 repeat' first
  | (refine AW.step ?_; conv => whnf)
  | (refine z0b.o hF (fun hF => ?_) (fun hF => ?_))
  | (refine z0b.t ?_)
  | (refine z0b.f ?_)
  | (refine z0p.o hF zcq (fun a h => Con.env rfl rfl (zfu h)) (fun a hF => ?_))
  | (refine MakX.o z0m hF (by first | exact SubL.refl _ | (repeat' first | exact SubL.nil | refine SubL.cons ?_ ?_ | exact Sub.refl _ | exact Sub.nil _ | refine Sub.agg ?_)) (fun l hF => ?_))
  | (refine OpX.bldR z0n hF rfl rfl rfl rfl rfl rfl rfl rfl rfl rfl rfl rfl rfl rfl rfl rfl (by first | exact SubR.refl _ | (repeat' first | exact SubR.nil | refine SubR.cons ?_ ?_ | exact SubL.nil | refine SubL.cons ?_ ?_ | exact Sub.refl _ | exact Sub.nil _)) rfl (fun l hF => ?_))
  | (refine OpX.bld z0n hF rfl rfl rfl rfl rfl rfl rfl rfl rfl rfl rfl rfl rfl rfl rfl rfl (fun l hF => ?_))
  | (refine GX.o (res := z2w) (meF := z1z) hF ?_; exact GX.mk (zia _) (LeX.of [(261002, 4), (261003, 9)] rfl ⟨⟨rfl, rfl⟩, trivial⟩ ⟨⟨rfl, rfl⟩, ⟨rfl, rfl⟩, ⟨rfl, rfl⟩, trivial⟩) rfl _ rfl (by repeat' first | exact Sub.nil _ | exact Sub.refl _ | refine Sub.agg ?_ | refine Sub.tup ?_ | refine Sub.fn ?_ | exact SubL.nil | refine SubL.cons ?_ ?_ | refine Sub.sl _ ?_ | exact SubE.nil | refine SubE.cons ?_ ?_) [] trivial rfl)
  | (refine And.intro ⟨by kernel_rfl, by kernel_rfl⟩ ?_)
  | (refine EqX.mk (by first | rfl | kernel_rfl) ?_)
def zsu (r : (List z03) × Int) : AV := .tup [.sl 1 (List.map z0j (r.1)), aI (r.2)]
theorem con_run_Matches {n : Nat} {a0 : z05} {a1 : (List z02)} {r : (List z03) × Int} (hF : zii n a0 a1 = some r) : Con E0 false 11 [.agg [aI (a0.fVars), aI (a0.fScopes), .sl 1 (List.map z0m (a0.fStates)), .sl 17 (List.map z0n (a0.fEdges))], .sl 5 (List.map z0a (a1))] (zsu r) := by
 unfold zii at hF
 refine Con.walk _ Tryz.func11 rfl (z06 Tryz.func11 rfl rfl) rfl (Or.inl rfl) ?_
 repeat' first
  | (refine AW.step ?_; conv => whnf)
  | (refine z0b.o hF (fun hF => ?_) (fun hF => ?_))
  | (refine z0b.t ?_)
  | (refine z0b.f ?_)
  | (refine z0p.o hF R_run_Run (fun a h => con_run_Run h) (fun a hF => ?_))
  | (refine And.intro ⟨by kernel_rfl, by kernel_rfl⟩ ?_)
  | (refine EqX.mk (by first | rfl | kernel_rfl) ?_)
  | (exact RetX.o hF (by repeat' first | exact Sub.nil _ | exact Sub.refl _ | refine Sub.agg ?_ | refine Sub.tup ?_ | refine Sub.fn ?_ | exact SubL.nil | refine SubL.cons ?_ ?_ | refine Sub.sl _ ?_ | exact SubE.nil | refine SubE.cons ?_ ?_))
def zja (r : z0q) : AV := .agg [aI (r.fTime), aI (r.fSource), aI (r.fSeq)]
theorem zof {n : Nat} {a0 : z02} {r : z0q} (hF : z1t n a0 = some r) : Con E0 true 50 [.agg [aI (a0.fSource), aI (a0.fSeq), aI (a0.fType), aI (a0.fTime), .sl 3 (List.map z0c (a0.fValues))]] (zja r) := by
 unfold z1t at hF
 refine Con.walk _ Tryz.func50 rfl (z06 Tryz.func50 rfl rfl) rfl (Or.inr rfl) ?_
 repeat' first
  | (refine AW.step ?_; conv => whnf)
  | (refine z0b.o hF (fun hF => ?_) (fun hF => ?_))
  | (refine z0b.t ?_)
  | (refine z0b.f ?_)
  | (refine And.intro ⟨by kernel_rfl, by kernel_rfl⟩ ?_)
  | (refine EqX.mk (by first | rfl | kernel_rfl) ?_)
  | (exact RetX.o hF (by repeat' first | exact Sub.nil _ | exact Sub.refl _ | refine Sub.agg ?_ | refine Sub.tup ?_ | refine Sub.fn ?_ | exact SubL.nil | refine SubL.cons ?_ ?_ | refine Sub.sl _ ?_ | exact SubE.nil | refine SubE.cons ?_ ?_))
def zhz (r : z03) : AV := .agg [.sl 4 (List.map z09 (r.fBindings))]
theorem znj {n : Nat} {a0 : Int} {a1 : Int} {r : z03} (hF : z44 n a0 a1 = some r) : Con E0 false 38 [aI (a0), aI (a1)] (zhz r) := by
 unfold z44 at hF
 refine Con.walk _ Tryz.func38 rfl (z06 Tryz.func38 rfl rfl) rfl (Or.inl rfl) ?_
 repeat' first
  | (refine AW.step ?_; conv => whnf)
  | (refine z0b.o hF (fun hF => ?_) (fun hF => ?_))
  | (refine z0b.t ?_)
  | (refine z0b.f ?_)
  | (refine z0p.o hF zbb (fun a h => zek h) (fun a hF => ?_))
  | (refine z0p.o hF zja (fun a h => zof h) (fun a hF => ?_))
  | (refine And.intro ⟨by kernel_rfl, by kernel_rfl⟩ ?_)
  | (refine EqX.mk (by first | rfl | kernel_rfl) ?_)
  | (exact RetX.o hF (by repeat' first | exact Sub.nil _ | exact Sub.refl _ | refine Sub.agg ?_ | refine Sub.tup ?_ | refine Sub.fn ?_ | exact SubL.nil | refine SubL.cons ?_ ?_ | refine Sub.sl _ ?_ | exact SubE.nil | refine SubE.cons ?_ ?_))
def z7c (a1 : (List z03)) (a0 : (List z03)) (v1_0 : Int) : AS := ⟨[(0, .sl 1 (List.map z0j (a0))), (1, .sl 1 (List.map z0j (a1))), (5, aI (v1_0))], []⟩
theorem zmc {n N : Nat} {a1 : (List z03)} {a0 : (List z03)} {k1_0_0 : Option (Bool)} {R : Exit → AS → Prop} {K : List z16} {c : Code} {σ : AS} {v0 : Int} {r : Bool} (hF : z3z n a1 a0 k1_0_0 N v0 = some r) (hl : LeX E0 27 σ (z7c a1 a0 v0)) (round : ∀ m v, z3z n a1 a0 k1_0_0 (m + 1) v = some r → AW E0 27 (z0v (fun σ' => ∃ v', z3z n a1 a0 k1_0_0 m v' = some r ∧ LeX E0 27 σ' (z7c a1 a0 v')) (AW E0 27 R K)) [.code c] .normal (z7c a1 a0 v)) : z5v E0 27 (fun next σ' => AW E0 27 (z0v next (AW E0 27 R K)) [.code c] .normal σ') σ :=
 LoopA.o (S := z7c a1 a0) hF (fun _ => rfl) hl round
def zhy (r : Bool) : AV := .bool (r)
theorem zni {n : Nat} {a0 : (List z03)} {a1 : (List z03)} {r : Bool} (hF : z5b n a0 a1 = some r) : Con E0 true 13 [.sl 1 (List.map z0j (a0)), .sl 1 (List.map z0j (a1))] (zhy r) := by
 unfold z5b at hF
 refine Con.walk _ Tryz.func13 rfl (z06 Tryz.func13 rfl rfl) rfl (Or.inr rfl) ?_
 repeat' first
  | (refine AW.step ?_; conv => whnf)
  | (refine z0b.o hF (fun hF => ?_) (fun hF => ?_))
  | (refine z0b.t ?_)
  | (refine z0b.f ?_)
  | (refine IdxX.o z0j hF (fun x hF => ?_))
  | (refine z0p.o hF za7 (fun a h => zd0 h) (fun a hF => ?_))
  | (exact ⟨_, hF, LeX.of [] rfl ⟨⟨rfl, rfl⟩, ⟨rfl, rfl⟩, ⟨rfl, rfl⟩, trivial⟩ trivial⟩)
  | (refine zmc hF (LeX.of [] rfl ⟨⟨rfl, rfl⟩, ⟨rfl, rfl⟩, ⟨rfl, rfl⟩, trivial⟩ trivial) (fun m v hF => ?_); unfold z3z at hF)
  | (refine And.intro ⟨by kernel_rfl, by kernel_rfl⟩ ?_)
  | (refine EqX.mk (by first | rfl | kernel_rfl) ?_)
  | (exact RetX.o hF (by repeat' first | exact Sub.nil _ | exact Sub.refl _ | refine Sub.agg ?_ | refine Sub.tup ?_ | refine Sub.fn ?_ | exact SubL.nil | refine SubL.cons ?_ ?_ | refine Sub.sl _ ?_ | exact SubE.nil | refine SubE.cons ?_ ?_))
def z9j (w2_1 : Bool) : AS := ⟨[(0, .bool (w2_1))], []⟩
theorem zdw {n : Nat} {R : Exit → AS → Prop} {K : List z16} {i : Nat} {os : Array Oper} {d : Bool} {C : Code} {σ : AS} {x : Option (Bool)} {r : Bool} (hF : jon (z1m n) x = some r) (h1 : x = some r → AW E0 108 (z0v (fun σ' => ∃ v', z1m n v' = some r ∧ LeX E0 108 σ' (z9j v')) (AW E0 108 R (.code C :: K))) [.code (.region i os d)] .normal σ) (h2 : ∀ v, z1m n v = some r → AW E0 108 R (.code C :: K) .normal (z9j v)) : AW E0 108 R (.code (.region i os d) :: .code C :: K) .normal σ :=
 AW.joinO1 (S := z9j) hF h1 h2
def z9k (x5 : (List z00) × (List z03) × Int) (x23 : (List z03) × Int) (w1_0 : Bool) : AS := ⟨[(3, .sl 1 (List.map z0j (x5.2.1))), (9, .sl 1 (List.map z0j (x23.1))), (94, .bool (w1_0))], []⟩
end Go.Proofs.YtjpknpjjcddnnaaGreat
namespace Go.Proofs.YtjpknpjjcddnnaaGreat
open Go.RowKit
theorem zdx {n : Nat} {x5 : (List z00) × (List z03) × Int} {x23 : (List z03) × Int} {R : Exit → AS → Prop} {K : List z16} {i : Nat} {os : Array Oper} {d : Bool} {C : Code} {σ : AS} {x : Option (Bool)} {r : Bool} (hF : jon (z0w n x5 x23) x = some r) (h1 : x = some r → AW E0 108 (z0v (fun σ' => ∃ v', z0w n x5 x23 v' = some r ∧ LeX E0 108 σ' (z9k x5 x23 v')) (AW E0 108 R (.code C :: K))) [.code (.region i os d)] .normal σ) (h2 : ∀ v, z0w n x5 x23 v = some r → AW E0 108 R (.code C :: K) .normal (z9k x5 x23 v)) : AW E0 108 R (.code (.region i os d) :: .code C :: K) .normal σ :=
 AW.joinO1 (S := z9k x5 x23) hF h1 h2
def zh6 (r : Bool) : AV := .bool (r)
theorem zmn {n : Nat} {r : Bool} (hF : z1j n = some r) : Con E0 true 8 [] (zh6 r) := by
 unfold z1j at hF
 refine Con.walk _ Tryz.func8 rfl (z06 Tryz.func8 rfl rfl) rfl (Or.inr rfl) ?_
 repeat' first
  | (refine zdw hF (fun hF => ?_) (fun v hF => ?_); rotate_left; unfold z1m at hF)
  | (refine zdx hF (fun hF => ?_) (fun v hF => ?_); rotate_left; unfold z0w at hF)
  | (refine AW.regO hF (fun hF => ?_))
  | (refine AW.frzO hF 23000000 rfl (fun hF => ?_))
  | (refine AW.frzO hF 23000001 rfl (fun hF => ?_))
  | (refine AW.frzO hF 44000000 rfl (fun hF => ?_))
  | (refine AW.frzO hF 44000001 rfl (fun hF => ?_))
  | (refine AW.stepU [5, 8, 9, 11] ?_; conv => whnf)
  | (refine z0b.o hF (fun hF => ?_) (fun hF => ?_))
  | (refine z0b.t ?_)
  | (refine z0b.f ?_)
  | (refine z0p.o hF zbb (fun a h => zek h) (fun a hF => ?_))
  | (refine z0p.o hF zez (fun a h => zks h) (fun a hF => ?_))
  | (refine z0p.o hF R_run_Run (fun a h => con_run_Run h) (fun a hF => ?_))
  | (refine z9v.oM (z3n 22 hF) [] [(261002, 23000000), (261003, 23000001), (0, 23000002)] _ _ z1z z2w [] (fun a h => ConG.up (z47 h)) (z06 Tryz.func37 rfl rfl) rfl rfl rfl trivial (fun a => ⟨rfl, rfl, rfl, rfl, rfl, rfl, rfl, rfl⟩) (fun a hF => ?_))
  | (refine z0p.oM (z3n 22 hF) [] [(261002, 23000000), (261003, 23000001), (0, 23000002)] _ _ z1z z2w [] (fun a h => ConG.up (z47 h)) (z06 Tryz.func37 rfl rfl) rfl rfl rfl trivial (fun a => ⟨rfl, rfl, rfl, rfl, rfl, rfl, rfl, rfl⟩) (fun a hF => ?_))
  | (refine NatX.o hF (fun m hF => ?_))
  | (refine LtX.o hF (fun hF => ?_))
  | (refine EltX.o z0n hF (fun x hF => ?_))
  | (refine SetX.o z0m hF (fun x => rfl) (fun x => (by first | exact SubL.refl _ | (repeat' first | exact SubL.nil | refine SubL.cons ?_ ?_ | exact Sub.refl _ | exact Sub.nil _ | refine Sub.agg ?_))) (fun l hF => ?_))
  | (refine z0p.o hF zsu (fun a h => con_run_Matches h) (fun a hF => ?_))
  | (refine z9v.oM (z3n 43 hF) [] [(261002, 44000000), (261003, 44000001), (0, 44000002)] _ _ z1z z2w [] (fun a h => ConG.up (z47 h)) (z06 Tryz.func37 rfl rfl) rfl rfl rfl trivial (fun a => ⟨rfl, rfl, rfl, rfl, rfl, rfl, rfl, rfl⟩) (fun a hF => ?_))
  | (refine z0p.oM (z3n 43 hF) [] [(261002, 44000000), (261003, 44000001), (0, 44000002)] _ _ z1z z2w [] (fun a h => ConG.up (z47 h)) (z06 Tryz.func37 rfl rfl) rfl rfl rfl trivial (fun a => ⟨rfl, rfl, rfl, rfl, rfl, rfl, rfl, rfl⟩) (fun a hF => ?_))
  | (refine SetX.o z0n hF (fun x => rfl) (fun x => (by first | exact SubL.refl _ | (repeat' first | exact SubL.nil | refine SubL.cons ?_ ?_ | exact Sub.refl _ | exact Sub.nil _ | refine Sub.agg ?_))) (fun l hF => ?_))
  | (refine zdw hF (fun hF => ?_) (fun v hF => ?_); rotate_left; unfold z1m at hF)
  | (refine z0p.o hF zhz (fun a h => znj h) (fun a hF => ?_))
  | (refine z0p.o hF zhy (fun a h => zni h) (fun a hF => ?_))
  | (exact ⟨_, hF, LeX.of [] rfl ⟨⟨rfl, rfl⟩, trivial⟩ trivial⟩)
  | (refine zdx hF (fun hF => ?_) (fun v hF => ?_); rotate_left; unfold z0w at hF)
  | (exact ⟨_, hF, LeX.of [] rfl ⟨⟨rfl, rfl⟩, ⟨rfl, rfl⟩, ⟨rfl, rfl⟩, trivial⟩ trivial⟩)
  | (refine IdxX.o z08 hF (fun x hF => ?_))
  | (refine And.intro ⟨by kernel_rfl, by kernel_rfl⟩ ?_)
  | (refine EqX.mk (by first | rfl | kernel_rfl) ?_)
  | (exact RetX.o hF (by repeat' first | exact Sub.nil _ | exact Sub.refl _ | refine Sub.agg ?_ | refine Sub.tup ?_ | refine Sub.fn ?_ | exact SubL.nil | refine SubL.cons ?_ ?_ | refine Sub.sl _ ?_ | exact SubE.nil | refine SubE.cons ?_ ?_))
def z5z (a0 : (List z00)) (v1_0 : (List z00) × Int) : AS := ⟨[(0, .sl 3 (List.map z08 (a0))), (3, .sl 3 (List.map z08 (v1_0.1))), (4, aI (v1_0.2))], []⟩
theorem zkm {n N : Nat} {a0 : (List z00)} {k1_0_0 : (List z00) → Option ((List z00))} {R : Exit → AS → Prop} {K : List z16} {c : Code} {σ : AS} {v0 : (List z00) × Int} {r : (List z00)} (hF : z24 n a0 k1_0_0 N v0 = some r) (hl : LeX E0 18 σ (z5z a0 v0)) (round : ∀ m v, z24 n a0 k1_0_0 (m + 1) v = some r → AW E0 18 (z0v (fun σ' => ∃ v', z24 n a0 k1_0_0 m v' = some r ∧ LeX E0 18 σ' (z5z a0 v')) (AW E0 18 R K)) [.code c] .normal (z5z a0 v)) : z5v E0 18 (fun next σ' => AW E0 18 (z0v next (AW E0 18 R K)) [.code c] .normal σ') σ :=
 LoopA.o (S := z5z a0) hF (fun _ => rfl) hl round
def zfw (r : (List z00)) : AV := .sl 3 (List.map z08 (r))
theorem zlo {n : Nat} {a0 : (List z00)} {r : (List z00)} (hF : z5q n a0 = some r) : Con E0 false 60 [.sl 3 (List.map z08 (a0))] (zfw r) := by
 unfold z5q at hF
 refine Con.walk _ Tryz.func60 rfl (z06 Tryz.func60 rfl rfl) rfl (Or.inl rfl) ?_
 repeat' first
  | (refine AW.step ?_; conv => whnf)
  | (refine z0b.o hF (fun hF => ?_) (fun hF => ?_))
  | (refine z0b.t ?_)
  | (refine z0b.f ?_)
  | (refine IdxX.o z08 hF (fun x hF => ?_))
  | (refine z0p.o hF zj8 (fun a h => zod h) (fun a hF => ?_))
  | (exact ⟨_, hF, LeX.of [] rfl ⟨⟨rfl, rfl⟩, ⟨rfl, rfl⟩, ⟨rfl, rfl⟩, trivial⟩ trivial⟩)
  | (refine zkm hF (LeX.trans (LeX.put 3 _ (by repeat' first | exact Sub.nil _ | exact Sub.refl _ | refine Sub.agg ?_ | refine Sub.tup ?_ | refine Sub.fn ?_ | exact SubL.nil | refine SubL.cons ?_ ?_ | refine Sub.sl _ ?_ | exact SubE.nil | refine SubE.cons ?_ ?_)) (LeX.of [] rfl ⟨⟨rfl, rfl⟩, ⟨rfl, rfl⟩, ⟨rfl, rfl⟩, trivial⟩ trivial)) (fun m v hF => ?_); unfold z24 at hF)
  | (refine And.intro ⟨by kernel_rfl, by kernel_rfl⟩ ?_)
  | (refine EqX.mk (by first | rfl | kernel_rfl) ?_)
  | (exact RetX.o hF (by repeat' first | exact Sub.nil _ | exact Sub.refl _ | refine Sub.agg ?_ | refine Sub.tup ?_ | refine Sub.fn ?_ | exact SubL.nil | refine SubL.cons ?_ ?_ | refine Sub.sl _ ?_ | exact SubE.nil | refine SubE.cons ?_ ?_))
def zhw (r : (List z00) × Int) : AV := .tup [.sl 3 (List.map z08 (r.1)), aI (r.2)]
theorem zng {n : Nat} {a0 : (List z00)} {r : (List z00) × Int} (hF : z78 n a0 = some r) : Con E0 false 25 [.sl 3 (List.map z08 (a0))] (zhw r) := by
 unfold z78 at hF
 refine Con.walk _ Tryz.func25 rfl (z06 Tryz.func25 rfl rfl) rfl (Or.inl rfl) ?_
 repeat' first
  | (refine AW.step ?_; conv => whnf)
  | (refine z0b.o hF (fun hF => ?_) (fun hF => ?_))
  | (refine z0b.t ?_)
  | (refine z0b.f ?_)
  | (refine z0p.o hF zfw (fun a h => zlo h) (fun a hF => ?_))
  | (refine And.intro ⟨by kernel_rfl, by kernel_rfl⟩ ?_)
  | (refine EqX.mk (by first | rfl | kernel_rfl) ?_)
  | (exact RetX.o hF (by repeat' first | exact Sub.nil _ | exact Sub.refl _ | refine Sub.agg ?_ | refine Sub.tup ?_ | refine Sub.fn ?_ | exact SubL.nil | refine SubL.cons ?_ ?_ | refine Sub.sl _ ?_ | exact SubE.nil | refine SubE.cons ?_ ?_))
def z7b (a1 : (List z00)) (a0 : (List z00)) (v1_0 : Int) : AS := ⟨[(0, .sl 3 (List.map z08 (a0))), (1, .sl 3 (List.map z08 (a1))), (5, aI (v1_0))], []⟩
theorem zmb {n N : Nat} {a1 : (List z00)} {a0 : (List z00)} {k1_0_0 : Option (Bool)} {R : Exit → AS → Prop} {K : List z16} {c : Code} {σ : AS} {v0 : Int} {r : Bool} (hF : z2j n a1 a0 k1_0_0 N v0 = some r) (hl : LeX E0 27 σ (z7b a1 a0 v0)) (round : ∀ m v, z2j n a1 a0 k1_0_0 (m + 1) v = some r → AW E0 27 (z0v (fun σ' => ∃ v', z2j n a1 a0 k1_0_0 m v' = some r ∧ LeX E0 27 σ' (z7b a1 a0 v')) (AW E0 27 R K)) [.code c] .normal (z7b a1 a0 v)) : z5v E0 27 (fun next σ' => AW E0 27 (z0v next (AW E0 27 R K)) [.code c] .normal σ') σ :=
 LoopA.o (S := z7b a1 a0) hF (fun _ => rfl) hl round
def zhx (r : Bool) : AV := .bool (r)
theorem znh {n : Nat} {a0 : (List z00)} {a1 : (List z00)} {r : Bool} (hF : z3h n a0 a1 = some r) : Con E0 true 12 [.sl 3 (List.map z08 (a0)), .sl 3 (List.map z08 (a1))] (zhx r) := by
 unfold z3h at hF
 refine Con.walk _ Tryz.func12 rfl (z06 Tryz.func12 rfl rfl) rfl (Or.inr rfl) ?_
 repeat' first
  | (refine AW.step ?_; conv => whnf)
  | (refine z0b.o hF (fun hF => ?_) (fun hF => ?_))
  | (refine z0b.t ?_)
  | (refine z0b.f ?_)
  | (refine IdxX.o z08 hF (fun x hF => ?_))
  | (refine z0p.o hF za6 (fun a h => zcz h) (fun a hF => ?_))
  | (exact ⟨_, hF, LeX.of [] rfl ⟨⟨rfl, rfl⟩, ⟨rfl, rfl⟩, ⟨rfl, rfl⟩, trivial⟩ trivial⟩)
  | (refine zmb hF (LeX.of [] rfl ⟨⟨rfl, rfl⟩, ⟨rfl, rfl⟩, ⟨rfl, rfl⟩, trivial⟩ trivial) (fun m v hF => ?_); unfold z2j at hF)
  | (refine And.intro ⟨by kernel_rfl, by kernel_rfl⟩ ?_)
  | (refine EqX.mk (by first | rfl | kernel_rfl) ?_)
  | (exact RetX.o hF (by repeat' first | exact Sub.nil _ | exact Sub.refl _ | refine Sub.agg ?_ | refine Sub.tup ?_ | refine Sub.fn ?_ | exact SubL.nil | refine SubL.cons ?_ ?_ | refine Sub.sl _ ?_ | exact SubE.nil | refine SubE.cons ?_ ?_))
def z7x (w1_0 : Bool) : AS := ⟨[(2, .bool (w1_0))], []⟩
theorem zb1 {n : Nat} {R : Exit → AS → Prop} {K : List z16} {i : Nat} {os : Array Oper} {d : Bool} {C : Code} {σ : AS} {x : Option (Bool)} {r : Bool} (hF : jon (z10 n) x = some r) (h1 : x = some r → AW E0 32 (z0v (fun σ' => ∃ v', z10 n v' = some r ∧ LeX E0 32 σ' (z7x v')) (AW E0 32 R (.code C :: K))) [.code (.region i os d)] .normal σ) (h2 : ∀ v, z10 n v = some r → AW E0 32 R (.code C :: K) .normal (z7x v)) : AW E0 32 R (.code (.region i os d) :: .code C :: K) .normal σ :=
 AW.joinO1 (S := z7x) hF h1 h2
def zlw (r : Bool) : AV := .bool (r)
theorem zk0 {n : Nat} {a0 : (List z00)} {r : Bool} (hF : z71 n a0 = some r) : Con E0 true 5 [.sl 3 (List.map z08 (a0))] (zlw r) := by
 unfold z71 at hF
 refine Con.walk _ Tryz.func5 rfl (z06 Tryz.func5 rfl rfl) rfl (Or.inr rfl) ?_
 repeat' first
  | (refine zb1 hF (fun hF => ?_) (fun v hF => ?_); rotate_left; unfold z10 at hF)
  | (refine AW.regO hF (fun hF => ?_))
  | (refine AW.stepU [5] ?_; conv => whnf)
  | (refine z0b.o hF (fun hF => ?_) (fun hF => ?_))
  | (refine z0b.t ?_)
  | (refine z0b.f ?_)
  | (refine z0p.o hF zj9 (fun a h => zoe h) (fun a hF => ?_))
  | (refine z0p.o hF zh6 (fun a h => zmn h) (fun a hF => ?_))
  | (refine z0p.o hF R_run_Sort (fun a h => con_run_Sort h) (fun a hF => ?_))
  | (refine z0p.o hF zhw (fun a h => zng h) (fun a hF => ?_))
  | (refine zb1 hF (fun hF => ?_) (fun v hF => ?_); rotate_left; unfold z10 at hF)
  | (refine z0p.o hF zhx (fun a h => znh h) (fun a hF => ?_))
  | (exact ⟨_, hF, LeX.of [] rfl ⟨⟨rfl, rfl⟩, trivial⟩ trivial⟩)
  | (refine And.intro ⟨by kernel_rfl, by kernel_rfl⟩ ?_)
  | (refine EqX.mk (by first | rfl | kernel_rfl) ?_)
  | (exact RetX.o hF (by repeat' first | exact Sub.nil _ | exact Sub.refl _ | refine Sub.agg ?_ | refine Sub.tup ?_ | refine Sub.fn ?_ | exact SubL.nil | refine SubL.cons ?_ ?_ | refine Sub.sl _ ?_ | exact SubE.nil | refine SubE.cons ?_ ?_))
end Go.Proofs.YtjpknpjjcddnnaaGreat
namespace Go.Proofs.YtjpknpjjcddnnaaGreat
open Go.RowKit
theorem sorts_con25 (l : List z00) : Con E0 true 5 [.sl 3 (l.map z08)] (.bool true) := zk0 (law_sorts l)
end Go.Proofs.YtjpknpjjcddnnaaGreat
