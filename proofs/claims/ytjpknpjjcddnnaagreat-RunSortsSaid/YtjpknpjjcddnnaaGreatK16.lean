/- What some functions compute, over plain values. Printed by a program of mine (gen_fun.lean). -/
import Derived.Test.YtjpknpjjcddnnaaGreatK13
import Derived.Test.YtjpknpjjcddnnaaGreatK15
set_option linter.unusedVariables false
set_option linter.unusedSimpArgs false
set_option maxRecDepth 100000
set_option maxHeartbeats 8000000
namespace Go.Proofs.YtjpknpjjcddnnaaGreat
open Go.RowKit
set_option maxHeartbeats 400000 in
theorem clone29_any (l : List (Cel 3)) (S : Nat → Prop) (v : Value) (w : World) (h : Sl w S 3 encC v l) (hl : l.length ≤ 1000000000) :
  Calls Tryz.prog 29 #[v] w (RetOwn 77 3 encC l w) := by
 have eok : EOk Tryz.prog 29 77 3 56 (encC (n := 3)) := eokC (sz := 3) tyOk29 rfl tyOk77 (by omega) rfl
 obtain ⟨A, c, rfl, hc, _⟩ := h.form
 have hq := fun (W : World) => Lib.run_eql_slice_nil W 29 77 A l.length c 0 0 Tryz.underlying29
 have H := hide h
 cases A with
 | none =>
   have h0 : l = [] := h.none_nil
   subst h0
   clear h H hl hc
   simp only [List.length_nil, Option.isNone_none] at hq ⊢
   go_enter Tryz.func29, Tryz.ntmps29
   go_wp2
   go_ret
   exact ⟨none, 0, rfl, Own.nil_, by go_grown⟩
 | some ad =>
   clear h
   go_enter Tryz.func29, Tryz.ntmps29
   go_wp2_with (at_builtin; refine z8o rfl _ _ rfl eok rfl Own.made_ rfl (H.out.alloc _) (by simp; omega) (by omega) (by simp) ?_; intro A' c' w1 ho hg _)
   go_ret
   exact ⟨A', c', rfl, ho, (Own.made_ (sz := 3) (enc := encC (n := 3))).grown ((Below.refl _ _).alloc (Nat.le_refl _) _) (Nat.le_refl _) (by simp) hg⟩
theorem conT_clone29 {n : Nat} {a r : List z00} (hF : zcs n a = some r) : ConT E0 29 [.sl 3 (List.map z08 a)] 77 3 (List.map z08 r) (.row 0) := zor rfl (z06 Tryz.func29 rfl rfl) clone29_any hF
def zly (r : Bool) : AV := .bool (r)
theorem zri {n : Nat} {a0 : z00} {a1 : z00} {r : Bool} (hF : z7v n a0 a1 = some r) : Con E0 true 88 [.agg [aI (a0.fState), .sl 4 (List.map z09 (a0.fBindings)), .sl 2 (List.map z07 (a0.fStarts))], .agg [aI (a1.fState), .sl 4 (List.map z09 (a1.fBindings)), .sl 2 (List.map z07 (a1.fStarts))], .ref [.fn 59 []]] (zly r) := by
 unfold z7v at hF
 refine Con.walk _ Tryz.func88 rfl (z06 Tryz.func88 rfl rfl) rfl (Or.inr rfl) ?_
 repeat' first
  | (refine AW.step ?_; conv => whnf)
  | (refine z0b.o hF (fun hF => ?_) (fun hF => ?_))
  | (refine z0b.t ?_)
  | (refine z0b.f ?_)
  | (refine z0p.o hF zst (fun a h => con_run_compare h) (fun a hF => ?_))
  | (refine And.intro ⟨by kernel_rfl, by kernel_rfl⟩ ?_)
  | (refine EqX.mk (by first | rfl | kernel_rfl) ?_)
  | (exact RetX.o hF (by repeat' first | exact Sub.nil _ | exact Sub.refl _ | refine Sub.agg ?_ | refine Sub.tup ?_ | refine Sub.fn ?_ | exact SubL.nil | refine SubL.cons ?_ ?_ | refine Sub.sl _ ?_ | exact SubE.nil | refine SubE.cons ?_ ?_))
def z7e (x46 : Nat) (v2_1 : Int × Int × (List z00)) : AS := ⟨[(0, .row 200000), (1, .fn 88 [.ref [.fn 59 []]]), (5, aI (v2_1.1)), (6, .der (.sub 3 (x46)) 200000), (7, aI (v2_1.2.1))], [(200000, .row 77 3 (List.map z08 (v2_1.2.2)))]⟩
theorem zme {n N : Nat} {x46 : Nat} {k2_1_0 : Int → (List z00) → Option ((List z00))} {R : Exit → AS → Prop} {K : List z16} {c : Code} {σ : AS} {v0 : Int × Int × (List z00)} {r : (List z00)} (hF : z21 n x46 k2_1_0 N v0 = some r) (hl : LeX (E0p 2) 66 σ (z7e x46 v0)) (round : ∀ m v, z21 n x46 k2_1_0 (m + 1) v = some r → AW (E0p 2) 66 (z0v (fun σ' => ∃ v', z21 n x46 k2_1_0 m v' = some r ∧ LeX (E0p 2) 66 σ' (z7e x46 v')) (AW (E0p 2) 66 R K)) [.code c] .normal (z7e x46 v)) : z5v (E0p 2) 66 (fun next σ' => AW (E0p 2) 66 (z0v next (AW (E0p 2) 66 R K)) [.code c] .normal σ') σ :=
 LoopA.o (S := z7e x46) hF (fun _ => rfl) hl round
def z7f (m0 : (List z00)) (v1_0 : Int) : AS := ⟨[(0, .row 200000), (1, .fn 88 [.ref [.fn 59 []]]), (5, aI (v1_0))], [(200000, .row 77 3 (List.map z08 (m0)))]⟩
theorem zmf {n N : Nat} {m0 : (List z00)} {k1_0_0 : Option ((List z00))} {R : Exit → AS → Prop} {K : List z16} {c : Code} {σ : AS} {v0 : Int} {r : (List z00)} (hF : z2p n m0 k1_0_0 N v0 = some r) (hl : LeX (E0p 2) 66 σ (z7f m0 v0)) (round : ∀ m v, z2p n m0 k1_0_0 (m + 1) v = some r → AW (E0p 2) 66 (z0v (fun σ' => ∃ v', z2p n m0 k1_0_0 m v' = some r ∧ LeX (E0p 2) 66 σ' (z7f m0 v')) (AW (E0p 2) 66 R K)) [.code c] .normal (z7f m0 v)) : z5v (E0p 2) 66 (fun next σ' => AW (E0p 2) 66 (z0v next (AW (E0p 2) 66 R K)) [.code c] .normal σ') σ :=
 LoopA.o (S := z7f m0) hF (fun _ => rfl) hl round
def zqj (m0 : (List z00)) : List (Nat × Ent) := [(200000, .row 77 3 (List.map z08 (m0)))]
def z5a (r : (List z00)) : List (Nat × Ent) := [(260000, .row 77 3 (List.map z08 (r)))]
def z75 (r : (List z00)) : AV := .row 260000
def zhv (r : (List z00)) : AS := ⟨[(4, .row 260000)], z5a r⟩
theorem zfv {n : Nat} {m0 : (List z00)} {r : (List z00)} (hF : z7a n m0 = some r) : ConG E0.P none (CalF E0.P 87 0) [.row 200000, .fn 88 [.ref [.fn 59 []]]] [] (zqj m0) (z75 r) (z5a r) := by
 unfold z7a at hF
 refine ConG.walk (E := (E0p 2)) (caps := []) _ Tryz.func87 rfl rfl rfl rfl rfl ?_
 repeat' first
  | (refine AW.step ?_; conv => whnf)
  | (refine z0b.o hF (fun hF => ?_) (fun hF => ?_))
  | (refine z0b.t ?_)
  | (refine z0b.f ?_)
  | (refine GX.o (res := z75) (meF := z5a) hF ?_; exact GX.mk (zhv _) (LeX.of [(260000, 200000)] rfl ⟨⟨rfl, rfl⟩, trivial⟩ ⟨⟨rfl, rfl⟩, trivial⟩) rfl _ rfl (by repeat' first | exact Sub.nil _ | exact Sub.refl _ | refine Sub.agg ?_ | refine Sub.tup ?_ | refine Sub.fn ?_ | exact SubL.nil | refine SubL.cons ?_ ?_ | refine Sub.sl _ ?_ | exact SubE.nil | refine SubE.cons ?_ ?_) [] trivial rfl)
  | (refine NatX.o hF (fun m hF => ?_))
  | (refine EltX.o z08 hF (fun x hF => ?_))
  | (refine z0p.o hF zly (fun a h => Con.env rfl rfl (zri h)) (fun a hF => ?_))
  | (refine OpX.sub hF rfl rfl rfl rfl rfl rfl rfl rfl rfl rfl (fun m hF => ?_))
  | (refine OpX.clr z08 hF rfl rfl rfl rfl rfl rfl rfl rfl rfl rfl rfl (by first | exact SubL.refl _ | (repeat' first | exact SubL.nil | refine SubL.cons ?_ ?_ | exact Sub.refl _ | exact Sub.nil _ | refine Sub.agg ?_)) (fun l hF => ?_))
  | (refine SlsX.o z08 hF (fun l hF => ?_))
  | (refine GX.o (res := z75) (meF := z5a) hF ?_; exact GX.mk (zhv _) (LeX.of [(260000, 64)] rfl ⟨⟨rfl, rfl⟩, trivial⟩ ⟨⟨rfl, rfl⟩, trivial⟩) rfl _ rfl (by repeat' first | exact Sub.nil _ | exact Sub.refl _ | refine Sub.agg ?_ | refine Sub.tup ?_ | refine Sub.fn ?_ | exact SubL.nil | refine SubL.cons ?_ ?_ | refine Sub.sl _ ?_ | exact SubE.nil | refine SubE.cons ?_ ?_) [] trivial rfl)
  | (refine OpX.lns hF rfl rfl rfl rfl rfl rfl rfl (fun hF => ?_))
  | (refine OpX.ixs hF rfl rfl rfl rfl rfl rfl rfl rfl rfl rfl (fun m hF => ?_))
  | (refine SetX.o z08 hF (fun x => rfl) (fun x => (by first | exact SubL.refl _ | (repeat' first | exact SubL.nil | refine SubL.cons ?_ ?_ | exact Sub.refl _ | exact Sub.nil _ | refine Sub.agg ?_))) (fun l hF => ?_))
  | (exact ⟨_, hF, LeX.of [] rfl ⟨⟨rfl, rfl⟩, ⟨rfl, rfl⟩, ⟨rfl, rfl⟩, ⟨rfl, rfl⟩, ⟨rfl, rfl⟩, trivial⟩ ⟨⟨rfl, rfl⟩, trivial⟩⟩)
  | (refine zme hF (LeX.of [] rfl ⟨⟨rfl, rfl⟩, ⟨rfl, rfl⟩, ⟨rfl, rfl⟩, ⟨rfl, rfl⟩, ⟨rfl, rfl⟩, trivial⟩ ⟨⟨rfl, rfl⟩, trivial⟩) (fun m v hF => ?_); unfold z21 at hF)
  | (exact ⟨_, hF, LeX.of [] rfl ⟨⟨rfl, rfl⟩, ⟨rfl, rfl⟩, ⟨rfl, rfl⟩, trivial⟩ ⟨⟨rfl, rfl⟩, trivial⟩⟩)
  | (refine zmf hF (LeX.of [] rfl ⟨⟨rfl, rfl⟩, ⟨rfl, rfl⟩, ⟨rfl, rfl⟩, trivial⟩ ⟨⟨rfl, rfl⟩, trivial⟩) (fun m v hF => ?_); unfold z2p at hF)
  | (refine And.intro ⟨by kernel_rfl, by kernel_rfl⟩ ?_)
  | (refine EqX.mk (by first | rfl | kernel_rfl) ?_)
def M_run_unique (m0 : (List z00)) : List (Nat × Ent) := [(200000, .row 77 3 (List.map z08 (m0)))]
def zbe (r : (List z00)) : List (Nat × Ent) := [(260000, .row 77 3 (List.map z08 (r)))]
def ze1 (r : (List z00)) : AV := .row 260000
def Z_run_unique (r : (List z00)) : AS := ⟨[(4, .row 260000)], zbe r⟩
theorem zgo {n : Nat} {m0 : (List z00)} {r : (List z00)} (hF : zef n m0 = some r) : ConG E0.P none (CalF E0.P 58 0) [.row 200000, .fn 59 []] [] (M_run_unique m0) (ze1 r) (zbe r) := by
 unfold zef at hF
 refine ConG.walk (E := (E0p 2)) (caps := []) _ Tryz.func58 rfl rfl rfl rfl rfl ?_
 repeat' first
  | (refine AW.frbO hF 3 rfl rfl (fun hF => ?_))
  | (refine AW.frb0 3 rfl rfl ?_)
  | (refine AW.regO hF (fun hF => ?_))
  | (refine AW.frzO hF 3 rfl (fun hF => ?_))
  | (refine AW.stepU [2] ?_; conv => whnf)
  | (refine z0b.o hF (fun hF => ?_) (fun hF => ?_))
  | (refine z0b.t ?_)
  | (refine z0b.f ?_)
  | (refine z9v.oI hF 200000 (fun r => r) z08 (fun _ => AV.tup []) rfl (fun a h => (ConC.env rfl (sortCf_con h))) rfl rfl rfl (fun a hF => ?_))
  | (refine AW.frbO hF 3 rfl rfl (fun hF => ?_))
  | (refine AW.frb0 3 rfl rfl ?_)
  | (refine z9v.oM (z3n 10 hF) [(200000, 200000)] [(260000, 11000000)] _ _ z5a z75 [200000] (fun a h => ConG.up (zfv h)) (z06 Tryz.func87 rfl rfl) rfl rfl rfl ⟨⟨rfl, rfl⟩, trivial⟩ (fun a => ⟨rfl, rfl, rfl, rfl, rfl, rfl, rfl, rfl⟩) (fun a hF => ?_))
  | (refine z0p.oM (z3n 10 hF) [(200000, 200000)] [(260000, 11000000)] _ _ z5a z75 [200000] (fun a h => ConG.up (zfv h)) (z06 Tryz.func87 rfl rfl) rfl rfl rfl ⟨⟨rfl, rfl⟩, trivial⟩ (fun a => ⟨rfl, rfl, rfl, rfl, rfl, rfl, rfl, rfl⟩) (fun a hF => ?_))
  | (refine GX.o (res := ze1) (meF := zbe) hF ?_; exact GX.mk (Z_run_unique _) (LeX.of [(260000, 11000000)] rfl ⟨⟨rfl, rfl⟩, trivial⟩ ⟨⟨rfl, rfl⟩, trivial⟩) rfl _ rfl (by repeat' first | exact Sub.nil _ | exact Sub.refl _ | refine Sub.agg ?_ | refine Sub.tup ?_ | refine Sub.fn ?_ | exact SubL.nil | refine SubL.cons ?_ ?_ | refine Sub.sl _ ?_ | exact SubE.nil | refine SubE.cons ?_ ?_) [] trivial rfl)
  | (refine And.intro ⟨by kernel_rfl, by kernel_rfl⟩ ?_)
  | (refine EqX.mk (by first | rfl | kernel_rfl) ?_)
def R_run_Sort (r : (List z00) × Int) : AV := .tup [.sl 3 (List.map z08 (r.1)), aI (r.2)]
theorem con_run_Sort {n : Nat} {a0 : (List z00)} {r : (List z00) × Int} (hF : zik n a0 = some r) : Con E0 false 24 [.sl 3 (List.map z08 (a0))] (R_run_Sort r) := by
 unfold zik at hF
 refine Con.walk _ Tryz.func24 rfl (z06 Tryz.func24 rfl rfl) rfl (Or.inl rfl) ?_
 repeat' first
  | (refine AW.step ?_; conv => whnf)
  | (refine z0b.o hF (fun hF => ?_) (fun hF => ?_))
  | (refine z0b.t ?_)
  | (refine z0b.f ?_)
  | (refine z0p.oR hF (fun r => r) z08 (fun _ => AV.row 0) rfl (fun a h => conT_clone29 h) (fun a hF => ?_))
  | (refine z0p.oR hF (fun r => r) z08 (fun _ => AV.row 0) rfl (fun a h => ConT.sub (by repeat' first | exact Sub.nil _ | exact Sub.refl _ | refine Sub.agg ?_ | refine Sub.tup ?_ | refine Sub.fn ?_ | exact SubL.nil | refine SubL.cons ?_ ?_ | refine Sub.sl _ ?_ | exact SubE.nil | refine SubE.cons ?_ ?_) (conT_clone29 h)) (fun a hF => ?_))
  | (refine z9v.oM (z3n 7 hF) [(200000, 6)] [(260000, 8000000)] _ _ zbe ze1 [6] (fun a h => ConG.up (zgo h)) (z06 Tryz.func58 rfl rfl) rfl rfl rfl ⟨⟨rfl, rfl⟩, trivial⟩ (fun a => ⟨rfl, rfl, rfl, rfl, rfl, rfl, rfl, rfl⟩) (fun a hF => ?_))
  | (refine z0p.oM (z3n 7 hF) [(200000, 6)] [(260000, 8000000)] _ _ zbe ze1 [6] (fun a h => ConG.up (zgo h)) (z06 Tryz.func58 rfl rfl) rfl rfl rfl ⟨⟨rfl, rfl⟩, trivial⟩ (fun a => ⟨rfl, rfl, rfl, rfl, rfl, rfl, rfl, rfl⟩) (fun a hF => ?_))
  | (refine And.intro ⟨by kernel_rfl, by kernel_rfl⟩ ?_)
  | (refine EqX.mk (by first | rfl | kernel_rfl) ?_)
  | (exact RetX.o hF (by repeat' first | exact Sub.nil _ | exact Sub.refl _ | refine Sub.agg ?_ | refine Sub.tup ?_ | refine Sub.fn ?_ | exact SubL.nil | refine SubL.cons ?_ ?_ | refine Sub.sl _ ?_ | exact SubE.nil | refine SubE.cons ?_ ?_))
def zaq (a0 : (List z00)) (v1_0 : Int) (cv1_0 : Int → Option (Bool)) (w6_2 : Bool) : AS := ⟨[(0, .sl 3 (List.map z08 (a0))), (3, aI (v1_0)), (29, .bool (w6_2))], []⟩
theorem zfp {n : Nat} {a0 : (List z00)} {v1_0 : Int} {cv1_0 : Int → Option (Bool)} {R : Exit → AS → Prop} {K : List z16} {i : Nat} {os : Array Oper} {d : Bool} {C : Code} {σ : AS} {x : Option (Bool)} {r : Bool} (hF : jon (z1r n a0 v1_0 cv1_0) x = some r) (h1 : x = some r → AW E0 33 (z0v (fun σ' => ∃ v', z1r n a0 v1_0 cv1_0 v' = some r ∧ LeX E0 33 σ' (zaq a0 v1_0 cv1_0 v')) (AW E0 33 R (.code C :: K))) [.code (.region i os d)] .normal σ) (h2 : ∀ v, z1r n a0 v1_0 cv1_0 v = some r → AW E0 33 R (.code C :: K) .normal (zaq a0 v1_0 cv1_0 v)) : AW E0 33 R (.code (.region i os d) :: .code C :: K) .normal σ :=
 AW.joinO1 (S := zaq a0 v1_0 cv1_0) hF h1 h2
def zar (a0 : (List z00)) (v1_0 : Int) (k1_0_0 : Option (Bool)) (cv1_0 : Int → Option (Bool)) (w5_1 : Bool) : AS := ⟨[(0, .sl 3 (List.map z08 (a0))), (3, aI (v1_0)), (11, .bool (w5_1))], []⟩
theorem zfq {n : Nat} {a0 : (List z00)} {v1_0 : Int} {k1_0_0 : Option (Bool)} {cv1_0 : Int → Option (Bool)} {R : Exit → AS → Prop} {K : List z16} {i : Nat} {os : Array Oper} {d : Bool} {C : Code} {σ : AS} {x : Option (Bool)} {r : Bool} (hF : jon (z1s n a0 v1_0 k1_0_0 cv1_0) x = some r) (h1 : x = some r → AW E0 33 (z0v (fun σ' => ∃ v', z1s n a0 v1_0 k1_0_0 cv1_0 v' = some r ∧ LeX E0 33 σ' (zar a0 v1_0 k1_0_0 cv1_0 v')) (AW E0 33 R (.code C :: K))) [.code (.region i os d)] .normal σ) (h2 : ∀ v, z1s n a0 v1_0 k1_0_0 cv1_0 v = some r → AW E0 33 R (.code C :: K) .normal (zar a0 v1_0 k1_0_0 cv1_0 v)) : AW E0 33 R (.code (.region i os d) :: .code C :: K) .normal σ :=
 AW.joinO1 (S := zar a0 v1_0 k1_0_0 cv1_0) hF h1 h2
def z85 (a0 : (List z00)) (v1_0 : Int) : AS := ⟨[(0, .sl 3 (List.map z08 (a0))), (3, aI (v1_0))], []⟩
theorem zne {n N : Nat} {a0 : (List z00)} {k1_0_0 : Option (Bool)} {R : Exit → AS → Prop} {K : List z16} {c : Code} {σ : AS} {v0 : Int} {r : Bool} (hF : z1q n a0 k1_0_0 N v0 = some r) (hl : LeX E0 33 σ (z85 a0 v0)) (round : ∀ m v, z1q n a0 k1_0_0 (m + 1) v = some r → AW E0 33 (z0v (fun σ' => ∃ v', z1q n a0 k1_0_0 m v' = some r ∧ LeX E0 33 σ' (z85 a0 v')) (AW E0 33 R K)) [.code c] .normal (z85 a0 v)) : z5v E0 33 (fun next σ' => AW E0 33 (z0v next (AW E0 33 R K)) [.code c] .normal σ') σ :=
 LoopA.o (S := z85 a0) hF (fun _ => rfl) hl round
def zj9 (r : Bool) : AV := .bool (r)
theorem zoe {n : Nat} {a0 : (List z00)} {r : Bool} (hF : z80 n a0 = some r) : Con E0 true 23 [.sl 3 (List.map z08 (a0))] (zj9 r) := by
 unfold z80 at hF
 refine Con.walk _ Tryz.func23 rfl (z06 Tryz.func23 rfl rfl) rfl (Or.inr rfl) ?_
 repeat' first
  | (refine zfp hF (fun hF => ?_) (fun v hF => ?_); rotate_left; unfold z1r at hF)
  | (refine zfq hF (fun hF => ?_) (fun v hF => ?_); rotate_left; unfold z1s at hF)
  | (refine AW.regO hF (fun hF => ?_))
  | (refine AW.stepU [2, 4] ?_; conv => whnf)
  | (refine z0b.o hF (fun hF => ?_) (fun hF => ?_))
  | (refine z0b.t ?_)
  | (refine z0b.f ?_)
  | (exact ⟨_, hF, LeX.of [] rfl ⟨⟨rfl, rfl⟩, ⟨rfl, rfl⟩, trivial⟩ trivial⟩)
  | (refine zfp hF (fun hF => ?_) (fun v hF => ?_); rotate_left; unfold z1r at hF)
  | (refine IdxX.o z08 hF (fun x hF => ?_))
  | (exact ⟨_, hF, LeX.of [] rfl ⟨⟨rfl, rfl⟩, ⟨rfl, rfl⟩, ⟨rfl, rfl⟩, trivial⟩ trivial⟩)
  | (refine zfq hF (fun hF => ?_) (fun v hF => ?_); rotate_left; unfold z1s at hF)
  | (refine zne hF (LeX.of [] rfl ⟨⟨rfl, rfl⟩, ⟨rfl, rfl⟩, trivial⟩ trivial) (fun m v hF => ?_); unfold z1q at hF)
  | (refine And.intro ⟨by kernel_rfl, by kernel_rfl⟩ ?_)
  | (refine EqX.mk (by first | rfl | kernel_rfl) ?_)
  | (exact RetX.o hF (by repeat' first | exact Sub.nil _ | exact Sub.refl _ | refine Sub.agg ?_ | refine Sub.tup ?_ | refine Sub.fn ?_ | exact SubL.nil | refine SubL.cons ?_ ?_ | refine Sub.sl _ ?_ | exact SubE.nil | refine SubE.cons ?_ ?_))
def zbb (r : z02) : AV := .agg [aI (r.fSource), aI (r.fSeq), aI (r.fType), aI (r.fTime), .sl 3 (List.map z0c (r.fValues))]
theorem zek {n : Nat} {a0 : Int} {a1 : Int} {r : z02} (hF : z26 n a0 a1 = some r) : Con E0 false 36 [aI (a0), aI (a1)] (zbb r) := by
 unfold z26 at hF
 refine Con.walk _ Tryz.func36 rfl (z06 Tryz.func36 rfl rfl) rfl (Or.inl rfl) ?_
 repeat' first
  | (refine AW.step ?_; conv => whnf)
  | (refine z0b.o hF (fun hF => ?_) (fun hF => ?_))
  | (refine z0b.t ?_)
  | (refine z0b.f ?_)
  | (refine And.intro ⟨by kernel_rfl, by kernel_rfl⟩ ?_)
  | (refine EqX.mk (by first | rfl | kernel_rfl) ?_)
  | (exact RetX.o hF (by repeat' first | exact Sub.nil _ | exact Sub.refl _ | refine Sub.agg ?_ | refine Sub.tup ?_ | refine Sub.fn ?_ | exact SubL.nil | refine SubL.cons ?_ ?_ | refine Sub.sl _ ?_ | exact SubE.nil | refine SubE.cons ?_ ?_))
def zez (r : z05) : AV := .agg [aI (r.fVars), aI (r.fScopes), .sl 1 (List.map z0m (r.fStates)), .sl 17 (List.map z0n (r.fEdges))]
theorem zks {n : Nat} {r : z05} (hF : zab n = some r) : Con E0 false 37 [] (zez r) := by
 unfold zab at hF
 refine Con.walk _ Tryz.func37 rfl (z06 Tryz.func37 rfl rfl) rfl (Or.inl rfl) ?_
 repeat' first
  | (refine AW.step ?_; conv => whnf)
  | (refine z0b.o hF (fun hF => ?_) (fun hF => ?_))
  | (refine z0b.t ?_)
  | (refine z0b.f ?_)
  | (refine z0p.o hF zcq (fun a h => zfu h) (fun a hF => ?_))
  | (refine MakX.o z0m hF (by first | exact SubL.refl _ | (repeat' first | exact SubL.nil | refine SubL.cons ?_ ?_ | exact Sub.refl _ | exact Sub.nil _ | refine Sub.agg ?_)) (fun l hF => ?_))
  | (refine And.intro ⟨by kernel_rfl, by kernel_rfl⟩ ?_)
  | (refine EqX.mk (by first | rfl | kernel_rfl) ?_)
  | (exact RetX.o hF (by repeat' first | exact Sub.nil _ | exact Sub.refl _ | refine Sub.agg ?_ | refine Sub.tup ?_ | refine Sub.fn ?_ | exact SubL.nil | refine SubL.cons ?_ ?_ | refine Sub.sl _ ?_ | exact SubE.nil | refine SubE.cons ?_ ?_))
def zp4 (r : Bool) : AV := .bool (r)
theorem con_stream_placed {n : Nat} {a0 : z02} {r : Bool} (hF : zjn n a0 = some r) : Con E0 true 102 [.agg [aI (a0.fSource), aI (a0.fSeq), aI (a0.fType), aI (a0.fTime), .sl 3 (List.map z0c (a0.fValues))]] (zp4 r) := by
 unfold zjn at hF
 refine Con.walk _ Tryz.func102 rfl (z06 Tryz.func102 rfl rfl) rfl (Or.inr rfl) ?_
 repeat' first
  | (refine AW.step ?_; conv => whnf)
  | (refine z0b.o hF (fun hF => ?_) (fun hF => ?_))
  | (refine z0b.t ?_)
  | (refine z0b.f ?_)
  | (refine And.intro ⟨by kernel_rfl, by kernel_rfl⟩ ?_)
  | (refine EqX.mk (by first | rfl | kernel_rfl) ?_)
  | (exact RetX.o hF (by repeat' first | exact Sub.nil _ | exact Sub.refl _ | refine Sub.agg ?_ | refine Sub.tup ?_ | refine Sub.fn ?_ | exact SubL.nil | refine SubL.cons ?_ ?_ | refine Sub.sl _ ?_ | exact SubE.nil | refine SubE.cons ?_ ?_))
def R_event_Ref (r : z0q) : AV := .agg [aI (r.fTime), aI (r.fSource), aI (r.fSeq)]
theorem con_event_Ref {n : Nat} {a0 : z02} {r : z0q} (hF : zn4 n a0 = some r) : Con E0 true 130 [.agg [aI (a0.fSource), aI (a0.fSeq), aI (a0.fType), aI (a0.fTime), .sl 3 (List.map z0c (a0.fValues))]] (R_event_Ref r) := by
 unfold zn4 at hF
 refine Con.walk _ Tryz.func130 rfl (z06 Tryz.func130 rfl rfl) rfl (Or.inr rfl) ?_
 repeat' first
  | (refine AW.step ?_; conv => whnf)
  | (refine z0b.o hF (fun hF => ?_) (fun hF => ?_))
  | (refine z0b.t ?_)
  | (refine z0b.f ?_)
  | (refine And.intro ⟨by kernel_rfl, by kernel_rfl⟩ ?_)
  | (refine EqX.mk (by first | rfl | kernel_rfl) ?_)
  | (exact RetX.o hF (by repeat' first | exact Sub.nil _ | exact Sub.refl _ | refine Sub.agg ?_ | refine Sub.tup ?_ | refine Sub.fn ?_ | exact SubL.nil | refine SubL.cons ?_ ?_ | refine Sub.sl _ ?_ | exact SubE.nil | refine SubE.cons ?_ ?_))
def zp9 (r : Int) : AV := aI (r)
theorem con_event_Compare {n : Nat} {a0 : z02} {a1 : z02} {r : Int} (hF : zjr n a0 a1 = some r) : Con E0 true 103 [.agg [aI (a0.fSource), aI (a0.fSeq), aI (a0.fType), aI (a0.fTime), .sl 3 (List.map z0c (a0.fValues))], .agg [aI (a1.fSource), aI (a1.fSeq), aI (a1.fType), aI (a1.fTime), .sl 3 (List.map z0c (a1.fValues))]] (zp9 r) := by
 unfold zjr at hF
 refine Con.walk _ Tryz.func103 rfl (z06 Tryz.func103 rfl rfl) rfl (Or.inr rfl) ?_
 repeat' first
  | (refine AW.step ?_; conv => whnf)
  | (refine z0b.o hF (fun hF => ?_) (fun hF => ?_))
  | (refine z0b.t ?_)
  | (refine z0b.f ?_)
  | (refine z0p.o hF R_event_Ref (fun a h => con_event_Ref h) (fun a hF => ?_))
  | (refine z0p.o hF za8 (fun a h => z9h h) (fun a hF => ?_))
  | (refine z0p.o hF zq5 (fun a h => zlu h) (fun a hF => ?_))
  | (refine And.intro ⟨by kernel_rfl, by kernel_rfl⟩ ?_)
  | (refine EqX.mk (by first | rfl | kernel_rfl) ?_)
  | (exact RetX.o hF (by repeat' first | exact Sub.nil _ | exact Sub.refl _ | refine Sub.agg ?_ | refine Sub.tup ?_ | refine Sub.fn ?_ | exact SubL.nil | refine SubL.cons ?_ ?_ | refine Sub.sl _ ?_ | exact SubE.nil | refine SubE.cons ?_ ?_))
def R_stream_of (r : z4h) : AV := .agg [aI (r.fsource), aI (r.fseq)]
theorem con_stream_of {n : Nat} {a0 : z02} {r : z4h} (hF : zgk n a0 = some r) : Con E0 true 104 [.agg [aI (a0.fSource), aI (a0.fSeq), aI (a0.fType), aI (a0.fTime), .sl 3 (List.map z0c (a0.fValues))]] (R_stream_of r) := by
 unfold zgk at hF
 refine Con.walk _ Tryz.func104 rfl (z06 Tryz.func104 rfl rfl) rfl (Or.inr rfl) ?_
 repeat' first
  | (refine AW.step ?_; conv => whnf)
  | (refine z0b.o hF (fun hF => ?_) (fun hF => ?_))
  | (refine z0b.t ?_)
  | (refine z0b.f ?_)
  | (refine And.intro ⟨by kernel_rfl, by kernel_rfl⟩ ?_)
  | (refine EqX.mk (by first | rfl | kernel_rfl) ?_)
  | (exact RetX.o hF (by repeat' first | exact Sub.nil _ | exact Sub.refl _ | refine Sub.agg ?_ | refine Sub.tup ?_ | refine Sub.fn ?_ | exact SubL.nil | refine SubL.cons ?_ ?_ | refine Sub.sl _ ?_ | exact SubE.nil | refine SubE.cons ?_ ?_))
theorem eqK_163 (a b : z4h) : eqK (z7r a) (z7r b) = some (decide (a = b)) := by cases a; cases b; simp [z7r, eqK, eqL, eq1, aI, bytes_dec]
def zbv (a0 : (List z02)) (v1_0 : Int × (List (z4h × Bool))) : AS := ⟨[(0, .sl 5 (List.map z0a (a0))), (3, .row 9), (10, .sl 5 (List.map z0a (a0))), (11, aI ((((List.map z0a (a0)).length : Nat) : Int))), (12, aI (v1_0.1))], [(9, .mp (List.map (encM z7r AV.bool) (v1_0.2)))]⟩
theorem stream_Check_l1_o {n N : Nat} {a0 : (List z02)} {k1_0_0 : Option (Int)} {R : Exit → AS → Prop} {K : List z16} {c : Code} {σ : AS} {v0 : Int × (List (z4h × Bool))} {r : Int} (hF : z5w n a0 k1_0_0 N v0 = some r) (hl : LeX E0 43 σ (zbv a0 v0)) (round : ∀ m v, z5w n a0 k1_0_0 (m + 1) v = some r → AW E0 43 (z0v (fun σ' => ∃ v', z5w n a0 k1_0_0 m v' = some r ∧ LeX E0 43 σ' (zbv a0 v')) (AW E0 43 R K)) [.code c] .normal (zbv a0 v)) : z5v E0 43 (fun next σ' => AW E0 43 (z0v next (AW E0 43 R K)) [.code c] .normal σ') σ :=
 LoopA.o (S := zbv a0) hF (fun _ => rfl) hl round
def zr4 (r : Int) : AV := aI (r)
theorem con_stream_Check {n : Nat} {a0 : (List z02)} {r : Int} (hF : zla n a0 = some r) : Con E0 true 71 [.sl 5 (List.map z0a (a0))] (zr4 r) := by
 unfold zla at hF
 refine Con.walk _ Tryz.func71 rfl (z06 Tryz.func71 rfl rfl) rfl (Or.inr rfl) ?_
 repeat' first
  | (refine AW.step ?_; conv => whnf)
  | (refine z0b.o hF (fun hF => ?_) (fun hF => ?_))
  | (refine z0b.t ?_)
  | (refine z0b.f ?_)
  | (refine IdxX.o z0a hF (fun x hF => ?_))
  | (refine z0p.o hF zp4 (fun a h => con_stream_placed h) (fun a hF => ?_))
  | (refine z0p.o hF zp9 (fun a h => con_event_Compare h) (fun a hF => ?_))
  | (refine z0p.o hF R_stream_of (fun a h => con_stream_of h) (fun a hF => ?_))
  | (refine LkX.o z7r AV.bool hF (by first | rfl | kernel_rfl) eqK_163 (by repeat' first | exact Sub.nil _ | exact Sub.refl _ | refine Sub.agg ?_ | refine Sub.tup ?_ | refine Sub.fn ?_ | exact SubL.nil | refine SubL.cons ?_ ?_ | refine Sub.sl _ ?_ | exact SubE.nil | refine SubE.cons ?_ ?_) (fun v b hF => ?_))
  | (refine UpX.o z7r AV.bool hF (by first | rfl | kernel_rfl) eqK_163 (by repeat' first | exact Sub.nil _ | exact Sub.refl _ | refine Sub.agg ?_ | refine Sub.tup ?_ | refine Sub.fn ?_ | exact SubL.nil | refine SubL.cons ?_ ?_ | refine Sub.sl _ ?_ | exact SubE.nil | refine SubE.cons ?_ ?_) (fun l hF => ?_))
  | (exact ⟨_, hF, LeX.of [] rfl ⟨⟨rfl, rfl⟩, ⟨rfl, rfl⟩, ⟨rfl, rfl⟩, ⟨rfl, rfl⟩, ⟨rfl, rfl⟩, trivial⟩ ⟨⟨rfl, rfl⟩, trivial⟩⟩)
  | (refine stream_Check_l1_o hF (LeX.of [] rfl ⟨⟨rfl, rfl⟩, ⟨rfl, rfl⟩, ⟨rfl, rfl⟩, ⟨rfl, rfl⟩, ⟨rfl, rfl⟩, trivial⟩ ⟨⟨rfl, rfl⟩, trivial⟩) (fun m v hF => ?_); unfold z5w at hF)
  | (refine And.intro ⟨by kernel_rfl, by kernel_rfl⟩ ?_)
  | (refine EqX.mk (by first | rfl | kernel_rfl) ?_)
  | (exact RetX.o hF (by repeat' first | exact Sub.nil _ | exact Sub.refl _ | refine Sub.agg ?_ | refine Sub.tup ?_ | refine Sub.fn ?_ | exact SubL.nil | refine SubL.cons ?_ ?_ | refine Sub.sl _ ?_ | exact SubE.nil | refine SubE.cons ?_ ?_))
theorem eqK_108 (a b : z0q) : eqK (z43 a) (z43 b) = some (decide (a = b)) := by cases a; cases b; simp [z43, eqK, eqL, eq1, aI, bytes_dec]
def zmh : Option z0h → AV
 | none => .nilp
 | some x => .ref [aI (x.fa.fVars), aI (x.fa.fScopes), .sl 1 (List.map z0m (x.fa.fStates)), .sl 17 (List.map z0n (x.fa.fEdges)), .mapv (List.map (encM z43 z0a) (x.fheld))]
def zgq (a1 : (List z02)) (a0 : z05) (v1_0 : Int × (List (z0q × z02))) : AS := ⟨[(8, .ptr 24 0), (25, .sl 5 (List.map z0a (a1))), (26, aI ((((List.map z0a (a1)).length : Nat) : Int))), (27, aI (v1_0.1))], [(24, .box 133 [aI (a0.fVars), aI (a0.fScopes), .sl 1 (List.map z0m (a0.fStates)), .sl 17 (List.map z0n (a0.fEdges)), .row 22]), (22, .mp (List.map (encM z43 z0a) (v1_0.2)))]⟩
theorem run_begin_l1_o {n N : Nat} {a1 : (List z02)} {a0 : z05} {k1_0_0 : (List (z0q × z02)) → Option ((Option z0h) × Int)} {R : Exit → AS → Prop} {K : List z16} {c : Code} {σ : AS} {v0 : Int × (List (z0q × z02))} {r : (Option z0h) × Int} (hF : zal n a1 a0 k1_0_0 N v0 = some r) (hl : LeX E0 40 σ (zgq a1 a0 v0)) (round : ∀ m v, zal n a1 a0 k1_0_0 (m + 1) v = some r → AW E0 40 (z0v (fun σ' => ∃ v', zal n a1 a0 k1_0_0 m v' = some r ∧ LeX E0 40 σ' (zgq a1 a0 v')) (AW E0 40 R K)) [.code c] .normal (zgq a1 a0 v)) : z5v E0 40 (fun next σ' => AW E0 40 (z0v next (AW E0 40 R K)) [.code c] .normal σ') σ :=
 LoopA.o (S := zgq a1 a0) hF (fun _ => rfl) hl round
def zmu (r : (Option z0h) × Int) : AV := .tup [zmh (r.1), aI (r.2)]
theorem con_run_begin {n : Nat} {a0 : z05} {a1 : (List z02)} {r : (Option z0h) × Int} (hF : zjp n a0 a1 = some r) : Con E0 false 39 [.agg [aI (a0.fVars), aI (a0.fScopes), .sl 1 (List.map z0m (a0.fStates)), .sl 17 (List.map z0n (a0.fEdges))], .sl 5 (List.map z0a (a1))] (zmu r) := by
 unfold zjp at hF
 refine Con.walk _ Tryz.func39 rfl (z06 Tryz.func39 rfl rfl) rfl (Or.inl rfl) ?_
 repeat' first
  | (refine AW.step ?_; conv => whnf)
  | (refine z0b.o hF (fun hF => ?_) (fun hF => ?_))
  | (refine z0b.t ?_)
  | (refine z0b.f ?_)
  | (refine z0p.o hF zm4 (fun a h => zrn h) (fun a hF => ?_))
  | (refine z0p.o hF zr4 (fun a h => con_stream_Check h) (fun a hF => ?_))
  | (refine IdxX.o z0a hF (fun x hF => ?_))
  | (refine OpX.nckP rfl rfl rfl rfl rfl ?_)
  | (refine z0p.o hF R_run_ref (fun a h => con_run_ref h) (fun a hF => ?_))
  | (refine UpX.o z43 z0a hF (by first | rfl | kernel_rfl) eqK_108 (by repeat' first | exact Sub.nil _ | exact Sub.refl _ | refine Sub.agg ?_ | refine Sub.tup ?_ | refine Sub.fn ?_ | exact SubL.nil | refine SubL.cons ?_ ?_ | refine Sub.sl _ ?_ | exact SubE.nil | refine SubE.cons ?_ ?_) (fun l hF => ?_))
  | (exact ⟨_, hF, LeX.of [] rfl ⟨⟨rfl, rfl⟩, ⟨rfl, rfl⟩, ⟨rfl, rfl⟩, ⟨rfl, rfl⟩, trivial⟩ ⟨⟨rfl, rfl⟩, ⟨rfl, rfl⟩, trivial⟩⟩)
  | (refine run_begin_l1_o hF (LeX.of [] rfl ⟨⟨rfl, rfl⟩, ⟨rfl, rfl⟩, ⟨rfl, rfl⟩, ⟨rfl, rfl⟩, trivial⟩ ⟨⟨rfl, rfl⟩, ⟨rfl, rfl⟩, trivial⟩) (fun m v hF => ?_); unfold zal at hF)
  | (refine And.intro ⟨by kernel_rfl, by kernel_rfl⟩ ?_)
  | (refine EqX.mk (by first | rfl | kernel_rfl) ?_)
  | (exact RetX.o hF (by repeat' first | exact Sub.nil _ | exact Sub.refl _ | refine Sub.agg ?_ | refine Sub.tup ?_ | refine Sub.fn ?_ | exact SubL.nil | refine SubL.cons ?_ ?_ | refine Sub.sl _ ?_ | exact SubE.nil | refine SubE.cons ?_ ?_))
def R_run_Begin (r : z00) : AV := .agg [aI (r.fState), .sl 4 (List.map z09 (r.fBindings)), .sl 2 (List.map z07 (r.fStarts))]
theorem con_run_Begin {n : Nat} {r : z00} (hF : zn2 n = some r) : Con E0 false 40 [] (R_run_Begin r) := by
 unfold zn2 at hF
 refine Con.walk _ Tryz.func40 rfl (z06 Tryz.func40 rfl rfl) rfl (Or.inl rfl) ?_
 repeat' first
  | (refine AW.step ?_; conv => whnf)
  | (refine z0b.o hF (fun hF => ?_) (fun hF => ?_))
  | (refine z0b.t ?_)
  | (refine z0b.f ?_)
  | (refine And.intro ⟨by kernel_rfl, by kernel_rfl⟩ ?_)
  | (refine EqX.mk (by first | rfl | kernel_rfl) ?_)
  | (exact RetX.o hF (by repeat' first | exact Sub.nil _ | exact Sub.refl _ | refine Sub.agg ?_ | refine Sub.tup ?_ | refine Sub.fn ?_ | exact SubL.nil | refine SubL.cons ?_ ?_ | refine Sub.sl _ ?_ | exact SubE.nil | refine SubE.cons ?_ ?_))
def zpb (a0 : z0h) (a1 : z00) (a2 : z02) : List (Nat × Ent) := []
def z6e (r : z0h × z00 × z02) : List (Nat × Ent) := [(3, .box 94 [.ref [aI (r.1.fa.fVars), aI (r.1.fa.fScopes), .sl 1 (List.map z0m (r.1.fa.fStates)), .sl 17 (List.map z0n (r.1.fa.fEdges)), .mapv (List.map (encM z43 z0a) (r.1.fheld))]]), (4, .box 77 [aI (r.2.1.fState), .sl 4 (List.map z09 (r.2.1.fBindings)), .sl 2 (List.map z07 (r.2.1.fStarts))]), (5, .box 66 [aI (r.2.2.fSource), aI (r.2.2.fSeq), aI (r.2.2.fType), aI (r.2.2.fTime), .sl 3 (List.map z0c (r.2.2.fValues))])]
def z8u (r : z0h × z00 × z02) : AV := .fn 105 [.ptr 3 0, .ptr 4 0, .ptr 5 0]
def zox (r : z0h × z00 × z02) : AS := ⟨[(6, .fn 105 [.ptr 3 0, .ptr 4 0, .ptr 5 0])], z6e r⟩
theorem zel {n : Nat} {a0 : z0h} {a1 : z00} {a2 : z02} {r : z0h × z00 × z02} (hF : zbk n a0 a1 a2 = some r) : ConG E0.P none (CalF E0.P 73 0) [.ref [aI (a0.fa.fVars), aI (a0.fa.fScopes), .sl 1 (List.map z0m (a0.fa.fStates)), .sl 17 (List.map z0n (a0.fa.fEdges)), .mapv (List.map (encM z43 z0a) (a0.fheld))], .agg [aI (a1.fState), .sl 4 (List.map z09 (a1.fBindings)), .sl 2 (List.map z07 (a1.fStarts))], .agg [aI (a2.fSource), aI (a2.fSeq), aI (a2.fType), aI (a2.fTime), .sl 3 (List.map z0c (a2.fValues))]] [] (zpb a0 a1 a2) (z8u r) (z6e r) := by
 unfold zbk at hF
 refine ConG.walk (E := (E0p 3)) (caps := []) _ Tryz.func73 rfl rfl rfl rfl rfl ?_
 repeat' first
  | (refine AW.step ?_; conv => whnf)
  | (refine z0b.o hF (fun hF => ?_) (fun hF => ?_))
  | (refine z0b.t ?_)
  | (refine z0b.f ?_)
  | (refine GX.o (res := z8u) (meF := z6e) hF ?_; exact GX.mk (zox _) (LeX.of [] rfl ⟨⟨rfl, rfl⟩, trivial⟩ ⟨⟨rfl, rfl⟩, ⟨rfl, rfl⟩, ⟨rfl, rfl⟩, trivial⟩) rfl _ rfl (by repeat' first | exact Sub.nil _ | exact Sub.refl _ | refine Sub.agg ?_ | refine Sub.tup ?_ | refine Sub.fn ?_ | exact SubL.nil | refine SubL.cons ?_ ?_ | refine Sub.sl _ ?_ | exact SubE.nil | refine SubE.cons ?_ ?_) [] trivial rfl)
  | (refine And.intro ⟨by kernel_rfl, by kernel_rfl⟩ ?_)
  | (refine EqX.mk (by first | rfl | kernel_rfl) ?_)
def zm6 (m0 : (List z00)) (m1 : (List z03)) : List (Nat × Ent) := [(100000, .box 29 [.row 200000]), (200000, .row 77 3 (List.map z08 (m0))), (100001, .box 30 [.row 200001]), (200001, .row 83 1 (List.map z0j (m1)))]
def z30 (r : (List z00) × (List z03)) : List (Nat × Ent) := [(100000, .box 29 [.row 250000]), (250000, .row 77 3 (List.map z08 (r.1))), (100001, .box 30 [.row 250001]), (250001, .row 83 1 (List.map z0j (r.2)))]
def zdz (r : (List z00) × (List z03)) : AS := ⟨[(8, .ptr 100000 0), (9, .ptr 100001 0)], z30 r⟩
def z9e (a1 : (List z0g)) (a0 : z0h) (x1 : Nat) (v1_0 : Int × (List (List z02))) : AS := ⟨[(0, .ref [aI (a0.fa.fVars), aI (a0.fa.fScopes), .sl 1 (List.map z0m (a0.fa.fStates)), .sl 17 (List.map z0n (a0.fa.fEdges)), .mapv (List.map (encM z43 z0a) (a0.fheld))]), (4, .ptr 4 0), (5, .ptr 5 0), (15, .sl 4 (List.map z09 (a1))), (16, aI ((((List.map z09 (a1)).length : Nat) : Int))), (17, aI (v1_0.1))], [(4, .box 167 [.nils]), (5, .box 167 [.cont (x1) 13]), (13, .nest 26 (List.map (enR z0a 66 5) (v1_0.2)))]⟩
theorem zq6 {n N : Nat} {a1 : (List z0g)} {a0 : z0h} {x1 : Nat} {k1_0_0 : (List (List z02)) → Option (z0d)} {R : Exit → AS → Prop} {K : List z16} {c : Code} {σ : AS} {v0 : Int × (List (List z02))} {r : z0d} (hF : z5c n a1 a0 x1 k1_0_0 N v0 = some r) (hl : LeX E0 43 σ (z9e a1 a0 x1 v0)) (round : ∀ m v, z5c n a1 a0 x1 k1_0_0 (m + 1) v = some r → AW E0 43 (z0v (fun σ' => ∃ v', z5c n a1 a0 x1 k1_0_0 m v' = some r ∧ LeX E0 43 σ' (z9e a1 a0 x1 v')) (AW E0 43 R K)) [.code c] .normal (z9e a1 a0 x1 v)) : z5v E0 43 (fun next σ' => AW E0 43 (z0v next (AW E0 43 R K)) [.code c] .normal σ') σ :=
 LoopA.o (S := z9e a1 a0 x1) hF (fun _ => rfl) hl round
def zlz (r : z0d) : AV := .agg [.sl 1 (List.map (fun q => AV.sl 5 (List.map z0a q)) (r.fVars))]
theorem zrj {n : Nat} {a0 : z0h} {a1 : (List z0g)} {r : z0d} (hF : zgl n a0 a1 = some r) : Con E0 false 106 [.ref [aI (a0.fa.fVars), aI (a0.fa.fScopes), .sl 1 (List.map z0m (a0.fa.fStates)), .sl 17 (List.map z0n (a0.fa.fEdges)), .mapv (List.map (encM z43 z0a) (a0.fheld))], .sl 4 (List.map z09 (a1))] (zlz r) := by
 unfold zgl at hF
 refine Con.walk _ Tryz.func106 rfl (z06 Tryz.func106 rfl rfl) rfl (Or.inl rfl) ?_
 repeat' first
  | (refine AW.nstO (er := z0a) 66 5 hF 13 rfl (fun hF => ?_))
  | (refine AW.frrO (ety := 66) (sz := 5) z0a hF 13 rfl (fun hF => ?_))
  | (refine AW.regO hF (fun hF => ?_))
  | (refine AW.frzO hF 13 rfl (fun hF => ?_))
  | (refine AW.stepU [7, 2] ?_; conv => whnf)
  | (refine z0b.o hF (fun hF => ?_) (fun hF => ?_))
  | (refine z0b.t ?_)
  | (refine z0b.f ?_)
  | (refine OpX.nckR rfl rfl rfl rfl ?_)
  | (refine MakX.on hF (fun m hF => ?_))
  | (refine AW.nstO (er := z0a) 66 5 hF 13 rfl (fun hF => ?_))
  | (refine AW.frrO (ety := 66) (sz := 5) z0a hF 13 rfl (fun hF => ?_))
  | (refine IdxX.o z09 hF (fun x hF => ?_))
  | (refine OpX.ixc hF rfl rfl rfl rfl rfl rfl rfl rfl (fun hF => ?_))
  | (refine OpX.ntk z0a hF rfl rfl rfl rfl rfl rfl rfl rfl rfl rfl (fun q hF => ?_))
  | (refine OpX.lkv z43 z0a hF eqK_108 rfl rfl rfl rfl rfl rfl rfl rfl rfl rfl (by first | rfl | kernel_rfl) (by repeat' first | exact Sub.nil _ | exact Sub.refl _ | refine Sub.agg ?_ | refine Sub.tup ?_ | refine Sub.fn ?_ | exact SubL.nil | refine SubL.cons ?_ ?_ | refine Sub.sl _ ?_ | exact SubE.nil | refine SubE.cons ?_ ?_) (fun v b hF => ?_))
  | (refine AppX.o z0a hF (by first | exact SubR.refl _ | (repeat' first | exact SubR.nil | refine SubR.cons ?_ ?_ | exact SubL.nil | refine SubL.cons ?_ ?_ | exact Sub.refl _ | exact Sub.nil _)) (fun l hF => ?_))
  | (refine OpX.npt z0a hF rfl rfl rfl rfl rfl rfl rfl rfl rfl rfl rfl (fun l hF => ?_))
  | (exact ⟨_, hF, LeX.of [] rfl ⟨⟨rfl, rfl⟩, ⟨rfl, rfl⟩, ⟨rfl, rfl⟩, ⟨rfl, rfl⟩, ⟨rfl, rfl⟩, ⟨rfl, rfl⟩, trivial⟩ ⟨⟨rfl, rfl⟩, ⟨rfl, rfl⟩, ⟨rfl, rfl⟩, trivial⟩⟩)
  | (refine zq6 hF (LeX.of [] rfl ⟨⟨rfl, rfl⟩, ⟨rfl, rfl⟩, ⟨rfl, rfl⟩, ⟨rfl, rfl⟩, ⟨rfl, rfl⟩, ⟨rfl, rfl⟩, trivial⟩ ⟨⟨rfl, rfl⟩, ⟨rfl, rfl⟩, ⟨rfl, rfl⟩, trivial⟩) (fun m v hF => ?_); unfold z5c at hF)
  | (refine And.intro ⟨by kernel_rfl, by kernel_rfl⟩ ?_)
  | (refine EqX.mk (by first | rfl | kernel_rfl) ?_)
  | (exact RetX.o hF (by repeat' first | exact Sub.nil _ | exact Sub.refl _ | refine Sub.agg ?_ | refine Sub.tup ?_ | refine Sub.fn ?_ | exact SubL.nil | refine SubL.cons ?_ ?_ | refine Sub.sl _ ?_ | exact SubE.nil | refine SubE.cons ?_ ?_))
end Go.Proofs.YtjpknpjjcddnnaaGreat
namespace Go.Proofs.YtjpknpjjcddnnaaGreat
open Go.RowKit
theorem zrm : Con E0 false 198 [] (.mapv [(aI (5), .fn 210 [.ref [.fn 209 []]]), (aI (6), .fn 211 [.ref [.fn 209 []]]), (aI (7), .fn 212 []), (aI (8), .fn 213 []), (aI (10), .fn 214 []), (aI (11), .fn 215 []), (aI (12), .fn 216 [])]) := by
 refine Con.walk _ Tryz.func198 rfl (z06 Tryz.func198 rfl rfl) rfl (Or.inl rfl) ?_
 repeat' first
  | (refine AW.frbO hF 1 rfl rfl (fun hF => ?_))
  | (refine AW.frb0 1 rfl rfl ?_)
  | (refine AW.into ?_)
  | (refine AW.frbO hF 1 rfl rfl (fun hF => ?_))
  | (refine AW.frb0 1 rfl rfl ?_)
  | (refine AW.regO hF (fun hF => ?_))
  | (refine AW.frzO hF 1 rfl (fun hF => ?_))
  | (refine AW.stepU [2] ?_; conv => whnf)
  | (refine z0b.o hF (fun hF => ?_) (fun hF => ?_))
  | (refine z0b.t ?_)
  | (refine z0b.f ?_)
  | (refine AW.frbO hF 1 rfl rfl (fun hF => ?_))
  | (refine AW.frb0 1 rfl rfl ?_)
  | (refine UpX.mk _ _ (by first | rfl | kernel_rfl) (by first | rfl | kernel_rfl) (SubM.refl _) ?_)
  | (refine And.intro ⟨by kernel_rfl, by kernel_rfl⟩ ?_)
  | (refine EqX.mk (by first | rfl | kernel_rfl) ?_)
  | (exact RetX.mk rfl)
def z7y (a1 : Int) (a0f2 : z02) (a0f1 : Int) (a0f0 : z0d) (w1_0 : Bool) : AS := ⟨[(1, aI (a1)), (2, .ptr 2 0), (14, .bool (w1_0))], [(2, .box 253 [.sl 1 (List.map (fun q => AV.sl 5 (List.map z0a q)) (a0f0.fVars)), aI (a0f1), aI (a0f2.fSource), aI (a0f2.fSeq), aI (a0f2.fType), aI (a0f2.fTime), .sl 3 (List.map z0c (a0f2.fValues)), .mapv [(aI (5), .fn 210 [.ref [.fn 209 []]]), (aI (6), .fn 211 [.ref [.fn 209 []]]), (aI (7), .fn 212 []), (aI (8), .fn 213 []), (aI (10), .fn 214 []), (aI (11), .fn 215 []), (aI (12), .fn 216 [])]])]⟩
theorem zb4 {n : Nat} {a1 : Int} {a0f2 : z02} {a0f1 : Int} {a0f0 : z0d} {R : Exit → AS → Prop} {K : List z16} {i : Nat} {os : Array Oper} {d : Bool} {C : Code} {σ : AS} {x : Option ((List z02))} {r : (List z02)} (hF : jon (z19 n a1 a0f2 a0f1 a0f0) x = some r) (h1 : x = some r → AW E0 21 (z0v (fun σ' => ∃ v', z19 n a1 a0f2 a0f1 a0f0 v' = some r ∧ LeX E0 21 σ' (z7y a1 a0f2 a0f1 a0f0 v')) (AW E0 21 R (.code C :: K))) [.code (.region i os d)] .normal σ) (h2 : ∀ v, z19 n a1 a0f2 a0f1 a0f0 v = some r → AW E0 21 R (.code C :: K) .normal (z7y a1 a0f2 a0f1 a0f0 v)) : AW E0 21 R (.code (.region i os d) :: .code C :: K) .normal σ :=
 AW.joinO1 (S := z7y a1 a0f2 a0f1 a0f0) hF h1 h2
def z9n (r : (List z02)) : AV := .sl 5 (List.map z0a (r))
theorem zc8 {n : Nat} {a0f0 : z0d} {a0f1 : Int} {a0f2 : z02} {a1 : Int} {r : (List z02)} (hF : z73 n a0f0 a0f1 a0f2 a1 = some r) : Con E0 false 224 [.agg [.sl 1 (List.map (fun q => AV.sl 5 (List.map z0a q)) (a0f0.fVars)), aI (a0f1), aI (a0f2.fSource), aI (a0f2.fSeq), aI (a0f2.fType), aI (a0f2.fTime), .sl 3 (List.map z0c (a0f2.fValues)), .mapv [(aI (5), .fn 210 [.ref [.fn 209 []]]), (aI (6), .fn 211 [.ref [.fn 209 []]]), (aI (7), .fn 212 []), (aI (8), .fn 213 []), (aI (10), .fn 214 []), (aI (11), .fn 215 []), (aI (12), .fn 216 [])]], aI (a1)] (z9n r) := by
 unfold z73 at hF
 refine Con.walk _ Tryz.func224 rfl (z06 Tryz.func224 rfl rfl) rfl (Or.inl rfl) ?_
 repeat' first
  | (refine zb4 hF (fun hF => ?_) (fun v hF => ?_); rotate_left; unfold z19 at hF)
  | (refine AW.regO hF (fun hF => ?_))
  | (refine AW.stepU [1] ?_; conv => whnf)
  | (refine z0b.o hF (fun hF => ?_) (fun hF => ?_))
  | (refine z0b.t ?_)
  | (refine z0b.f ?_)
  | (refine IdxX.o (fun q => AV.sl 5 (List.map z0a q)) hF (fun x hF => ?_))
  | (refine zb4 hF (fun hF => ?_) (fun v hF => ?_); rotate_left; unfold z19 at hF)
  | (exact ⟨_, hF, LeX.of [] rfl ⟨⟨rfl, rfl⟩, ⟨rfl, rfl⟩, ⟨rfl, rfl⟩, trivial⟩ ⟨⟨rfl, rfl⟩, trivial⟩⟩)
  | (refine And.intro ⟨by kernel_rfl, by kernel_rfl⟩ ?_)
  | (refine EqX.mk (by first | rfl | kernel_rfl) ?_)
  | (exact RetX.o hF (by repeat' first | exact Sub.nil _ | exact Sub.refl _ | refine Sub.agg ?_ | refine Sub.tup ?_ | refine Sub.fn ?_ | exact SubL.nil | refine SubL.cons ?_ ?_ | refine Sub.sl _ ?_ | exact SubE.nil | refine SubE.cons ?_ ?_))
def zp8 (r : z01 × Int) : AV := .tup [.agg [aI (r.1.fKind), aI (r.1.fNum), .str (r.1.fText)], aI (r.2)]
theorem zr3 {n : Nat} {a0 : z02} {a1 : Int} {r : z01 × Int} (hF : zkl n a0 a1 = some r) : Con E0 true 226 [.agg [aI (a0.fSource), aI (a0.fSeq), aI (a0.fType), aI (a0.fTime), .sl 3 (List.map z0c (a0.fValues))], aI (a1)] (zp8 r) := by
 unfold zkl at hF
 refine Con.walk _ Tryz.func226 rfl (z06 Tryz.func226 rfl rfl) rfl (Or.inr rfl) ?_
 repeat' first
  | (refine AW.step ?_; conv => whnf)
  | (refine z0b.o hF (fun hF => ?_) (fun hF => ?_))
  | (refine z0b.t ?_)
  | (refine z0b.f ?_)
  | (refine IdxX.o z0c hF (fun x hF => ?_))
  | (refine And.intro ⟨by kernel_rfl, by kernel_rfl⟩ ?_)
  | (refine EqX.mk (by first | rfl | kernel_rfl) ?_)
  | (exact RetX.o hF (by repeat' first | exact Sub.nil _ | exact Sub.refl _ | refine Sub.agg ?_ | refine Sub.tup ?_ | refine Sub.fn ?_ | exact SubL.nil | refine SubL.cons ?_ ?_ | refine Sub.sl _ ?_ | exact SubE.nil | refine SubE.cons ?_ ?_))
def z5l (a1 : z0f) (x1 : (List z02)) (v1_0 : Int × (List z01)) : AS := ⟨[(3, .ptr 3 0), (4, .ptr 4 0), (6, .row 7034), (14, .sl 5 (List.map z0a (x1))), (15, aI ((((List.map z0a (x1)).length : Nat) : Int))), (16, aI (v1_0.1))], [(3, .box 47 [aI (a1.fOp), .sl 8 (List.map idA (a1.fArgs)), aI (a1.fVar), aI (a1.fField), aI (a1.fKind), aI (a1.fValue.fKind), aI (a1.fValue.fNum), .str (a1.fValue.fText)]), (4, .box 45 [aI (0), aI (0), .str (ByteArray.empty)]), (7034, .row 45 3 (List.map z0c (v1_0.2)))]⟩
theorem zjz {n N : Nat} {a1 : z0f} {x1 : (List z02)} {k1_0_0 : (List z01) → Option (z01 × Int)} {R : Exit → AS → Prop} {K : List z16} {c : Code} {σ : AS} {v0 : Int × (List z01)} {r : z01 × Int} (hF : z3c n a1 x1 k1_0_0 N v0 = some r) (hl : LeX E0 44 σ (z5l a1 x1 v0)) (round : ∀ m v, z3c n a1 x1 k1_0_0 (m + 1) v = some r → AW E0 44 (z0v (fun σ' => ∃ v', z3c n a1 x1 k1_0_0 m v' = some r ∧ LeX E0 44 σ' (z5l a1 x1 v')) (AW E0 44 R K)) [.code c] .normal (z5l a1 x1 v)) : z5v E0 44 (fun next σ' => AW E0 44 (z0v next (AW E0 44 R K)) [.code c] .normal σ') σ :=
 LoopA.o (S := z5l a1 x1) hF (fun _ => rfl) hl round
def zf6 (r : z01 × Int) : AV := .tup [.agg [aI (r.1.fKind), aI (r.1.fNum), .str (r.1.fText)], aI (r.2)]
theorem zkz {n : Nat} {a0f0 : z0d} {a0f1 : Int} {a0f2 : z02} {a1 : z0f} {r : z01 × Int} (hF : zaj n a0f0 a0f1 a0f2 a1 = some r) : Con E0 true 225 [.agg [.sl 1 (List.map (fun q => AV.sl 5 (List.map z0a q)) (a0f0.fVars)), aI (a0f1), aI (a0f2.fSource), aI (a0f2.fSeq), aI (a0f2.fType), aI (a0f2.fTime), .sl 3 (List.map z0c (a0f2.fValues)), .mapv [(aI (5), .fn 210 [.ref [.fn 209 []]]), (aI (6), .fn 211 [.ref [.fn 209 []]]), (aI (7), .fn 212 []), (aI (8), .fn 213 []), (aI (10), .fn 214 []), (aI (11), .fn 215 []), (aI (12), .fn 216 [])]], .agg [aI (a1.fOp), .sl 8 (List.map idA (a1.fArgs)), aI (a1.fVar), aI (a1.fField), aI (a1.fKind), aI (a1.fValue.fKind), aI (a1.fValue.fNum), .str (a1.fValue.fText)]] (zf6 r) := by
 unfold zaj at hF
 refine Con.walk _ Tryz.func225 rfl (z06 Tryz.func225 rfl rfl) rfl (Or.inr rfl) ?_
 repeat' first
  | (refine AW.step ?_; conv => whnf)
  | (refine z0b.o hF (fun hF => ?_) (fun hF => ?_))
  | (refine z0b.t ?_)
  | (refine z0b.f ?_)
  | (refine z0p.o hF z9n (fun a h => zc8 h) (fun a hF => ?_))
  | (refine z9v.o hF zr9 (fun a h => con_aggregate_Of h) (fun _ => Or.inr rfl) (fun a hF => ?_))
  | (refine IdxX.o z0a hF (fun x hF => ?_))
  | (refine z0p.o hF zp8 (fun a h => zr3 h) (fun a hF => ?_))
  | (refine AppX.o z0c hF (by first | exact SubR.refl _ | (repeat' first | exact SubR.nil | refine SubR.cons ?_ ?_ | exact SubL.nil | refine SubL.cons ?_ ?_ | exact Sub.refl _ | exact Sub.nil _)) (fun l hF => ?_))
  | (exact ⟨_, hF, LeX.of [(7034, 34)] rfl ⟨⟨rfl, rfl⟩, ⟨rfl, rfl⟩, ⟨rfl, rfl⟩, ⟨rfl, rfl⟩, ⟨rfl, rfl⟩, ⟨rfl, rfl⟩, trivial⟩ ⟨⟨rfl, rfl⟩, ⟨rfl, rfl⟩, ⟨rfl, rfl⟩, trivial⟩⟩)
  | (refine zjz hF (LeX.trans (LeX.adopt 6 7034 45 3 rfl rfl) (LeX.of [] rfl ⟨⟨rfl, rfl⟩, ⟨rfl, rfl⟩, ⟨rfl, rfl⟩, ⟨rfl, rfl⟩, ⟨rfl, rfl⟩, ⟨rfl, rfl⟩, trivial⟩ ⟨⟨rfl, rfl⟩, ⟨rfl, rfl⟩, ⟨rfl, rfl⟩, trivial⟩)) (fun m v hF => ?_); unfold z3c at hF)
  | (refine And.intro ⟨by kernel_rfl, by kernel_rfl⟩ ?_)
  | (refine EqX.mk (by first | rfl | kernel_rfl) ?_)
  | (exact RetX.o hF (by repeat' first | exact Sub.nil _ | exact Sub.refl _ | refine Sub.agg ?_ | refine Sub.tup ?_ | refine Sub.fn ?_ | exact SubL.nil | refine SubL.cons ?_ ?_ | refine Sub.sl _ ?_ | exact SubE.nil | refine SubE.cons ?_ ?_))
def z96 (x9 : z01 × Int) (w2_1 : Int) : AS := ⟨[(4, .ptr 4 0), (8, .ptr 8 0), (9, aI (w2_1))], [(4, .box 45 [aI (0), aI (0), .str (ByteArray.empty)]), (8, .box 45 [aI (x9.1.fKind), aI (x9.1.fNum), .str (x9.1.fText)])]⟩
theorem zcw {n : Nat} {x9 : z01 × Int} {R : Exit → AS → Prop} {K : List z16} {i : Nat} {os : Array Oper} {d : Bool} {B C : Code} {σ : AS} {x : Option (z01 × Int)} {r : z01 × Int} (hF : jon (z1h n x9) x = some r) (h1 : x = some r → AW E0 71 (z0v (fun σ' => ∃ v', z1h n x9 v' = some r ∧ LeX E0 71 σ' (z96 x9 v')) (AW E0 71 R (.code C :: K))) [.code (.region i os d), .code B] .normal σ) (h2 : ∀ v, z1h n x9 v = some r → AW E0 71 R (.code C :: K) .normal (z96 x9 v)) : AW E0 71 R (.code (.region i os d) :: .code B :: .code C :: K) .normal σ :=
 AW.joinO2 (S := z96 x9) hF h1 h2
def z97 (a1 : z0f) (w1_0 : Int × Int × Int × Int × (List z01)) : AS := ⟨[(3, .ptr 3 0), (4, .ptr 4 0), (7, .ptr 7 0)], [(3, .box 47 [aI (a1.fOp), .sl 8 (List.map idA (a1.fArgs)), aI (a1.fVar), aI (a1.fField), aI (a1.fKind), aI (a1.fValue.fKind), aI (a1.fValue.fNum), .str (a1.fValue.fText)]), (4, .box 45 [aI (0), aI (0), .str (ByteArray.empty)]), (7, .box 66 [aI (w1_0.1), aI (w1_0.2.1), aI (w1_0.2.2.1), aI (w1_0.2.2.2.1), .sl 3 (List.map z0c (w1_0.2.2.2.2))])]⟩
theorem zcx {n : Nat} {a1 : z0f} {R : Exit → AS → Prop} {K : List z16} {i : Nat} {os : Array Oper} {d : Bool} {B C : Code} {σ : AS} {x : Option (z01 × Int)} {r : z01 × Int} (hF : jon (z1i n a1) x = some r) (h1 : x = some r → AW E0 71 (z0v (fun σ' => ∃ v', z1i n a1 v' = some r ∧ LeX E0 71 σ' (z97 a1 v')) (AW E0 71 R (.code C :: K))) [.code (.region i os d), .code B] .normal σ) (h2 : ∀ v, z1i n a1 v = some r → AW E0 71 R (.code C :: K) .normal (z97 a1 v)) : AW E0 71 R (.code (.region i os d) :: .code B :: .code C :: K) .normal σ :=
 AW.joinO2 (S := z97 a1) hF h1 h2
def zfz (r : z01 × Int) : AV := .tup [.agg [aI (r.1.fKind), aI (r.1.fNum), .str (r.1.fText)], aI (r.2)]
theorem zls {n : Nat} {a0f0 : z0d} {a0f1 : Int} {a0f2 : z02} {a1 : z0f} {r : z01 × Int} (hF : zax n a0f0 a0f1 a0f2 a1 = some r) : Con E0 true 217 [.agg [.sl 1 (List.map (fun q => AV.sl 5 (List.map z0a q)) (a0f0.fVars)), aI (a0f1), aI (a0f2.fSource), aI (a0f2.fSeq), aI (a0f2.fType), aI (a0f2.fTime), .sl 3 (List.map z0c (a0f2.fValues)), .mapv [(aI (5), .fn 210 [.ref [.fn 209 []]]), (aI (6), .fn 211 [.ref [.fn 209 []]]), (aI (7), .fn 212 []), (aI (8), .fn 213 []), (aI (10), .fn 214 []), (aI (11), .fn 215 []), (aI (12), .fn 216 [])]], .agg [aI (a1.fOp), .sl 8 (List.map idA (a1.fArgs)), aI (a1.fVar), aI (a1.fField), aI (a1.fKind), aI (a1.fValue.fKind), aI (a1.fValue.fNum), .str (a1.fValue.fText)]] (zfz r) := by
 unfold zax at hF
 refine Con.walk _ Tryz.func217 rfl (z06 Tryz.func217 rfl rfl) rfl (Or.inr rfl) ?_
 repeat' first
  | (refine zcw hF (fun hF => ?_) (fun v hF => ?_); rotate_left; unfold z1h at hF)
  | (refine zcx hF (fun hF => ?_) (fun v hF => ?_); rotate_left; unfold z1i at hF)
  | (refine AW.regO hF (fun hF => ?_))
  | (refine AW.stepU [10, 17] ?_; conv => whnf)
  | (refine z0b.o hF (fun hF => ?_) (fun hF => ?_))
  | (refine z0b.t ?_)
  | (refine z0b.f ?_)
  | (refine z0p.o hF z9n (fun a h => zc8 h) (fun a hF => ?_))
  | (refine z0p.o hF zf6 (fun a h => zkz h) (fun a hF => ?_))
  | (refine z0p.o hF zp8 (fun a h => zr3 h) (fun a hF => ?_))
  | (refine zcw hF (fun hF => ?_) (fun v hF => ?_); rotate_left; unfold z1h at hF)
  | (refine z0p.o hF zey (fun a h => zej h) (fun a hF => ?_))
  | (exact ⟨_, hF, LeX.of [] rfl ⟨⟨rfl, rfl⟩, ⟨rfl, rfl⟩, ⟨rfl, rfl⟩, trivial⟩ ⟨⟨rfl, rfl⟩, ⟨rfl, rfl⟩, trivial⟩⟩)
  | (refine zcx hF (fun hF => ?_) (fun v hF => ?_); rotate_left; unfold z1i at hF)
  | (refine IdxX.o z0a hF (fun x hF => ?_))
  | (exact ⟨_, hF, LeX.of [] rfl ⟨⟨rfl, rfl⟩, ⟨rfl, rfl⟩, ⟨rfl, rfl⟩, trivial⟩ ⟨⟨rfl, rfl⟩, ⟨rfl, rfl⟩, ⟨rfl, rfl⟩, trivial⟩⟩)
  | (refine And.intro ⟨by kernel_rfl, by kernel_rfl⟩ ?_)
  | (refine EqX.mk (by first | rfl | kernel_rfl) ?_)
  | (exact RetX.o hF (by repeat' first | exact Sub.nil _ | exact Sub.refl _ | refine Sub.agg ?_ | refine Sub.tup ?_ | refine Sub.fn ?_ | exact SubL.nil | refine SubL.cons ?_ ?_ | refine Sub.sl _ ?_ | exact SubE.nil | refine SubE.cons ?_ ?_))
def zew (a1 : (List Int)) (a0 : Int) (v1_0 : Int) (cv1_0 : Int → Option (Int)) (x41 : Int) (w6_2 : Bool) : AS := ⟨[(0, aI (a0)), (1, .sl 1 (List.map aI (a1))), (6, aI (x41)), (7, .bool (true)), (8, .sl 1 (List.map aI (a1))), (9, aI ((((List.map aI (a1)).length : Nat) : Int))), (10, aI (v1_0)), (14, aI (a0)), (22, .bool (w6_2))], []⟩
theorem zk6 {n : Nat} {a1 : (List Int)} {a0 : Int} {v1_0 : Int} {cv1_0 : Int → Option (Int)} {x41 : Int} {R : Exit → AS → Prop} {K : List z16} {i : Nat} {os : Array Oper} {d : Bool} {B C : Code} {σ : AS} {x : Option (Int)} {r : Int} (hF : jon (z36 n a1 a0 v1_0 cv1_0 x41) x = some r) (h1 : x = some r → AW E0 38 (z0v (fun σ' => ∃ v', z36 n a1 a0 v1_0 cv1_0 x41 v' = some r ∧ LeX E0 38 σ' (zew a1 a0 v1_0 cv1_0 x41 v')) (AW E0 38 R (.code C :: K))) [.code (.region i os d), .code B] .normal σ) (h2 : ∀ v, z36 n a1 a0 v1_0 cv1_0 x41 v = some r → AW E0 38 R (.code C :: K) .normal (zew a1 a0 v1_0 cv1_0 x41 v)) : AW E0 38 R (.code (.region i os d) :: .code B :: .code C :: K) .normal σ :=
 AW.joinO2 (S := zew a1 a0 v1_0 cv1_0 x41) hF h1 h2
def zex (a1 : (List Int)) (a0 : Int) (v1_0 : Int) (cv1_0 : Int → Option (Int)) (x41 : Int) (w5_1 : Bool) : AS := ⟨[(0, aI (a0)), (1, .sl 1 (List.map aI (a1))), (6, aI (x41)), (7, .bool (true)), (8, .sl 1 (List.map aI (a1))), (9, aI ((((List.map aI (a1)).length : Nat) : Int))), (10, aI (v1_0)), (14, aI (a0)), (15, .bool (w5_1))], []⟩
theorem zk7 {n : Nat} {a1 : (List Int)} {a0 : Int} {v1_0 : Int} {cv1_0 : Int → Option (Int)} {x41 : Int} {R : Exit → AS → Prop} {K : List z16} {i : Nat} {os : Array Oper} {d : Bool} {B C : Code} {σ : AS} {x : Option (Int)} {r : Int} (hF : jon (z2q n a1 a0 v1_0 cv1_0 x41) x = some r) (h1 : x = some r → AW E0 38 (z0v (fun σ' => ∃ v', z2q n a1 a0 v1_0 cv1_0 x41 v' = some r ∧ LeX E0 38 σ' (zex a1 a0 v1_0 cv1_0 x41 v')) (AW E0 38 R (.code C :: K))) [.code (.region i os d), .code B] .normal σ) (h2 : ∀ v, z2q n a1 a0 v1_0 cv1_0 x41 v = some r → AW E0 38 R (.code C :: K) .normal (zex a1 a0 v1_0 cv1_0 x41 v)) : AW E0 38 R (.code (.region i os d) :: .code B :: .code C :: K) .normal σ :=
 AW.joinO2 (S := zex a1 a0 v1_0 cv1_0 x41) hF h1 h2
def zaz (a1 : (List Int)) (a0 : Int) (v1_0 : Int) : AS := ⟨[(0, aI (a0)), (1, .sl 1 (List.map aI (a1))), (8, .sl 1 (List.map aI (a1))), (9, aI ((((List.map aI (a1)).length : Nat) : Int))), (10, aI (v1_0))], []⟩
theorem zsh {n N : Nat} {a1 : (List Int)} {a0 : Int} {k1_0_0 : Option (Int)} {R : Exit → AS → Prop} {K : List z16} {c : Code} {σ : AS} {v0 : Int} {r : Int} (hF : z35 n a1 a0 k1_0_0 N v0 = some r) (hl : LeX E0 38 σ (zaz a1 a0 v0)) (round : ∀ m v, z35 n a1 a0 k1_0_0 (m + 1) v = some r → AW E0 38 (z0v (fun σ' => ∃ v', z35 n a1 a0 k1_0_0 m v' = some r ∧ LeX E0 38 σ' (zaz a1 a0 v')) (AW E0 38 R K)) [.code c] .normal (zaz a1 a0 v)) : z5v E0 38 (fun next σ' => AW E0 38 (z0v next (AW E0 38 R K)) [.code c] .normal σ') σ :=
 LoopA.o (S := zaz a1 a0) hF (fun _ => rfl) hl round
def zp7 (r : Int) : AV := aI (r)
theorem con_expr_operands {n : Nat} {a0 : Int} {a1 : (List Int)} {r : Int} (hF : zjq n a0 a1 = some r) : Con E0 true 218 [aI (a0), .sl 1 (List.map aI (a1))] (zp7 r) := by
 unfold zjq at hF
 refine Con.walk _ Tryz.func218 rfl (z06 Tryz.func218 rfl rfl) rfl (Or.inr rfl) ?_
 repeat' first
  | (refine zk6 hF (fun hF => ?_) (fun v hF => ?_); rotate_left; unfold z36 at hF)
  | (refine zk7 hF (fun hF => ?_) (fun v hF => ?_); rotate_left; unfold z2q at hF)
  | (refine AW.regO hF (fun hF => ?_))
  | (refine AW.stepU [6, 7, 8, 11, 12, 15] ?_; conv => whnf)
  | (refine z0b.o hF (fun hF => ?_) (fun hF => ?_))
  | (refine z0b.t ?_)
  | (refine z0b.f ?_)
  | (refine IdxX.o aI hF (fun x hF => ?_))
  | (exact ⟨_, hF, LeX.of [] rfl ⟨⟨rfl, rfl⟩, ⟨rfl, rfl⟩, ⟨rfl, rfl⟩, ⟨rfl, rfl⟩, ⟨rfl, rfl⟩, trivial⟩ trivial⟩)
  | (refine zk6 hF (fun hF => ?_) (fun v hF => ?_); rotate_left; unfold z36 at hF)
  | (exact ⟨_, hF, LeX.of [] rfl ⟨⟨rfl, rfl⟩, ⟨rfl, rfl⟩, ⟨rfl, rfl⟩, ⟨rfl, rfl⟩, ⟨rfl, rfl⟩, ⟨rfl, rfl⟩, ⟨rfl, rfl⟩, ⟨rfl, rfl⟩, ⟨rfl, rfl⟩, trivial⟩ trivial⟩)
  | (refine zk7 hF (fun hF => ?_) (fun v hF => ?_); rotate_left; unfold z2q at hF)
  | (refine zsh hF (LeX.of [] rfl ⟨⟨rfl, rfl⟩, ⟨rfl, rfl⟩, ⟨rfl, rfl⟩, ⟨rfl, rfl⟩, ⟨rfl, rfl⟩, trivial⟩ trivial) (fun m v hF => ?_); unfold z35 at hF)
  | (refine And.intro ⟨by kernel_rfl, by kernel_rfl⟩ ?_)
  | (refine EqX.mk (by first | rfl | kernel_rfl) ?_)
  | (exact RetX.o hF (by repeat' first | exact Sub.nil _ | exact Sub.refl _ | refine Sub.agg ?_ | refine Sub.tup ?_ | refine Sub.fn ?_ | exact SubL.nil | refine SubL.cons ?_ ?_ | refine Sub.sl _ ?_ | exact SubE.nil | refine SubE.cons ?_ ?_))
def R_value_Bool (r : z01) : AV := .agg [aI (r.fKind), aI (r.fNum), .str (r.fText)]
theorem con_value_Bool {n : Nat} {a0 : Bool} {r : z01} (hF : zph n a0 = some r) : Con E0 true 200 [.bool (a0)] (R_value_Bool r) := by
 unfold zph at hF
 refine Con.walk _ Tryz.func200 rfl (z06 Tryz.func200 rfl rfl) rfl (Or.inr rfl) ?_
 repeat' first
  | (refine AW.step ?_; conv => whnf)
  | (refine z0b.o hF (fun hF => ?_) (fun hF => ?_))
  | (refine z0b.t ?_)
  | (refine z0b.f ?_)
  | (refine And.intro ⟨by kernel_rfl, by kernel_rfl⟩ ?_)
  | (refine EqX.mk (by first | rfl | kernel_rfl) ?_)
  | (exact RetX.o hF (by repeat' first | exact Sub.nil _ | exact Sub.refl _ | refine Sub.agg ?_ | refine Sub.tup ?_ | refine Sub.fn ?_ | exact SubL.nil | refine SubL.cons ?_ ?_ | refine Sub.sl _ ?_ | exact SubE.nil | refine SubE.cons ?_ ?_))
def zbc (r : z01) : AV := .agg [aI (r.fKind), aI (r.fNum), .str (r.fText)]
theorem za3 {n : Nat} {a0 : Bool} {r : z01} (hF : z83 n a0 = some r) : Con E0 true 173 [.bool (a0)] (zbc r) := by
 unfold z83 at hF
 refine Con.walk _ Tryz.func173 rfl (z06 Tryz.func173 rfl rfl) rfl (Or.inr rfl) ?_
 repeat' first
  | (refine AW.step ?_; conv => whnf)
  | (refine z0b.o hF (fun hF => ?_) (fun hF => ?_))
  | (refine z0b.t ?_)
  | (refine z0b.f ?_)
  | (refine z0p.o hF R_value_Bool (fun a h => con_value_Bool h) (fun a hF => ?_))
  | (refine And.intro ⟨by kernel_rfl, by kernel_rfl⟩ ?_)
  | (refine EqX.mk (by first | rfl | kernel_rfl) ?_)
  | (exact RetX.o hF (by repeat' first | exact Sub.nil _ | exact Sub.refl _ | refine Sub.agg ?_ | refine Sub.tup ?_ | refine Sub.fn ?_ | exact SubL.nil | refine SubL.cons ?_ ?_ | refine Sub.sl _ ?_ | exact SubE.nil | refine SubE.cons ?_ ?_))
def zdj (r : z01) : AV := .agg [aI (r.fKind), aI (r.fNum), .str (r.fText)]
theorem zgy {n : Nat} {a0 : Int} {r : z01} (hF : zai n a0 = some r) : Con E0 true 209 [aI (a0)] (zdj r) := by
 unfold zai at hF
 refine Con.walk _ Tryz.func209 rfl (z06 Tryz.func209 rfl rfl) rfl (Or.inr rfl) ?_
 repeat' first
  | (refine AW.step ?_; conv => whnf)
  | (refine z0b.o hF (fun hF => ?_) (fun hF => ?_))
  | (refine z0b.t ?_)
  | (refine z0b.f ?_)
  | (refine And.intro ⟨by kernel_rfl, by kernel_rfl⟩ ?_)
  | (refine EqX.mk (by first | rfl | kernel_rfl) ?_)
  | (exact RetX.o hF (by repeat' first | exact Sub.nil _ | exact Sub.refl _ | refine Sub.agg ?_ | refine Sub.tup ?_ | refine Sub.fn ?_ | exact SubL.nil | refine SubL.cons ?_ ?_ | refine Sub.sl _ ?_ | exact SubE.nil | refine SubE.cons ?_ ?_))
def zjj (r : z01) : AV := .agg [aI (r.fKind), aI (r.fNum), .str (r.fText)]
theorem zon {n : Nat} {a0 : Int} {a1 : Int} {r : z01} (hF : zdt n a0 a1 = some r) : Con E0 true 210 [aI (a0), aI (a1), .ref [.fn 209 []]] (zjj r) := by
 unfold zdt at hF
 refine Con.walk _ Tryz.func210 rfl (z06 Tryz.func210 rfl rfl) rfl (Or.inr rfl) ?_
 repeat' first
  | (refine AW.step ?_; conv => whnf)
  | (refine z0b.o hF (fun hF => ?_) (fun hF => ?_))
  | (refine z0b.t ?_)
  | (refine z0b.f ?_)
  | (refine z0p.o hF zdj (fun a h => zgy h) (fun a hF => ?_))
  | (refine And.intro ⟨by kernel_rfl, by kernel_rfl⟩ ?_)
  | (refine EqX.mk (by first | rfl | kernel_rfl) ?_)
  | (exact RetX.o hF (by repeat' first | exact Sub.nil _ | exact Sub.refl _ | refine Sub.agg ?_ | refine Sub.tup ?_ | refine Sub.fn ?_ | exact SubL.nil | refine SubL.cons ?_ ?_ | refine Sub.sl _ ?_ | exact SubE.nil | refine SubE.cons ?_ ?_))
def zji (r : z01) : AV := .agg [aI (r.fKind), aI (r.fNum), .str (r.fText)]
theorem zom {n : Nat} {a0 : Int} {a1 : Int} {r : z01} (hF : zds n a0 a1 = some r) : Con E0 true 211 [aI (a0), aI (a1), .ref [.fn 209 []]] (zji r) := by
 unfold zds at hF
 refine Con.walk _ Tryz.func211 rfl (z06 Tryz.func211 rfl rfl) rfl (Or.inr rfl) ?_
 repeat' first
  | (refine AW.step ?_; conv => whnf)
  | (refine z0b.o hF (fun hF => ?_) (fun hF => ?_))
  | (refine z0b.t ?_)
  | (refine z0b.f ?_)
  | (refine z0p.o hF zdj (fun a h => zgy h) (fun a hF => ?_))
  | (refine And.intro ⟨by kernel_rfl, by kernel_rfl⟩ ?_)
  | (refine EqX.mk (by first | rfl | kernel_rfl) ?_)
  | (exact RetX.o hF (by repeat' first | exact Sub.nil _ | exact Sub.refl _ | refine Sub.agg ?_ | refine Sub.tup ?_ | refine Sub.fn ?_ | exact SubL.nil | refine SubL.cons ?_ ?_ | refine Sub.sl _ ?_ | exact SubE.nil | refine SubE.cons ?_ ?_))
def zjh (r : z01) : AV := .agg [aI (r.fKind), aI (r.fNum), .str (r.fText)]
theorem zol {n : Nat} {a0 : Int} {a1 : Int} {r : z01} (hF : zdr n a0 a1 = some r) : Con E0 true 212 [aI (a0), aI (a1)] (zjh r) := by
 unfold zdr at hF
 refine Con.walk _ Tryz.func212 rfl (z06 Tryz.func212 rfl rfl) rfl (Or.inr rfl) ?_
 repeat' first
  | (refine AW.step ?_; conv => whnf)
  | (refine z0b.o hF (fun hF => ?_) (fun hF => ?_))
  | (refine z0b.t ?_)
  | (refine z0b.f ?_)
  | (refine z0p.o hF zbc (fun a h => za3 h) (fun a hF => ?_))
  | (refine And.intro ⟨by kernel_rfl, by kernel_rfl⟩ ?_)
  | (refine EqX.mk (by first | rfl | kernel_rfl) ?_)
  | (exact RetX.o hF (by repeat' first | exact Sub.nil _ | exact Sub.refl _ | refine Sub.agg ?_ | refine Sub.tup ?_ | refine Sub.fn ?_ | exact SubL.nil | refine SubL.cons ?_ ?_ | refine Sub.sl _ ?_ | exact SubE.nil | refine SubE.cons ?_ ?_))
def zjg (r : z01) : AV := .agg [aI (r.fKind), aI (r.fNum), .str (r.fText)]
theorem zok {n : Nat} {a0 : Int} {a1 : Int} {r : z01} (hF : zdq n a0 a1 = some r) : Con E0 true 213 [aI (a0), aI (a1)] (zjg r) := by
 unfold zdq at hF
 refine Con.walk _ Tryz.func213 rfl (z06 Tryz.func213 rfl rfl) rfl (Or.inr rfl) ?_
 repeat' first
  | (refine AW.step ?_; conv => whnf)
  | (refine z0b.o hF (fun hF => ?_) (fun hF => ?_))
  | (refine z0b.t ?_)
  | (refine z0b.f ?_)
  | (refine z0p.o hF zbc (fun a h => za3 h) (fun a hF => ?_))
  | (refine And.intro ⟨by kernel_rfl, by kernel_rfl⟩ ?_)
  | (refine EqX.mk (by first | rfl | kernel_rfl) ?_)
  | (exact RetX.o hF (by repeat' first | exact Sub.nil _ | exact Sub.refl _ | refine Sub.agg ?_ | refine Sub.tup ?_ | refine Sub.fn ?_ | exact SubL.nil | refine SubL.cons ?_ ?_ | refine Sub.sl _ ?_ | exact SubE.nil | refine SubE.cons ?_ ?_))
def zat (w1_0 : Int × Int × ByteArray) : AS := ⟨[(4, .ptr 4 0)], [(4, .box 45 [aI (w1_0.1), aI (w1_0.2.1), .str (w1_0.2.2)])]⟩
theorem zft {n : Nat} {R : Exit → AS → Prop} {K : List z16} {i : Nat} {os : Array Oper} {d : Bool} {C : Code} {σ : AS} {x : Option (z01)} {r : z01} (hF : jon (z2f n) x = some r) (h1 : x = some r → AW E0 12 (z0v (fun σ' => ∃ v', z2f n v' = some r ∧ LeX E0 12 σ' (zat v')) (AW E0 12 R (.code C :: K))) [.code (.region i os d)] .normal σ) (h2 : ∀ v, z2f n v = some r → AW E0 12 R (.code C :: K) .normal (zat v)) : AW E0 12 R (.code (.region i os d) :: .code C :: K) .normal σ :=
 AW.joinO1 (S := zat) hF h1 h2
def zjf (r : z01) : AV := .agg [aI (r.fKind), aI (r.fNum), .str (r.fText)]
theorem zoj {n : Nat} {a0 : Int} {a1 : Int} {r : z01} (hF : zdp n a0 a1 = some r) : Con E0 true 214 [aI (a0), aI (a1)] (zjf r) := by
 unfold zdp at hF
 refine Con.walk _ Tryz.func214 rfl (z06 Tryz.func214 rfl rfl) rfl (Or.inr rfl) ?_
 repeat' first
  | (refine zft hF (fun hF => ?_) (fun v hF => ?_); rotate_left; unfold z2f at hF)
  | (refine AW.regO hF (fun hF => ?_))
  | (refine AW.stepU [1] ?_; conv => whnf)
  | (refine z0b.o hF (fun hF => ?_) (fun hF => ?_))
  | (refine z0b.t ?_)
  | (refine z0b.f ?_)
  | (refine zft hF (fun hF => ?_) (fun v hF => ?_); rotate_left; unfold z2f at hF)
  | (refine z0p.o hF zbc (fun a h => za3 h) (fun a hF => ?_))
  | (exact ⟨_, hF, LeX.of [] rfl ⟨⟨rfl, rfl⟩, trivial⟩ ⟨⟨rfl, rfl⟩, trivial⟩⟩)
  | (refine And.intro ⟨by kernel_rfl, by kernel_rfl⟩ ?_)
  | (refine EqX.mk (by first | rfl | kernel_rfl) ?_)
  | (exact RetX.o hF (by repeat' first | exact Sub.nil _ | exact Sub.refl _ | refine Sub.agg ?_ | refine Sub.tup ?_ | refine Sub.fn ?_ | exact SubL.nil | refine SubL.cons ?_ ?_ | refine Sub.sl _ ?_ | exact SubE.nil | refine SubE.cons ?_ ?_))
def zas (w1_0 : Int × Int × ByteArray) : AS := ⟨[(4, .ptr 4 0)], [(4, .box 45 [aI (w1_0.1), aI (w1_0.2.1), .str (w1_0.2.2)])]⟩
theorem zfs {n : Nat} {R : Exit → AS → Prop} {K : List z16} {i : Nat} {os : Array Oper} {d : Bool} {C : Code} {σ : AS} {x : Option (z01)} {r : z01} (hF : jon (z2e n) x = some r) (h1 : x = some r → AW E0 12 (z0v (fun σ' => ∃ v', z2e n v' = some r ∧ LeX E0 12 σ' (zas v')) (AW E0 12 R (.code C :: K))) [.code (.region i os d)] .normal σ) (h2 : ∀ v, z2e n v = some r → AW E0 12 R (.code C :: K) .normal (zas v)) : AW E0 12 R (.code (.region i os d) :: .code C :: K) .normal σ :=
 AW.joinO1 (S := zas) hF h1 h2
def zje (r : z01) : AV := .agg [aI (r.fKind), aI (r.fNum), .str (r.fText)]
theorem zoi {n : Nat} {a0 : Int} {a1 : Int} {r : z01} (hF : zdo n a0 a1 = some r) : Con E0 true 215 [aI (a0), aI (a1)] (zje r) := by
 unfold zdo at hF
 refine Con.walk _ Tryz.func215 rfl (z06 Tryz.func215 rfl rfl) rfl (Or.inr rfl) ?_
 repeat' first
  | (refine zfs hF (fun hF => ?_) (fun v hF => ?_); rotate_left; unfold z2e at hF)
  | (refine AW.regO hF (fun hF => ?_))
  | (refine AW.stepU [1] ?_; conv => whnf)
  | (refine z0b.o hF (fun hF => ?_) (fun hF => ?_))
  | (refine z0b.t ?_)
  | (refine z0b.f ?_)
  | (refine zfs hF (fun hF => ?_) (fun v hF => ?_); rotate_left; unfold z2e at hF)
  | (refine z0p.o hF zbc (fun a h => za3 h) (fun a hF => ?_))
  | (exact ⟨_, hF, LeX.of [] rfl ⟨⟨rfl, rfl⟩, trivial⟩ ⟨⟨rfl, rfl⟩, trivial⟩⟩)
  | (refine And.intro ⟨by kernel_rfl, by kernel_rfl⟩ ?_)
  | (refine EqX.mk (by first | rfl | kernel_rfl) ?_)
  | (exact RetX.o hF (by repeat' first | exact Sub.nil _ | exact Sub.refl _ | refine Sub.agg ?_ | refine Sub.tup ?_ | refine Sub.fn ?_ | exact SubL.nil | refine SubL.cons ?_ ?_ | refine Sub.sl _ ?_ | exact SubE.nil | refine SubE.cons ?_ ?_))
def zjd (r : z01) : AV := .agg [aI (r.fKind), aI (r.fNum), .str (r.fText)]
theorem zoh {n : Nat} {a0 : Int} {a1 : Int} {r : z01} (hF : zdn n a0 a1 = some r) : Con E0 true 216 [aI (a0), aI (a1)] (zjd r) := by
 unfold zdn at hF
 refine Con.walk _ Tryz.func216 rfl (z06 Tryz.func216 rfl rfl) rfl (Or.inr rfl) ?_
 repeat' first
  | (refine AW.step ?_; conv => whnf)
  | (refine z0b.o hF (fun hF => ?_) (fun hF => ?_))
  | (refine z0b.t ?_)
  | (refine z0b.f ?_)
  | (refine z0p.o hF zbc (fun a h => za3 h) (fun a hF => ?_))
  | (refine And.intro ⟨by kernel_rfl, by kernel_rfl⟩ ?_)
  | (refine EqX.mk (by first | rfl | kernel_rfl) ?_)
  | (exact RetX.o hF (by repeat' first | exact Sub.nil _ | exact Sub.refl _ | refine Sub.agg ?_ | refine Sub.tup ?_ | refine Sub.fn ?_ | exact SubL.nil | refine SubL.cons ?_ ?_ | refine Sub.sl _ ?_ | exact SubE.nil | refine SubE.cons ?_ ?_))
def z62 (rF_expr_evaluator__eval : z0d → Int → z02 → z0f → Option (z01 × Int)) (a1 : z0f) (a0f2 : z02) (a0f1 : Int) (a0f0 : z0d) (v1_0 : Int × (List z01) × (List Int)) : AS := ⟨[(2, .ptr 2 0), (3, .ptr 3 0), (4, .ptr 4 0), (6, .row 7042), (7, .row 7047), (23, .sl 8 (List.map idA (a1.fArgs))), (24, aI ((((List.map idA (a1.fArgs)).length : Nat) : Int))), (25, aI (v1_0.1))], [(2, .box 253 [.sl 1 (List.map (fun q => AV.sl 5 (List.map z0a q)) (a0f0.fVars)), aI (a0f1), aI (a0f2.fSource), aI (a0f2.fSeq), aI (a0f2.fType), aI (a0f2.fTime), .sl 3 (List.map z0c (a0f2.fValues)), .mapv [(aI (5), .fn 210 [.ref [.fn 209 []]]), (aI (6), .fn 211 [.ref [.fn 209 []]]), (aI (7), .fn 212 []), (aI (8), .fn 213 []), (aI (10), .fn 214 []), (aI (11), .fn 215 []), (aI (12), .fn 216 [])]]), (3, .box 47 [aI (a1.fOp), .sl 8 (List.map idA (a1.fArgs)), aI (a1.fVar), aI (a1.fField), aI (a1.fKind), aI (a1.fValue.fKind), aI (a1.fValue.fNum), .str (a1.fValue.fText)]), (4, .box 45 [aI (0), aI (0), .str (ByteArray.empty)]), (7042, .row 45 3 (List.map z0c (v1_0.2.1))), (7047, .row 3 1 (List.map aI (v1_0.2.2)))]⟩
theorem zkq {n N : Nat} {rF_expr_evaluator__eval : z0d → Int → z02 → z0f → Option (z01 × Int)} {a1 : z0f} {a0f2 : z02} {a0f1 : Int} {a0f0 : z0d} {k1_0_0 : (List z01) → (List Int) → Option (z01 × Int)} {R : Exit → AS → Prop} {K : List z16} {c : Code} {σ : AS} {v0 : Int × (List z01) × (List Int)} {r : z01 × Int} (hF : z3g n rF_expr_evaluator__eval a1 a0f2 a0f1 a0f0 k1_0_0 N v0 = some r) (hl : LeX E0 85 σ (z62 rF_expr_evaluator__eval a1 a0f2 a0f1 a0f0 v0)) (round : ∀ m v, z3g n rF_expr_evaluator__eval a1 a0f2 a0f1 a0f0 k1_0_0 (m + 1) v = some r → AW E0 85 (z0v (fun σ' => ∃ v', z3g n rF_expr_evaluator__eval a1 a0f2 a0f1 a0f0 k1_0_0 m v' = some r ∧ LeX E0 85 σ' (z62 rF_expr_evaluator__eval a1 a0f2 a0f1 a0f0 v')) (AW E0 85 R K)) [.code c] .normal (z62 rF_expr_evaluator__eval a1 a0f2 a0f1 a0f0 v)) : z5v E0 85 (fun next σ' => AW E0 85 (z0v next (AW E0 85 R K)) [.code c] .normal σ') σ :=
 LoopA.o (S := z62 rF_expr_evaluator__eval a1 a0f2 a0f1 a0f0) hF (fun _ => rfl) hl round
def zau (r : z01 × Int) : AV := .tup [.agg [aI (r.1.fKind), aI (r.1.fNum), .str (r.1.fText)], aI (r.2)]
theorem zlt {n : Nat} {a0f0 : z0d} {a0f1 : Int} {a0f2 : z02} {a1 : z0f} {r : z01 × Int} (hF : z8h n a0f0 a0f1 a0f2 a1 = some r) : Con E0 true 199 [.agg [.sl 1 (List.map (fun q => AV.sl 5 (List.map z0a q)) (a0f0.fVars)), aI (a0f1), aI (a0f2.fSource), aI (a0f2.fSeq), aI (a0f2.fType), aI (a0f2.fTime), .sl 3 (List.map z0c (a0f2.fValues)), .mapv [(aI (5), .fn 210 [.ref [.fn 209 []]]), (aI (6), .fn 211 [.ref [.fn 209 []]]), (aI (7), .fn 212 []), (aI (8), .fn 213 []), (aI (10), .fn 214 []), (aI (11), .fn 215 []), (aI (12), .fn 216 [])]], .agg [aI (a1.fOp), .sl 8 (List.map idA (a1.fArgs)), aI (a1.fVar), aI (a1.fField), aI (a1.fKind), aI (a1.fValue.fKind), aI (a1.fValue.fNum), .str (a1.fValue.fText)]] (zau r) := by
 induction n generalizing a0f0 a0f1 a0f2 a1 r
 case zero => cases hF
 case succ n ih =>
 unfold z8h at hF
 refine Con.walk _ Tryz.func199 rfl (z06 Tryz.func199 rfl rfl) rfl (Or.inr rfl) ?_
 repeat' first
  | (refine AW.step ?_; conv => whnf)
  | (refine z0b.o hF (fun hF => ?_) (fun hF => ?_))
  | (refine z0b.t ?_)
  | (refine z0b.f ?_)
  | (refine z0p.o hF zfz (fun a h => zls h) (fun a hF => ?_))
  | (refine z9v.o hF zp7 (fun a h => con_expr_operands h) (fun _ => Or.inr rfl) (fun a hF => ?_))
  | (refine NatX.o hF (fun m hF => ?_))
  | (refine EltX.o z0c hF (fun x hF => ?_))
  | (refine z0p.o hF zbc (fun a h => za3 h) (fun a hF => ?_))
  | (refine OpX.lkc rfl rfl rfl rfl rfl rfl rfl rfl rfl rfl (by first | rfl | kernel_rfl) ?_)
  | (refine LkC.cons hF (fun hF => ?_) (fun hF => ?_))
  | (cases hF; done)
  | (refine LtX.o hF (fun hF => ?_))
  | (refine z0p.o hF zjj (fun a h => zon h) (fun a hF => ?_))
  | (refine z0p.o hF zji (fun a h => zom h) (fun a hF => ?_))
  | (refine z0p.o hF zjh (fun a h => zol h) (fun a hF => ?_))
  | (refine z0p.o hF zjg (fun a h => zok h) (fun a hF => ?_))
  | (refine z0p.o hF zjf (fun a h => zoj h) (fun a hF => ?_))
  | (refine z0p.o hF zje (fun a h => zoi h) (fun a hF => ?_))
  | (refine z0p.o hF zjd (fun a h => zoh h) (fun a hF => ?_))
  | (refine IdxX.oD hF zcy (fun x hF => ?_))
  | (refine z0p.o hF zau (fun a h => ih h) (fun a hF => ?_))
  | (refine AppX.o z0c hF (by first | exact SubR.refl _ | (repeat' first | exact SubR.nil | refine SubR.cons ?_ ?_ | exact SubL.nil | refine SubL.cons ?_ ?_ | exact Sub.refl _ | exact Sub.nil _)) (fun l hF => ?_))
  | (refine AppX.o aI hF (by first | exact SubR.refl _ | (repeat' first | exact SubR.nil | refine SubR.cons ?_ ?_ | exact SubL.nil | refine SubL.cons ?_ ?_ | exact Sub.refl _ | exact Sub.nil _)) (fun l hF => ?_))
  | (exact ⟨_, hF, LeX.of [(7042, 42), (7047, 47)] rfl ⟨⟨rfl, rfl⟩, ⟨rfl, rfl⟩, ⟨rfl, rfl⟩, ⟨rfl, rfl⟩, ⟨rfl, rfl⟩, ⟨rfl, rfl⟩, ⟨rfl, rfl⟩, ⟨rfl, rfl⟩, trivial⟩ ⟨⟨rfl, rfl⟩, ⟨rfl, rfl⟩, ⟨rfl, rfl⟩, ⟨rfl, rfl⟩, ⟨rfl, rfl⟩, trivial⟩⟩)
  | (refine zkq hF (LeX.trans (LeX.adopt 6 7042 45 3 rfl rfl) (LeX.trans (LeX.adopt 7 7047 3 1 rfl rfl) (LeX.of [] rfl ⟨⟨rfl, rfl⟩, ⟨rfl, rfl⟩, ⟨rfl, rfl⟩, ⟨rfl, rfl⟩, ⟨rfl, rfl⟩, ⟨rfl, rfl⟩, ⟨rfl, rfl⟩, ⟨rfl, rfl⟩, trivial⟩ ⟨⟨rfl, rfl⟩, ⟨rfl, rfl⟩, ⟨rfl, rfl⟩, ⟨rfl, rfl⟩, ⟨rfl, rfl⟩, trivial⟩))) (fun m v hF => ?_); unfold z3g at hF)
  | (refine And.intro ⟨by kernel_rfl, by kernel_rfl⟩ ?_)
  | (refine EqX.mk (by first | rfl | kernel_rfl) ?_)
  | (exact RetX.o hF (by repeat' first | exact Sub.nil _ | exact Sub.refl _ | refine Sub.agg ?_ | refine Sub.tup ?_ | refine Sub.fn ?_ | exact SubL.nil | refine SubL.cons ?_ ?_ | refine Sub.sl _ ?_ | exact SubE.nil | refine SubE.cons ?_ ?_))
def R_expr_Eval (r : z01 × Int) : AV := .tup [.agg [aI (r.1.fKind), aI (r.1.fNum), .str (r.1.fText)], aI (r.2)]
end Go.Proofs.YtjpknpjjcddnnaaGreat
