/- What some functions compute, over plain values. Printed by a program of mine (gen_fun.lean). -/
import Derived.Test.YtjpknpjjcddnnaaGreatK14
set_option linter.unusedVariables false
set_option linter.unusedSimpArgs false
set_option maxRecDepth 100000
set_option maxHeartbeats 8000000
namespace Go.Proofs.YtjpknpjjcddnnaaGreat
open Go.RowKit
theorem zrq {n N : Nat} {a1 : z0i} {a0 : z05} {k1_1_0 : Option (Int)} {R : Exit → AS → Prop} {K : List z16} {c : Code} {σ : AS} {v0 : Int} {r : Int} (hF : z5x n a1 a0 k1_1_0 N v0 = some r) (hl : LeX E0 93 σ (za5 a1 a0 v0)) (round : ∀ m v, z5x n a1 a0 k1_1_0 (m + 1) v = some r → AW E0 93 (z0v (fun σ' => ∃ v', z5x n a1 a0 k1_1_0 m v' = some r ∧ LeX E0 93 σ' (za5 a1 a0 v')) (AW E0 93 R K)) [.code c] .normal (za5 a1 a0 v)) : z5v E0 93 (fun next σ' => AW E0 93 (z0v next (AW E0 93 R K)) [.code c] .normal σ') σ :=
 LoopA.o (S := za5 a1 a0) hF (fun _ => rfl) hl round
def zdi (a2 : Int) (a1 : z0i) (a0 : z05) (w1_0 : Bool) : AS := ⟨[(2, aI (a2)), (3, .ptr 3 0), (4, .ptr 4 0), (12, .bool (w1_0))], [(3, .box 25 [aI (a0.fVars), aI (a0.fScopes), .sl 1 (List.map z0m (a0.fStates)), .sl 17 (List.map z0n (a0.fEdges))]), (4, .box 51 [aI (a1.fFrom), aI (a1.fTo), aI (a1.fVar), aI (a1.fType), aI (a1.fCond.fOp), .sl 8 (List.map idA (a1.fCond.fArgs)), aI (a1.fCond.fVar), aI (a1.fCond.fField), aI (a1.fCond.fKind), aI (a1.fCond.fValue.fKind), aI (a1.fCond.fValue.fNum), .str (a1.fCond.fValue.fText), .sl 1 (List.map aI (a1.fOpens)), .sl 1 (List.map aI (a1.fCloses)), .sl 8 (List.map idA (a1.fChecks)), .sl 2 (List.map z0s (a1.fLimits)), .sl 1 (List.map aI (a1.fInside))])]⟩
theorem zj1 {n : Nat} {a2 : Int} {a1 : z0i} {a0 : z05} {R : Exit → AS → Prop} {K : List z16} {i : Nat} {os : Array Oper} {d : Bool} {C : Code} {σ : AS} {x : Option (Int)} {r : Int} (hF : jon (z1v n a2 a1 a0) x = some r) (h1 : x = some r → AW E0 93 (z0v (fun σ' => ∃ v', z1v n a2 a1 a0 v' = some r ∧ LeX E0 93 σ' (zdi a2 a1 a0 v')) (AW E0 93 R (.code C :: K))) [.code (.region i os d)] .normal σ) (h2 : ∀ v, z1v n a2 a1 a0 v = some r → AW E0 93 R (.code C :: K) .normal (zdi a2 a1 a0 v)) : AW E0 93 R (.code (.region i os d) :: .code C :: K) .normal σ :=
 AW.joinO1 (S := zdi a2 a1 a0) hF h1 h2
def zna (r : Int) : AV := aI (r)
theorem zsk {n : Nat} {a0 : z05} {a1 : z0i} {a2 : Int} {r : Int} (hF : zho n a0 a1 a2 = some r) : Con E0 true 101 [.agg [aI (a0.fVars), aI (a0.fScopes), .sl 1 (List.map z0m (a0.fStates)), .sl 17 (List.map z0n (a0.fEdges))], .agg [aI (a1.fFrom), aI (a1.fTo), aI (a1.fVar), aI (a1.fType), aI (a1.fCond.fOp), .sl 8 (List.map idA (a1.fCond.fArgs)), aI (a1.fCond.fVar), aI (a1.fCond.fField), aI (a1.fCond.fKind), aI (a1.fCond.fValue.fKind), aI (a1.fCond.fValue.fNum), .str (a1.fCond.fValue.fText), .sl 1 (List.map aI (a1.fOpens)), .sl 1 (List.map aI (a1.fCloses)), .sl 8 (List.map idA (a1.fChecks)), .sl 2 (List.map z0s (a1.fLimits)), .sl 1 (List.map aI (a1.fInside))], aI (a2)] (zna r) := by
 unfold zho at hF
 refine Con.walk _ Tryz.func101 rfl (z06 Tryz.func101 rfl rfl) rfl (Or.inr rfl) ?_
 repeat' first
  | (refine zj1 hF (fun hF => ?_) (fun v hF => ?_); rotate_left; unfold z1v at hF)
  | (refine AW.regO hF (fun hF => ?_))
  | (refine AW.stepU [1] ?_; conv => whnf)
  | (refine z0b.o hF (fun hF => ?_) (fun hF => ?_))
  | (refine z0b.t ?_)
  | (refine z0b.f ?_)
  | (refine z0p.o hF zkc (fun a h => zl0 h) (fun a hF => ?_))
  | (refine z0p.o hF zjk (fun a h => zoo h) (fun a hF => ?_))
  | (refine z0p.o hF zkd (fun a h => zq8 h) (fun a hF => ?_))
  | (refine z0p.o hF zd2 (fun a h => zis h) (fun a hF => ?_))
  | (refine IdxX.oD hF zcy (fun x hF => ?_))
  | (exact ⟨_, hF, LeX.of [] rfl ⟨⟨rfl, rfl⟩, ⟨rfl, rfl⟩, ⟨rfl, rfl⟩, ⟨rfl, rfl⟩, ⟨rfl, rfl⟩, trivial⟩ ⟨⟨rfl, rfl⟩, ⟨rfl, rfl⟩, trivial⟩⟩)
  | (refine zrq hF (LeX.of [] rfl ⟨⟨rfl, rfl⟩, ⟨rfl, rfl⟩, ⟨rfl, rfl⟩, ⟨rfl, rfl⟩, ⟨rfl, rfl⟩, trivial⟩ ⟨⟨rfl, rfl⟩, ⟨rfl, rfl⟩, trivial⟩) (fun m v hF => ?_); unfold z5x at hF)
  | (refine zj1 hF (fun hF => ?_) (fun v hF => ?_); rotate_left; unfold z1v at hF)
  | (refine z0p.o hF zb0 (fun a h => zcj h) (fun a hF => ?_))
  | (exact ⟨_, hF, LeX.of [] rfl ⟨⟨rfl, rfl⟩, ⟨rfl, rfl⟩, ⟨rfl, rfl⟩, ⟨rfl, rfl⟩, trivial⟩ ⟨⟨rfl, rfl⟩, ⟨rfl, rfl⟩, trivial⟩⟩)
  | (refine And.intro ⟨by kernel_rfl, by kernel_rfl⟩ ?_)
  | (refine EqX.mk (by first | rfl | kernel_rfl) ?_)
  | (exact RetX.o hF (by repeat' first | exact Sub.nil _ | exact Sub.refl _ | refine Sub.agg ?_ | refine Sub.tup ?_ | refine Sub.fn ?_ | exact SubL.nil | refine SubL.cons ?_ ?_ | refine Sub.sl _ ?_ | exact SubE.nil | refine SubE.cons ?_ ?_))
def z9f (a0 : z05) (v2_3 : Int × Int) : AS := ⟨[(1, .ptr 1 0), (6, aI (v2_3.1)), (62, .sl 17 (List.map z0n (a0.fEdges))), (63, aI ((((List.map z0n (a0.fEdges)).length : Nat) : Int))), (64, aI (v2_3.2))], [(1, .box 25 [aI (a0.fVars), aI (a0.fScopes), .sl 1 (List.map z0m (a0.fStates)), .sl 17 (List.map z0n (a0.fEdges))])]⟩
theorem zqg {n N : Nat} {a0 : z05} {k2_3_0 : Option (Int)} {R : Exit → AS → Prop} {K : List z16} {c : Code} {σ : AS} {v0 : Int × Int} {r : Int} (hF : z5d n a0 k2_3_0 N v0 = some r) (hl : LeX E0 78 σ (z9f a0 v0)) (round : ∀ m v, z5d n a0 k2_3_0 (m + 1) v = some r → AW E0 78 (z0v (fun σ' => ∃ v', z5d n a0 k2_3_0 m v' = some r ∧ LeX E0 78 σ' (z9f a0 v')) (AW E0 78 R K)) [.code c] .normal (z9f a0 v)) : z5v E0 78 (fun next σ' => AW E0 78 (z0v next (AW E0 78 R K)) [.code c] .normal σ') σ :=
 LoopA.o (S := z9f a0) hF (fun _ => rfl) hl round
def z9g (a0 : z05) (v1_2 : Int) : AS := ⟨[(1, .ptr 1 0), (47, .sl 1 (List.map z0m (a0.fStates))), (48, aI ((((List.map z0m (a0.fStates)).length : Nat) : Int))), (49, aI (v1_2))], [(1, .box 25 [aI (a0.fVars), aI (a0.fScopes), .sl 1 (List.map z0m (a0.fStates)), .sl 17 (List.map z0n (a0.fEdges))])]⟩
theorem zqh {n N : Nat} {a0 : z05} {k1_2_0 : Option (Int)} {R : Exit → AS → Prop} {K : List z16} {c : Code} {σ : AS} {v0 : Int} {r : Int} (hF : z5e n a0 k1_2_0 N v0 = some r) (hl : LeX E0 78 σ (z9g a0 v0)) (round : ∀ m v, z5e n a0 k1_2_0 (m + 1) v = some r → AW E0 78 (z0v (fun σ' => ∃ v', z5e n a0 k1_2_0 m v' = some r ∧ LeX E0 78 σ' (z9g a0 v')) (AW E0 78 R K)) [.code c] .normal (z9g a0 v)) : z5v E0 78 (fun next σ' => AW E0 78 (z0v next (AW E0 78 R K)) [.code c] .normal σ') σ :=
 LoopA.o (S := z9g a0) hF (fun _ => rfl) hl round
def zcl (a0 : z05) (w2_1 : Bool) : AS := ⟨[(1, .ptr 1 0), (29, .bool (w2_1))], [(1, .box 25 [aI (a0.fVars), aI (a0.fScopes), .sl 1 (List.map z0m (a0.fStates)), .sl 17 (List.map z0n (a0.fEdges))])]⟩
theorem zhq {n : Nat} {a0 : z05} {R : Exit → AS → Prop} {K : List z16} {i : Nat} {os : Array Oper} {d : Bool} {C : Code} {σ : AS} {x : Option (Int)} {r : Int} (hF : jon (z2h n a0) x = some r) (h1 : x = some r → AW E0 78 (z0v (fun σ' => ∃ v', z2h n a0 v' = some r ∧ LeX E0 78 σ' (zcl a0 v')) (AW E0 78 R (.code C :: K))) [.code (.region i os d)] .normal σ) (h2 : ∀ v, z2h n a0 v = some r → AW E0 78 R (.code C :: K) .normal (zcl a0 v)) : AW E0 78 R (.code (.region i os d) :: .code C :: K) .normal σ :=
 AW.joinO1 (S := zcl a0) hF h1 h2
def zcm (a0 : z05) (w1_0 : Bool) : AS := ⟨[(1, .ptr 1 0), (10, .bool (w1_0))], [(1, .box 25 [aI (a0.fVars), aI (a0.fScopes), .sl 1 (List.map z0m (a0.fStates)), .sl 17 (List.map z0n (a0.fEdges))])]⟩
theorem zhr {n : Nat} {a0 : z05} {R : Exit → AS → Prop} {K : List z16} {i : Nat} {os : Array Oper} {d : Bool} {C : Code} {σ : AS} {x : Option (Int)} {r : Int} (hF : jon (z1w n a0) x = some r) (h1 : x = some r → AW E0 78 (z0v (fun σ' => ∃ v', z1w n a0 v' = some r ∧ LeX E0 78 σ' (zcm a0 v')) (AW E0 78 R (.code C :: K))) [.code (.region i os d)] .normal σ) (h2 : ∀ v, z1w n a0 v = some r → AW E0 78 R (.code C :: K) .normal (zcm a0 v)) : AW E0 78 R (.code (.region i os d) :: .code C :: K) .normal σ :=
 AW.joinO1 (S := zcm a0) hF h1 h2
def zm4 (r : Int) : AV := aI (r)
theorem zrn {n : Nat} {a0 : z05} {r : Int} (hF : zgm n a0 = some r) : Con E0 true 70 [.agg [aI (a0.fVars), aI (a0.fScopes), .sl 1 (List.map z0m (a0.fStates)), .sl 17 (List.map z0n (a0.fEdges))]] (zm4 r) := by
 unfold zgm at hF
 refine Con.walk _ Tryz.func70 rfl (z06 Tryz.func70 rfl rfl) rfl (Or.inr rfl) ?_
 repeat' first
  | (refine zhq hF (fun hF => ?_) (fun v hF => ?_); rotate_left; unfold z2h at hF)
  | (refine zhr hF (fun hF => ?_) (fun v hF => ?_); rotate_left; unfold z1w at hF)
  | (refine AW.regO hF (fun hF => ?_))
  | (refine AW.stepU [1, 3] ?_; conv => whnf)
  | (refine z0b.o hF (fun hF => ?_) (fun hF => ?_))
  | (refine z0b.t ?_)
  | (refine z0b.f ?_)
  | (refine IdxX.o z0n hF (fun x hF => ?_))
  | (refine z0p.o hF zna (fun a h => zsk h) (fun a hF => ?_))
  | (exact ⟨_, hF, LeX.of [] rfl ⟨⟨rfl, rfl⟩, ⟨rfl, rfl⟩, ⟨rfl, rfl⟩, ⟨rfl, rfl⟩, ⟨rfl, rfl⟩, trivial⟩ ⟨⟨rfl, rfl⟩, trivial⟩⟩)
  | (refine zqg hF (LeX.of [] rfl ⟨⟨rfl, rfl⟩, ⟨rfl, rfl⟩, ⟨rfl, rfl⟩, ⟨rfl, rfl⟩, ⟨rfl, rfl⟩, trivial⟩ ⟨⟨rfl, rfl⟩, trivial⟩) (fun m v hF => ?_); unfold z5d at hF)
  | (refine IdxX.o z0m hF (fun x hF => ?_))
  | (refine z0p.o hF zke (fun a h => zq9 h) (fun a hF => ?_))
  | (exact ⟨_, hF, LeX.of [] rfl ⟨⟨rfl, rfl⟩, ⟨rfl, rfl⟩, ⟨rfl, rfl⟩, ⟨rfl, rfl⟩, trivial⟩ ⟨⟨rfl, rfl⟩, trivial⟩⟩)
  | (refine zqh hF (LeX.of [] rfl ⟨⟨rfl, rfl⟩, ⟨rfl, rfl⟩, ⟨rfl, rfl⟩, ⟨rfl, rfl⟩, trivial⟩ ⟨⟨rfl, rfl⟩, trivial⟩) (fun m v hF => ?_); unfold z5e at hF)
  | (refine zhq hF (fun hF => ?_) (fun v hF => ?_); rotate_left; unfold z2h at hF)
  | (exact ⟨_, hF, LeX.of [] rfl ⟨⟨rfl, rfl⟩, ⟨rfl, rfl⟩, trivial⟩ ⟨⟨rfl, rfl⟩, trivial⟩⟩)
  | (refine zhr hF (fun hF => ?_) (fun v hF => ?_); rotate_left; unfold z1w at hF)
  | (refine And.intro ⟨by kernel_rfl, by kernel_rfl⟩ ?_)
  | (refine EqX.mk (by first | rfl | kernel_rfl) ?_)
  | (exact RetX.o hF (by repeat' first | exact Sub.nil _ | exact Sub.refl _ | refine Sub.agg ?_ | refine Sub.tup ?_ | refine Sub.fn ?_ | exact SubL.nil | refine SubL.cons ?_ ?_ | refine Sub.sl _ ?_ | exact SubE.nil | refine SubE.cons ?_ ?_))
end Go.Proofs.YtjpknpjjcddnnaaGreat
namespace Go.Proofs.YtjpknpjjcddnnaaGreat
open Go.RowKit
def zcq (r : z01) : AV := .agg [aI (r.fKind), aI (r.fNum), .str (r.fText)]
theorem zfu {n : Nat} {a0 : Bool} {r : z01} (hF : z1a n a0 = some r) : Con E0 true 69 [.bool (a0)] (zcq r) := by
 unfold z1a at hF
 refine Con.walk _ Tryz.func69 rfl (z06 Tryz.func69 rfl rfl) rfl (Or.inr rfl) ?_
 repeat' first
  | (refine AW.step ?_; conv => whnf)
  | (refine z0b.o hF (fun hF => ?_) (fun hF => ?_))
  | (refine z0b.t ?_)
  | (refine z0b.f ?_)
  | (refine And.intro ⟨by kernel_rfl, by kernel_rfl⟩ ?_)
  | (refine EqX.mk (by first | rfl | kernel_rfl) ?_)
  | (exact RetX.o hF (by repeat' first | exact Sub.nil _ | exact Sub.refl _ | refine Sub.agg ?_ | refine Sub.tup ?_ | refine Sub.fn ?_ | exact SubL.nil | refine SubL.cons ?_ ?_ | refine Sub.sl _ ?_ | exact SubE.nil | refine SubE.cons ?_ ?_))
end Go.Proofs.YtjpknpjjcddnnaaGreat
namespace Go.Proofs.YtjpknpjjcddnnaaGreat
open Go.RowKit
def zh5 (r : Int) : AV := aI (r)
theorem zmm {n : Nat} {a0 : z0q} {a1 : z0q} {r : Int} (hF : z3u n a0 a1 = some r) : Con E0 true 49 [.agg [aI (a0.fTime), aI (a0.fSource), aI (a0.fSeq)], .agg [aI (a1.fTime), aI (a1.fSource), aI (a1.fSeq)]] (zh5 r) := by
 unfold z3u at hF
 refine Con.walk _ Tryz.func49 rfl (z06 Tryz.func49 rfl rfl) rfl (Or.inr rfl) ?_
 repeat' first
  | (refine AW.step ?_; conv => whnf)
  | (refine z0b.o hF (fun hF => ?_) (fun hF => ?_))
  | (refine z0b.t ?_)
  | (refine z0b.f ?_)
  | (refine And.intro ⟨by kernel_rfl, by kernel_rfl⟩ ?_)
  | (refine EqX.mk (by first | rfl | kernel_rfl) ?_)
  | (exact RetX.o hF (by repeat' first | exact Sub.nil _ | exact Sub.refl _ | refine Sub.agg ?_ | refine Sub.tup ?_ | refine Sub.fn ?_ | exact SubL.nil | refine SubL.cons ?_ ?_ | refine Sub.sl _ ?_ | exact SubE.nil | refine SubE.cons ?_ ?_))
def zh4 (r : Int) : AV := aI (r)
theorem zml {n : Nat} {a0 : z0g} {a1 : z0g} {r : Int} (hF : z6k n a0 a1 = some r) : Con E0 true 82 [.agg [aI (a0.fVar), aI (a0.fRef.fTime), aI (a0.fRef.fSource), aI (a0.fRef.fSeq)], .agg [aI (a1.fVar), aI (a1.fRef.fTime), aI (a1.fRef.fSource), aI (a1.fRef.fSeq)]] (zh4 r) := by
 unfold z6k at hF
 refine Con.walk _ Tryz.func82 rfl (z06 Tryz.func82 rfl rfl) rfl (Or.inr rfl) ?_
 repeat' first
  | (refine AW.step ?_; conv => whnf)
  | (refine z0b.o hF (fun hF => ?_) (fun hF => ?_))
  | (refine z0b.t ?_)
  | (refine z0b.f ?_)
  | (refine z0p.o hF zh5 (fun a h => zmm h) (fun a hF => ?_))
  | (refine And.intro ⟨by kernel_rfl, by kernel_rfl⟩ ?_)
  | (refine EqX.mk (by first | rfl | kernel_rfl) ?_)
  | (exact RetX.o hF (by repeat' first | exact Sub.nil _ | exact Sub.refl _ | refine Sub.agg ?_ | refine Sub.tup ?_ | refine Sub.fn ?_ | exact SubL.nil | refine SubL.cons ?_ ?_ | refine Sub.sl _ ?_ | exact SubE.nil | refine SubE.cons ?_ ?_))
def z8k (a1 : z03) (a0 : z03) (v1_0 : Int) (k1_0_0 : Option (Int)) (cv1_0 : Int → Option (Int)) (w3_1 : Bool) : AS := ⟨[(2, .ptr 2 0), (3, .ptr 3 0), (5, aI (v1_0)), (18, .bool (w3_1))], [(2, .box 83 [.sl 4 (List.map z09 (a0.fBindings))]), (3, .box 83 [.sl 4 (List.map z09 (a1.fBindings))])]⟩
theorem zc6 {n : Nat} {a1 : z03} {a0 : z03} {v1_0 : Int} {k1_0_0 : Option (Int)} {cv1_0 : Int → Option (Int)} {R : Exit → AS → Prop} {K : List z16} {i : Nat} {os : Array Oper} {d : Bool} {C : Code} {σ : AS} {x : Option (Int)} {r : Int} (hF : jon (z15 n a1 a0 v1_0 k1_0_0 cv1_0) x = some r) (h1 : x = some r → AW E0 49 (z0v (fun σ' => ∃ v', z15 n a1 a0 v1_0 k1_0_0 cv1_0 v' = some r ∧ LeX E0 49 σ' (z8k a1 a0 v1_0 k1_0_0 cv1_0 v')) (AW E0 49 R (.code C :: K))) [.code (.region i os d)] .normal σ) (h2 : ∀ v, z15 n a1 a0 v1_0 k1_0_0 cv1_0 v = some r → AW E0 49 R (.code C :: K) .normal (z8k a1 a0 v1_0 k1_0_0 cv1_0 v)) : AW E0 49 R (.code (.region i os d) :: .code C :: K) .normal σ :=
 AW.joinO1 (S := z8k a1 a0 v1_0 k1_0_0 cv1_0) hF h1 h2
def z5g (a1 : z03) (a0 : z03) (v1_0 : Int) : AS := ⟨[(2, .ptr 2 0), (3, .ptr 3 0), (5, aI (v1_0))], [(2, .box 83 [.sl 4 (List.map z09 (a0.fBindings))]), (3, .box 83 [.sl 4 (List.map z09 (a1.fBindings))])]⟩
theorem zju {n N : Nat} {a1 : z03} {a0 : z03} {k1_0_0 : Option (Int)} {R : Exit → AS → Prop} {K : List z16} {c : Code} {σ : AS} {v0 : Int} {r : Int} (hF : z14 n a1 a0 k1_0_0 N v0 = some r) (hl : LeX E0 49 σ (z5g a1 a0 v0)) (round : ∀ m v, z14 n a1 a0 k1_0_0 (m + 1) v = some r → AW E0 49 (z0v (fun σ' => ∃ v', z14 n a1 a0 k1_0_0 m v' = some r ∧ LeX E0 49 σ' (z5g a1 a0 v')) (AW E0 49 R K)) [.code c] .normal (z5g a1 a0 v)) : z5v E0 49 (fun next σ' => AW E0 49 (z0v next (AW E0 49 R K)) [.code c] .normal σ') σ :=
 LoopA.o (S := z5g a1 a0) hF (fun _ => rfl) hl round
def za7 (r : Int) : AV := aI (r)
theorem zd0 {n : Nat} {a0 : z03} {a1 : z03} {r : Int} (hF : z2n n a0 a1 = some r) : Con E0 true 44 [.agg [.sl 4 (List.map z09 (a0.fBindings))], .agg [.sl 4 (List.map z09 (a1.fBindings))]] (za7 r) := by
 unfold z2n at hF
 refine Con.walk _ Tryz.func44 rfl (z06 Tryz.func44 rfl rfl) rfl (Or.inr rfl) ?_
 repeat' first
  | (refine zc6 hF (fun hF => ?_) (fun v hF => ?_); rotate_left; unfold z15 at hF)
  | (refine AW.regO hF (fun hF => ?_))
  | (refine AW.stepU [2] ?_; conv => whnf)
  | (refine z0b.o hF (fun hF => ?_) (fun hF => ?_))
  | (refine z0b.t ?_)
  | (refine z0b.f ?_)
  | (refine IdxX.o z09 hF (fun x hF => ?_))
  | (refine z0p.o hF zh4 (fun a h => zml h) (fun a hF => ?_))
  | (exact ⟨_, hF, LeX.of [] rfl ⟨⟨rfl, rfl⟩, ⟨rfl, rfl⟩, ⟨rfl, rfl⟩, trivial⟩ ⟨⟨rfl, rfl⟩, ⟨rfl, rfl⟩, trivial⟩⟩)
  | (refine zc6 hF (fun hF => ?_) (fun v hF => ?_); rotate_left; unfold z15 at hF)
  | (exact ⟨_, hF, LeX.of [] rfl ⟨⟨rfl, rfl⟩, ⟨rfl, rfl⟩, ⟨rfl, rfl⟩, ⟨rfl, rfl⟩, trivial⟩ ⟨⟨rfl, rfl⟩, ⟨rfl, rfl⟩, trivial⟩⟩)
  | (refine zju hF (LeX.of [] rfl ⟨⟨rfl, rfl⟩, ⟨rfl, rfl⟩, ⟨rfl, rfl⟩, trivial⟩ ⟨⟨rfl, rfl⟩, ⟨rfl, rfl⟩, trivial⟩) (fun m v hF => ?_); unfold z14 at hF)
  | (refine And.intro ⟨by kernel_rfl, by kernel_rfl⟩ ?_)
  | (refine EqX.mk (by first | rfl | kernel_rfl) ?_)
  | (exact RetX.o hF (by repeat' first | exact Sub.nil _ | exact Sub.refl _ | refine Sub.agg ?_ | refine Sub.tup ?_ | refine Sub.fn ?_ | exact SubL.nil | refine SubL.cons ?_ ?_ | refine Sub.sl _ ?_ | exact SubE.nil | refine SubE.cons ?_ ?_))
def z8i (a1 : z00) (a0 : z00) (v1_0 : Int) (cv1_0 : Int → Option (Int)) (x43 : z04) (x44 : z04) (w6_2 : Bool) : AS := ⟨[(2, .ptr 2 0), (3, .ptr 3 0), (6, aI (v1_0)), (7, .ptr 7 0), (8, .ptr 8 0), (71, .bool (w6_2))], [(2, .box 77 [aI (a0.fState), .sl 4 (List.map z09 (a0.fBindings)), .sl 2 (List.map z07 (a0.fStarts))]), (3, .box 77 [aI (a1.fState), .sl 4 (List.map z09 (a1.fBindings)), .sl 2 (List.map z07 (a1.fStarts))]), (7, .box 120 [aI (x43.fScope), aI (x43.fTime)]), (8, .box 120 [aI (x44.fScope), aI (x44.fTime)])]⟩
theorem zc4 {n : Nat} {a1 : z00} {a0 : z00} {v1_0 : Int} {cv1_0 : Int → Option (Int)} {x43 : z04} {x44 : z04} {R : Exit → AS → Prop} {K : List z16} {i : Nat} {os : Array Oper} {d : Bool} {C : Code} {σ : AS} {x : Option (Int)} {r : Int} (hF : jon (z11 n a1 a0 v1_0 cv1_0 x43 x44) x = some r) (h1 : x = some r → AW E0 89 (z0v (fun σ' => ∃ v', z11 n a1 a0 v1_0 cv1_0 x43 x44 v' = some r ∧ LeX E0 89 σ' (z8i a1 a0 v1_0 cv1_0 x43 x44 v')) (AW E0 89 R (.code C :: K))) [.code (.region i os d)] .normal σ) (h2 : ∀ v, z11 n a1 a0 v1_0 cv1_0 x43 x44 v = some r → AW E0 89 R (.code C :: K) .normal (z8i a1 a0 v1_0 cv1_0 x43 x44 v)) : AW E0 89 R (.code (.region i os d) :: .code C :: K) .normal σ :=
 AW.joinO1 (S := z8i a1 a0 v1_0 cv1_0 x43 x44) hF h1 h2
def z8j (a1 : z00) (a0 : z00) (v1_0 : Int) (k1_0_0 : Option (Int)) (cv1_0 : Int → Option (Int)) (w5_1 : Bool) : AS := ⟨[(2, .ptr 2 0), (3, .ptr 3 0), (6, aI (v1_0)), (40, .bool (w5_1))], [(2, .box 77 [aI (a0.fState), .sl 4 (List.map z09 (a0.fBindings)), .sl 2 (List.map z07 (a0.fStarts))]), (3, .box 77 [aI (a1.fState), .sl 4 (List.map z09 (a1.fBindings)), .sl 2 (List.map z07 (a1.fStarts))])]⟩
theorem zc5 {n : Nat} {a1 : z00} {a0 : z00} {v1_0 : Int} {k1_0_0 : Option (Int)} {cv1_0 : Int → Option (Int)} {R : Exit → AS → Prop} {K : List z16} {i : Nat} {os : Array Oper} {d : Bool} {C : Code} {σ : AS} {x : Option (Int)} {r : Int} (hF : jon (z13 n a1 a0 v1_0 k1_0_0 cv1_0) x = some r) (h1 : x = some r → AW E0 89 (z0v (fun σ' => ∃ v', z13 n a1 a0 v1_0 k1_0_0 cv1_0 v' = some r ∧ LeX E0 89 σ' (z8j a1 a0 v1_0 k1_0_0 cv1_0 v')) (AW E0 89 R (.code C :: K))) [.code (.region i os d)] .normal σ) (h2 : ∀ v, z13 n a1 a0 v1_0 k1_0_0 cv1_0 v = some r → AW E0 89 R (.code C :: K) .normal (z8j a1 a0 v1_0 k1_0_0 cv1_0 v)) : AW E0 89 R (.code (.region i os d) :: .code C :: K) .normal σ :=
 AW.joinO1 (S := z8j a1 a0 v1_0 k1_0_0 cv1_0) hF h1 h2
def z5f (a1 : z00) (a0 : z00) (v1_0 : Int) : AS := ⟨[(2, .ptr 2 0), (3, .ptr 3 0), (6, aI (v1_0))], [(2, .box 77 [aI (a0.fState), .sl 4 (List.map z09 (a0.fBindings)), .sl 2 (List.map z07 (a0.fStarts))]), (3, .box 77 [aI (a1.fState), .sl 4 (List.map z09 (a1.fBindings)), .sl 2 (List.map z07 (a1.fStarts))])]⟩
theorem zjt {n N : Nat} {a1 : z00} {a0 : z00} {k1_0_0 : Option (Int)} {R : Exit → AS → Prop} {K : List z16} {c : Code} {σ : AS} {v0 : Int} {r : Int} (hF : z12 n a1 a0 k1_0_0 N v0 = some r) (hl : LeX E0 89 σ (z5f a1 a0 v0)) (round : ∀ m v, z12 n a1 a0 k1_0_0 (m + 1) v = some r → AW E0 89 (z0v (fun σ' => ∃ v', z12 n a1 a0 k1_0_0 m v' = some r ∧ LeX E0 89 σ' (z5f a1 a0 v')) (AW E0 89 R K)) [.code c] .normal (z5f a1 a0 v)) : z5v E0 89 (fun next σ' => AW E0 89 (z0v next (AW E0 89 R K)) [.code c] .normal σ') σ :=
 LoopA.o (S := z5f a1 a0) hF (fun _ => rfl) hl round
def za6 (r : Int) : AV := aI (r)
theorem zcz {n : Nat} {a0 : z00} {a1 : z00} {r : Int} (hF : z2k n a0 a1 = some r) : Con E0 true 28 [.agg [aI (a0.fState), .sl 4 (List.map z09 (a0.fBindings)), .sl 2 (List.map z07 (a0.fStarts))], .agg [aI (a1.fState), .sl 4 (List.map z09 (a1.fBindings)), .sl 2 (List.map z07 (a1.fStarts))]] (za6 r) := by
 unfold z2k at hF
 refine Con.walk _ Tryz.func28 rfl (z06 Tryz.func28 rfl rfl) rfl (Or.inr rfl) ?_
 repeat' first
  | (refine zc4 hF (fun hF => ?_) (fun v hF => ?_); rotate_left; unfold z11 at hF)
  | (refine zc5 hF (fun hF => ?_) (fun v hF => ?_); rotate_left; unfold z13 at hF)
  | (refine AW.regO hF (fun hF => ?_))
  | (refine AW.stepU [9, 12] ?_; conv => whnf)
  | (refine z0b.o hF (fun hF => ?_) (fun hF => ?_))
  | (refine z0b.t ?_)
  | (refine z0b.f ?_)
  | (refine z0p.o hF za7 (fun a h => zd0 h) (fun a hF => ?_))
  | (refine IdxX.o z07 hF (fun x hF => ?_))
  | (exact ⟨_, hF, LeX.of [] rfl ⟨⟨rfl, rfl⟩, ⟨rfl, rfl⟩, ⟨rfl, rfl⟩, trivial⟩ ⟨⟨rfl, rfl⟩, ⟨rfl, rfl⟩, trivial⟩⟩)
  | (refine zc4 hF (fun hF => ?_) (fun v hF => ?_); rotate_left; unfold z11 at hF)
  | (exact ⟨_, hF, LeX.of [] rfl ⟨⟨rfl, rfl⟩, ⟨rfl, rfl⟩, ⟨rfl, rfl⟩, ⟨rfl, rfl⟩, ⟨rfl, rfl⟩, ⟨rfl, rfl⟩, trivial⟩ ⟨⟨rfl, rfl⟩, ⟨rfl, rfl⟩, ⟨rfl, rfl⟩, ⟨rfl, rfl⟩, trivial⟩⟩)
  | (refine zc5 hF (fun hF => ?_) (fun v hF => ?_); rotate_left; unfold z13 at hF)
  | (exact ⟨_, hF, LeX.of [] rfl ⟨⟨rfl, rfl⟩, ⟨rfl, rfl⟩, ⟨rfl, rfl⟩, ⟨rfl, rfl⟩, trivial⟩ ⟨⟨rfl, rfl⟩, ⟨rfl, rfl⟩, trivial⟩⟩)
  | (refine zjt hF (LeX.of [] rfl ⟨⟨rfl, rfl⟩, ⟨rfl, rfl⟩, ⟨rfl, rfl⟩, trivial⟩ ⟨⟨rfl, rfl⟩, ⟨rfl, rfl⟩, trivial⟩) (fun m v hF => ?_); unfold z12 at hF)
  | (refine And.intro ⟨by kernel_rfl, by kernel_rfl⟩ ?_)
  | (refine EqX.mk (by first | rfl | kernel_rfl) ?_)
  | (exact RetX.o hF (by repeat' first | exact Sub.nil _ | exact Sub.refl _ | refine Sub.agg ?_ | refine Sub.tup ?_ | refine Sub.fn ?_ | exact SubL.nil | refine SubL.cons ?_ ?_ | refine Sub.sl _ ?_ | exact SubE.nil | refine SubE.cons ?_ ?_))
def zap (a1 : z00) (a0 : (List z00)) (k1_0_0y : Int) (w3_1 : Bool) : AS := ⟨[(0, .sl 3 (List.map z08 (a0))), (3, .ptr 3 0), (5, aI (k1_0_0y)), (34, .bool (w3_1))], [(3, .box 77 [aI (a1.fState), .sl 4 (List.map z09 (a1.fBindings)), .sl 2 (List.map z07 (a1.fStarts))])]⟩
theorem zfo {n : Nat} {a1 : z00} {a0 : (List z00)} {k1_0_0y : Int} {R : Exit → AS → Prop} {K : List z16} {i : Nat} {os : Array Oper} {d : Bool} {C : Code} {σ : AS} {x : Option ((List z00))} {r : (List z00)} (hF : jon (z1p n a1 a0 k1_0_0y) x = some r) (h1 : x = some r → AW E0 49 (z0v (fun σ' => ∃ v', z1p n a1 a0 k1_0_0y v' = some r ∧ LeX E0 49 σ' (zap a1 a0 k1_0_0y v')) (AW E0 49 R (.code C :: K))) [.code (.region i os d)] .normal σ) (h2 : ∀ v, z1p n a1 a0 k1_0_0y v = some r → AW E0 49 R (.code C :: K) .normal (zap a1 a0 k1_0_0y v)) : AW E0 49 R (.code (.region i os d) :: .code C :: K) .normal σ :=
 AW.joinO1 (S := zap a1 a0 k1_0_0y) hF h1 h2
def zao (a1 : z00) (a0 : (List z00)) (v1_0 : Int) (k1_0_0 : Int → Option ((List z00))) (cv1_0 : Int → Option ((List z00))) (w4_2 : Bool) : AS := ⟨[(0, .sl 3 (List.map z08 (a0))), (3, .ptr 3 0), (5, aI (v1_0)), (19, .bool (w4_2))], [(3, .box 77 [aI (a1.fState), .sl 4 (List.map z09 (a1.fBindings)), .sl 2 (List.map z07 (a1.fStarts))])]⟩
theorem zfn {n : Nat} {a1 : z00} {a0 : (List z00)} {v1_0 : Int} {k1_0_0 : Int → Option ((List z00))} {cv1_0 : Int → Option ((List z00))} {R : Exit → AS → Prop} {K : List z16} {i : Nat} {os : Array Oper} {d : Bool} {C : Code} {σ : AS} {x : Option ((List z00))} {r : (List z00)} (hF : jon (z1o n a1 a0 v1_0 k1_0_0 cv1_0) x = some r) (h1 : x = some r → AW E0 49 (z0v (fun σ' => ∃ v', z1o n a1 a0 v1_0 k1_0_0 cv1_0 v' = some r ∧ LeX E0 49 σ' (zao a1 a0 v1_0 k1_0_0 cv1_0 v')) (AW E0 49 R (.code C :: K))) [.code (.region i os d)] .normal σ) (h2 : ∀ v, z1o n a1 a0 v1_0 k1_0_0 cv1_0 v = some r → AW E0 49 R (.code C :: K) .normal (zao a1 a0 v1_0 k1_0_0 cv1_0 v)) : AW E0 49 R (.code (.region i os d) :: .code C :: K) .normal σ :=
 AW.joinO1 (S := zao a1 a0 v1_0 k1_0_0 cv1_0) hF h1 h2
def z84 (a1 : z00) (a0 : (List z00)) (v1_0 : Int) : AS := ⟨[(0, .sl 3 (List.map z08 (a0))), (3, .ptr 3 0), (5, aI (v1_0))], [(3, .box 77 [aI (a1.fState), .sl 4 (List.map z09 (a1.fBindings)), .sl 2 (List.map z07 (a1.fStarts))])]⟩
theorem znd {n N : Nat} {a1 : z00} {a0 : (List z00)} {k1_0_0 : Int → Option ((List z00))} {R : Exit → AS → Prop} {K : List z16} {c : Code} {σ : AS} {v0 : Int} {r : (List z00)} (hF : z1n n a1 a0 k1_0_0 N v0 = some r) (hl : LeX E0 49 σ (z84 a1 a0 v0)) (round : ∀ m v, z1n n a1 a0 k1_0_0 (m + 1) v = some r → AW E0 49 (z0v (fun σ' => ∃ v', z1n n a1 a0 k1_0_0 m v' = some r ∧ LeX E0 49 σ' (z84 a1 a0 v')) (AW E0 49 R K)) [.code c] .normal (z84 a1 a0 v)) : z5v E0 49 (fun next σ' => AW E0 49 (z0v next (AW E0 49 R K)) [.code c] .normal σ') σ :=
 LoopA.o (S := z84 a1 a0) hF (fun _ => rfl) hl round
def zj8 (r : (List z00)) : AV := .sl 3 (List.map z08 (r))
theorem zod {n : Nat} {a0 : (List z00)} {a1 : z00} {r : (List z00)} (hF : z3s n a0 a1 = some r) : Con E0 false 91 [.sl 3 (List.map z08 (a0)), .agg [aI (a1.fState), .sl 4 (List.map z09 (a1.fBindings)), .sl 2 (List.map z07 (a1.fStarts))]] (zj8 r) := by
 unfold z3s at hF
 refine Con.walk _ Tryz.func91 rfl (z06 Tryz.func91 rfl rfl) rfl (Or.inl rfl) ?_
 repeat' first
  | (refine zfo hF (fun hF => ?_) (fun v hF => ?_); rotate_left; unfold z1p at hF)
  | (refine zfn hF (fun hF => ?_) (fun v hF => ?_); rotate_left; unfold z1o at hF)
  | (refine AW.regO hF (fun hF => ?_))
  | (refine AW.stepU [2, 4] ?_; conv => whnf)
  | (refine z0b.o hF (fun hF => ?_) (fun hF => ?_))
  | (refine z0b.t ?_)
  | (refine z0b.f ?_)
  | (refine SlsX.o z08 hF (fun l hF => ?_))
  | (refine AppX.o0 z08 hF (by first | exact SubR.refl _ | (repeat' first | exact SubR.nil | refine SubR.cons ?_ ?_ | exact SubL.nil | refine SubL.cons ?_ ?_ | exact Sub.refl _ | exact Sub.nil _)) (fun l hF => ?_))
  | (refine AppX.o z08 hF (by first | exact SubR.refl _ | (repeat' first | exact SubR.nil | refine SubR.cons ?_ ?_ | exact SubL.nil | refine SubL.cons ?_ ?_ | exact Sub.refl _ | exact Sub.nil _)) (fun l hF => ?_))
  | (refine zfo hF (fun hF => ?_) (fun v hF => ?_); rotate_left; unfold z1p at hF)
  | (refine IdxX.o z08 hF (fun x hF => ?_))
  | (refine z0p.o hF za6 (fun a h => zcz h) (fun a hF => ?_))
  | (exact ⟨_, hF, LeX.of [] rfl ⟨⟨rfl, rfl⟩, ⟨rfl, rfl⟩, ⟨rfl, rfl⟩, ⟨rfl, rfl⟩, trivial⟩ ⟨⟨rfl, rfl⟩, trivial⟩⟩)
  | (exact ⟨_, hF, LeX.of [] rfl ⟨⟨rfl, rfl⟩, ⟨rfl, rfl⟩, ⟨rfl, rfl⟩, trivial⟩ ⟨⟨rfl, rfl⟩, trivial⟩⟩)
  | (refine zfn hF (fun hF => ?_) (fun v hF => ?_); rotate_left; unfold z1o at hF)
  | (refine znd hF (LeX.of [] rfl ⟨⟨rfl, rfl⟩, ⟨rfl, rfl⟩, ⟨rfl, rfl⟩, trivial⟩ ⟨⟨rfl, rfl⟩, trivial⟩) (fun m v hF => ?_); unfold z1n at hF)
  | (refine And.intro ⟨by kernel_rfl, by kernel_rfl⟩ ?_)
  | (refine EqX.mk (by first | rfl | kernel_rfl) ?_)
  | (exact RetX.o hF (by repeat' first | exact Sub.nil _ | exact Sub.refl _ | refine Sub.agg ?_ | refine Sub.tup ?_ | refine Sub.fn ?_ | exact SubL.nil | refine SubL.cons ?_ ?_ | refine Sub.sl _ ?_ | exact SubE.nil | refine SubE.cons ?_ ?_))
def zco (w1_0 : Bool) : AS := ⟨[(2, .bool (w1_0))], []⟩
theorem zht {n : Nat} {R : Exit → AS → Prop} {K : List z16} {i : Nat} {os : Array Oper} {d : Bool} {C : Code} {σ : AS} {x : Option (Bool)} {r : Bool} (hF : jon (z2y n) x = some r) (h1 : x = some r → AW E0 9 (z0v (fun σ' => ∃ v', z2y n v' = some r ∧ LeX E0 9 σ' (zco v')) (AW E0 9 R (.code C :: K))) [.code (.region i os d)] .normal σ) (h2 : ∀ v, z2y n v = some r → AW E0 9 R (.code C :: K) .normal (zco v)) : AW E0 9 R (.code (.region i os d) :: .code C :: K) .normal σ :=
 AW.joinO1 (S := zco) hF h1 h2
def zgi (r : Bool) : AV := .bool (r)
theorem ziz {n : Nat} {a0 : Int} {r : Bool} (hF : zc3 n a0 = some r) : Con E0 true 236 [aI (a0)] (zgi r) := by
 unfold zc3 at hF
 refine Con.walk _ Tryz.func236 rfl (z06 Tryz.func236 rfl rfl) rfl (Or.inr rfl) ?_
 repeat' first
  | (refine zht hF (fun hF => ?_) (fun v hF => ?_); rotate_left; unfold z2y at hF)
  | (refine AW.regO hF (fun hF => ?_))
  | (refine AW.stepU [1] ?_; conv => whnf)
  | (refine z0b.o hF (fun hF => ?_) (fun hF => ?_))
  | (refine z0b.t ?_)
  | (refine z0b.f ?_)
  | (refine zht hF (fun hF => ?_) (fun v hF => ?_); rotate_left; unfold z2y at hF)
  | (exact ⟨_, hF, LeX.of [] rfl ⟨⟨rfl, rfl⟩, trivial⟩ trivial⟩)
  | (refine And.intro ⟨by kernel_rfl, by kernel_rfl⟩ ?_)
  | (refine EqX.mk (by first | rfl | kernel_rfl) ?_)
  | (exact RetX.o hF (by repeat' first | exact Sub.nil _ | exact Sub.refl _ | refine Sub.agg ?_ | refine Sub.tup ?_ | refine Sub.fn ?_ | exact SubL.nil | refine SubL.cons ?_ ?_ | refine Sub.sl _ ?_ | exact SubE.nil | refine SubE.cons ?_ ?_))
def zcn (w1_0 : Bool) : AS := ⟨[(4, .bool (w1_0))], []⟩
theorem zhs {n : Nat} {R : Exit → AS → Prop} {K : List z16} {i : Nat} {os : Array Oper} {d : Bool} {C : Code} {σ : AS} {x : Option (Bool)} {r : Bool} (hF : jon (z1x n) x = some r) (h1 : x = some r → AW E0 20 (z0v (fun σ' => ∃ v', z1x n v' = some r ∧ LeX E0 20 σ' (zcn v')) (AW E0 20 R (.code C :: K))) [.code (.region i os d)] .normal σ) (h2 : ∀ v, z1x n v = some r → AW E0 20 R (.code C :: K) .normal (zcn v)) : AW E0 20 R (.code (.region i os d) :: .code C :: K) .normal σ :=
 AW.joinO1 (S := zcn) hF h1 h2
def zgh (r : Bool) : AV := .bool (r)
theorem ziy {n : Nat} {a0 : Int} {a1 : z01} {r : Bool} (hF : zc2 n a0 a1 = some r) : Con E0 true 246 [aI (a0), .agg [aI (a1.fKind), aI (a1.fNum), .str (a1.fText)]] (zgh r) := by
 unfold zc2 at hF
 refine Con.walk _ Tryz.func246 rfl (z06 Tryz.func246 rfl rfl) rfl (Or.inr rfl) ?_
 repeat' first
  | (refine zhs hF (fun hF => ?_) (fun v hF => ?_); rotate_left; unfold z1x at hF)
  | (refine AW.regO hF (fun hF => ?_))
  | (refine AW.stepU [1] ?_; conv => whnf)
  | (refine z0b.o hF (fun hF => ?_) (fun hF => ?_))
  | (refine z0b.t ?_)
  | (refine z0b.f ?_)
  | (refine zhs hF (fun hF => ?_) (fun v hF => ?_); rotate_left; unfold z1x at hF)
  | (exact ⟨_, hF, LeX.of [] rfl ⟨⟨rfl, rfl⟩, trivial⟩ trivial⟩)
  | (refine And.intro ⟨by kernel_rfl, by kernel_rfl⟩ ?_)
  | (refine EqX.mk (by first | rfl | kernel_rfl) ?_)
  | (exact RetX.o hF (by repeat' first | exact Sub.nil _ | exact Sub.refl _ | refine Sub.agg ?_ | refine Sub.tup ?_ | refine Sub.fn ?_ | exact SubL.nil | refine SubL.cons ?_ ?_ | refine Sub.sl _ ?_ | exact SubE.nil | refine SubE.cons ?_ ?_))
def zgg (r : Int) : AV := aI (r)
theorem zix {n : Nat} {a0 : Int} {a1 : z01} {r : Int} (hF : zc1 n a0 a1 = some r) : Con E0 true 237 [aI (a0), .agg [aI (a1.fKind), aI (a1.fNum), .str (a1.fText)]] (zgg r) := by
 unfold zc1 at hF
 refine Con.walk _ Tryz.func237 rfl (z06 Tryz.func237 rfl rfl) rfl (Or.inr rfl) ?_
 repeat' first
  | (refine AW.step ?_; conv => whnf)
  | (refine z0b.o hF (fun hF => ?_) (fun hF => ?_))
  | (refine z0b.t ?_)
  | (refine z0b.f ?_)
  | (refine z0p.o hF zey (fun a h => zej h) (fun a hF => ?_))
  | (refine z0p.o hF zgh (fun a h => ziy h) (fun a hF => ?_))
  | (refine And.intro ⟨by kernel_rfl, by kernel_rfl⟩ ?_)
  | (refine EqX.mk (by first | rfl | kernel_rfl) ?_)
  | (exact RetX.o hF (by repeat' first | exact Sub.nil _ | exact Sub.refl _ | refine Sub.agg ?_ | refine Sub.tup ?_ | refine Sub.fn ?_ | exact SubL.nil | refine SubL.cons ?_ ?_ | refine Sub.sl _ ?_ | exact SubE.nil | refine SubE.cons ?_ ?_))
def zkg (r : z01) : AV := .agg [aI (r.fKind), aI (r.fNum), .str (r.fText)]
theorem zqb {n : Nat} {a0 : Int} {a1 : z01} {r : z01} (hF : zfj n a0 a1 = some r) : Con E0 true 241 [aI (a0), .agg [aI (a1.fKind), aI (a1.fNum), .str (a1.fText)]] (zkg r) := by
 unfold zfj at hF
 refine Con.walk _ Tryz.func241 rfl (z06 Tryz.func241 rfl rfl) rfl (Or.inr rfl) ?_
 repeat' first
  | (refine AW.step ?_; conv => whnf)
  | (refine z0b.o hF (fun hF => ?_) (fun hF => ?_))
  | (refine z0b.t ?_)
  | (refine z0b.f ?_)
  | (refine And.intro ⟨by kernel_rfl, by kernel_rfl⟩ ?_)
  | (refine EqX.mk (by first | rfl | kernel_rfl) ?_)
  | (exact RetX.o hF (by repeat' first | exact Sub.nil _ | exact Sub.refl _ | refine Sub.agg ?_ | refine Sub.tup ?_ | refine Sub.fn ?_ | exact SubL.nil | refine SubL.cons ?_ ?_ | refine Sub.sl _ ?_ | exact SubE.nil | refine SubE.cons ?_ ?_))
def zhb (r : z01) : AV := .agg [aI (r.fKind), aI (r.fNum), .str (r.fText)]
theorem zmr {n : Nat} {r : z01} (hF : zbs n = some r) : Con E0 true 249 [] (zhb r) := by
 unfold zbs at hF
 refine Con.walk _ Tryz.func249 rfl (z06 Tryz.func249 rfl rfl) rfl (Or.inr rfl) ?_
 repeat' first
  | (refine AW.step ?_; conv => whnf)
  | (refine z0b.o hF (fun hF => ?_) (fun hF => ?_))
  | (refine z0b.t ?_)
  | (refine z0b.f ?_)
  | (refine And.intro ⟨by kernel_rfl, by kernel_rfl⟩ ?_)
  | (refine EqX.mk (by first | rfl | kernel_rfl) ?_)
  | (exact RetX.o hF (by repeat' first | exact Sub.nil _ | exact Sub.refl _ | refine Sub.agg ?_ | refine Sub.tup ?_ | refine Sub.fn ?_ | exact SubL.nil | refine SubL.cons ?_ ?_ | refine Sub.sl _ ?_ | exact SubE.nil | refine SubE.cons ?_ ?_))
def zpg (m0 : z01) (m1 : z01) : List (Nat × Ent) := [(100000, .box 45 [aI (m0.fKind), aI (m0.fNum), .str (m0.fText)]), (100001, .box 45 [aI (m1.fKind), aI (m1.fNum), .str (m1.fText)])]
def z6j (r : z01 × z01 × z01) : List (Nat × Ent) := [(2, .box 45 [aI (r.1.fKind), aI (r.1.fNum), .str (r.1.fText)]), (100000, .box 45 [aI (r.2.1.fKind), aI (r.2.1.fNum), .str (r.2.1.fText)]), (100001, .box 45 [aI (r.2.2.fKind), aI (r.2.2.fNum), .str (r.2.2.fText)])]
def z8z (r : z01 × z01 × z01) : AV := .agg [aI (r.1.fKind), aI (r.1.fNum), .str (r.1.fText)]
def zp2 (r : z01 × z01 × z01) : AS := ⟨[(2, .ptr 2 0), (0, .ptr 100000 0), (1, .ptr 100001 0)], z6j r⟩
end Go.Proofs.YtjpknpjjcddnnaaGreat
namespace Go.Proofs.YtjpknpjjcddnnaaGreat
open Go.RowKit
theorem zeq {n : Nat} {m0 : z01} {m1 : z01} {r : z01 × z01 × z01} (hF : zbr n m0 m1 = some r) : ConG E0.P none (CalF E0.P 250 0) [.ptr 100000 0, .ptr 100001 0] [] (zpg m0 m1) (z8z r) (z6j r) := by
 unfold zbr at hF
 refine ConG.walk (E := (E0p 2)) (caps := []) _ Tryz.func250 rfl rfl rfl rfl rfl ?_
 repeat' first
  | (refine AW.step ?_; conv => whnf)
  | (refine z0b.o hF (fun hF => ?_) (fun hF => ?_))
  | (refine z0b.t ?_)
  | (refine z0b.f ?_)
  | (refine GX.o (res := z8z) (meF := z6j) hF ?_; exact GX.mk (zp2 _) (LeX.of [] rfl ⟨⟨rfl, rfl⟩, ⟨rfl, rfl⟩, ⟨rfl, rfl⟩, trivial⟩ ⟨⟨rfl, rfl⟩, ⟨rfl, rfl⟩, ⟨rfl, rfl⟩, trivial⟩) rfl _ rfl (by repeat' first | exact Sub.nil _ | exact Sub.refl _ | refine Sub.agg ?_ | refine Sub.tup ?_ | refine Sub.fn ?_ | exact SubL.nil | refine SubL.cons ?_ ?_ | refine Sub.sl _ ?_ | exact SubE.nil | refine SubE.cons ?_ ?_) [] trivial rfl)
  | (refine And.intro ⟨by kernel_rfl, by kernel_rfl⟩ ?_)
  | (refine EqX.mk (by first | rfl | kernel_rfl) ?_)
def zpf (m0 : z01) (m1 : z01) : List (Nat × Ent) := [(100000, .box 45 [aI (m0.fKind), aI (m0.fNum), .str (m0.fText)]), (100001, .box 45 [aI (m1.fKind), aI (m1.fNum), .str (m1.fText)])]
def z6i (r : z01 × z01 × z01) : List (Nat × Ent) := [(2, .box 45 [aI (r.1.fKind), aI (r.1.fNum), .str (r.1.fText)]), (100000, .box 45 [aI (r.2.1.fKind), aI (r.2.1.fNum), .str (r.2.1.fText)]), (100001, .box 45 [aI (r.2.2.fKind), aI (r.2.2.fNum), .str (r.2.2.fText)])]
def z8y (r : z01 × z01 × z01) : AV := .agg [aI (r.1.fKind), aI (r.1.fNum), .str (r.1.fText)]
def zp1 (r : z01 × z01 × z01) : AS := ⟨[(2, .ptr 2 0), (0, .ptr 100000 0), (1, .ptr 100001 0)], z6i r⟩
theorem zep {n : Nat} {m0 : z01} {m1 : z01} {r : z01 × z01 × z01} (hF : zbq n m0 m1 = some r) : ConG E0.P none (CalF E0.P 251 0) [.ptr 100000 0, .ptr 100001 0] [] (zpf m0 m1) (z8y r) (z6i r) := by
 unfold zbq at hF
 refine ConG.walk (E := (E0p 2)) (caps := []) _ Tryz.func251 rfl rfl rfl rfl rfl ?_
 repeat' first
  | (refine AW.step ?_; conv => whnf)
  | (refine z0b.o hF (fun hF => ?_) (fun hF => ?_))
  | (refine z0b.t ?_)
  | (refine z0b.f ?_)
  | (refine GX.o (res := z8y) (meF := z6i) hF ?_; exact GX.mk (zp1 _) (LeX.of [] rfl ⟨⟨rfl, rfl⟩, ⟨rfl, rfl⟩, ⟨rfl, rfl⟩, trivial⟩ ⟨⟨rfl, rfl⟩, ⟨rfl, rfl⟩, ⟨rfl, rfl⟩, trivial⟩) rfl _ rfl (by repeat' first | exact Sub.nil _ | exact Sub.refl _ | refine Sub.agg ?_ | refine Sub.tup ?_ | refine Sub.fn ?_ | exact SubL.nil | refine SubL.cons ?_ ?_ | refine Sub.sl _ ?_ | exact SubE.nil | refine SubE.cons ?_ ?_) [] trivial rfl)
  | (refine And.intro ⟨by kernel_rfl, by kernel_rfl⟩ ?_)
  | (refine EqX.mk (by first | rfl | kernel_rfl) ?_)
def zpe (m0 : z01) (m1 : z01) : List (Nat × Ent) := [(100000, .box 45 [aI (m0.fKind), aI (m0.fNum), .str (m0.fText)]), (100001, .box 45 [aI (m1.fKind), aI (m1.fNum), .str (m1.fText)])]
def z6h (r : z01 × z01 × z01) : List (Nat × Ent) := [(2, .box 45 [aI (r.1.fKind), aI (r.1.fNum), .str (r.1.fText)]), (100000, .box 45 [aI (r.2.1.fKind), aI (r.2.1.fNum), .str (r.2.1.fText)]), (100001, .box 45 [aI (r.2.2.fKind), aI (r.2.2.fNum), .str (r.2.2.fText)])]
def z8x (r : z01 × z01 × z01) : AV := .agg [aI (r.1.fKind), aI (r.1.fNum), .str (r.1.fText)]
def zp0 (r : z01 × z01 × z01) : AS := ⟨[(2, .ptr 2 0), (0, .ptr 100000 0), (1, .ptr 100001 0)], z6h r⟩
theorem zeo {n : Nat} {m0 : z01} {m1 : z01} {r : z01 × z01 × z01} (hF : zbp n m0 m1 = some r) : ConG E0.P none (CalF E0.P 252 0) [.ptr 100000 0, .ptr 100001 0] [] (zpe m0 m1) (z8x r) (z6h r) := by
 unfold zbp at hF
 refine ConG.walk (E := (E0p 2)) (caps := []) _ Tryz.func252 rfl rfl rfl rfl rfl ?_
 repeat' first
  | (refine AW.step ?_; conv => whnf)
  | (refine z0b.o hF (fun hF => ?_) (fun hF => ?_))
  | (refine z0b.t ?_)
  | (refine z0b.f ?_)
  | (refine GX.o (res := z8x) (meF := z6h) hF ?_; exact GX.mk (zp0 _) (LeX.of [] rfl ⟨⟨rfl, rfl⟩, ⟨rfl, rfl⟩, ⟨rfl, rfl⟩, trivial⟩ ⟨⟨rfl, rfl⟩, ⟨rfl, rfl⟩, ⟨rfl, rfl⟩, trivial⟩) rfl _ rfl (by repeat' first | exact Sub.nil _ | exact Sub.refl _ | refine Sub.agg ?_ | refine Sub.tup ?_ | refine Sub.fn ?_ | exact SubL.nil | refine SubL.cons ?_ ?_ | refine Sub.sl _ ?_ | exact SubE.nil | refine SubE.cons ?_ ?_) [] trivial rfl)
  | (refine And.intro ⟨by kernel_rfl, by kernel_rfl⟩ ?_)
  | (refine EqX.mk (by first | rfl | kernel_rfl) ?_)
def zpd (m0 : z01) : List (Nat × Ent) := [(100000, .box 45 [aI (m0.fKind), aI (m0.fNum), .str (m0.fText)])]
def z6g (r : z01 × z01) : List (Nat × Ent) := [(1, .box 45 [aI (r.1.fKind), aI (r.1.fNum), .str (r.1.fText)]), (100000, .box 45 [aI (r.2.fKind), aI (r.2.fNum), .str (r.2.fText)])]
def z8w (r : z01 × z01) : AV := .agg [aI (r.1.fKind), aI (r.1.fNum), .str (r.1.fText)]
def zoz (r : z01 × z01) : AS := ⟨[(1, .ptr 1 0), (0, .ptr 100000 0)], z6g r⟩
theorem zen {n : Nat} {m0 : z01} {r : z01 × z01} (hF : zbo n m0 = some r) : ConG E0.P none (CalF E0.P 253 0) [.ptr 100000 0] [] (zpd m0) (z8w r) (z6g r) := by
 unfold zbo at hF
 refine ConG.walk (E := (E0p 1)) (caps := []) _ Tryz.func253 rfl rfl rfl rfl rfl ?_
 repeat' first
  | (refine AW.step ?_; conv => whnf)
  | (refine z0b.o hF (fun hF => ?_) (fun hF => ?_))
  | (refine z0b.t ?_)
  | (refine z0b.f ?_)
  | (refine GX.o (res := z8w) (meF := z6g) hF ?_; exact GX.mk (zoz _) (LeX.of [] rfl ⟨⟨rfl, rfl⟩, ⟨rfl, rfl⟩, trivial⟩ ⟨⟨rfl, rfl⟩, ⟨rfl, rfl⟩, trivial⟩) rfl _ rfl (by repeat' first | exact Sub.nil _ | exact Sub.refl _ | refine Sub.agg ?_ | refine Sub.tup ?_ | refine Sub.fn ?_ | exact SubL.nil | refine SubL.cons ?_ ?_ | refine Sub.sl _ ?_ | exact SubE.nil | refine SubE.cons ?_ ?_) [] trivial rfl)
  | (refine And.intro ⟨by kernel_rfl, by kernel_rfl⟩ ?_)
  | (refine EqX.mk (by first | rfl | kernel_rfl) ?_)
def zpc (m0 : z01) : List (Nat × Ent) := [(100000, .box 45 [aI (m0.fKind), aI (m0.fNum), .str (m0.fText)])]
def z6f (r : z01 × z01) : List (Nat × Ent) := [(1, .box 45 [aI (r.1.fKind), aI (r.1.fNum), .str (r.1.fText)]), (100000, .box 45 [aI (r.2.fKind), aI (r.2.fNum), .str (r.2.fText)])]
def z8v (r : z01 × z01) : AV := .agg [aI (r.1.fKind), aI (r.1.fNum), .str (r.1.fText)]
def zoy (r : z01 × z01) : AS := ⟨[(1, .ptr 1 0), (0, .ptr 100000 0)], z6f r⟩
theorem zem {n : Nat} {m0 : z01} {r : z01 × z01} (hF : zbn n m0 = some r) : ConG E0.P none (CalF E0.P 254 0) [.ptr 100000 0] [] (zpc m0) (z8v r) (z6f r) := by
 unfold zbn at hF
 refine ConG.walk (E := (E0p 1)) (caps := []) _ Tryz.func254 rfl rfl rfl rfl rfl ?_
 repeat' first
  | (refine AW.step ?_; conv => whnf)
  | (refine z0b.o hF (fun hF => ?_) (fun hF => ?_))
  | (refine z0b.t ?_)
  | (refine z0b.f ?_)
  | (refine GX.o (res := z8v) (meF := z6f) hF ?_; exact GX.mk (zoy _) (LeX.of [] rfl ⟨⟨rfl, rfl⟩, ⟨rfl, rfl⟩, trivial⟩ ⟨⟨rfl, rfl⟩, ⟨rfl, rfl⟩, trivial⟩) rfl _ rfl (by repeat' first | exact Sub.nil _ | exact Sub.refl _ | refine Sub.agg ?_ | refine Sub.tup ?_ | refine Sub.fn ?_ | exact SubL.nil | refine SubL.cons ?_ ?_ | refine Sub.sl _ ?_ | exact SubE.nil | refine SubE.cons ?_ ?_) [] trivial rfl)
  | (refine And.intro ⟨by kernel_rfl, by kernel_rfl⟩ ?_)
  | (refine EqX.mk (by first | rfl | kernel_rfl) ?_)
def zjl (r : z01) : AV := .agg [aI (r.fKind), aI (r.fNum), .str (r.fText)]
theorem zop {n : Nat} {a0 : Int} {a1 : z01} {a2 : z01} {r : z01} (hF : zdv n a0 a1 a2 = some r) : Con E0 true 247 [aI (a0), .agg [aI (a1.fKind), aI (a1.fNum), .str (a1.fText)], .agg [aI (a2.fKind), aI (a2.fNum), .str (a2.fText)]] (zjl r) := by
 unfold zdv at hF
 refine Con.walk _ Tryz.func247 rfl (z06 Tryz.func247 rfl rfl) rfl (Or.inr rfl) ?_
 repeat' first
  | (refine AW.step ?_; conv => whnf)
  | (refine z0b.o hF (fun hF => ?_) (fun hF => ?_))
  | (refine z0b.t ?_)
  | (refine z0b.f ?_)
  | (refine NatX.oS hF rfl (fun hF => ?_) (fun hF => ?_))
  | (cases hF; done)
  | (refine z0p.o hF zhb (fun a h => zmr h) (fun a hF => ?_))
  | (refine z9v.oM (z3n 15 hF) [(100000, 4), (100001, 5)] [(2, 16000000), (100000, 4), (100001, 5)] _ _ z6j z8z [] (fun a h => ConG.up (zeq h)) (z06 Tryz.func250 rfl rfl) rfl rfl rfl ⟨⟨rfl, rfl⟩, ⟨⟨rfl, rfl⟩, trivial⟩⟩ (fun a => ⟨rfl, rfl, rfl, rfl, rfl, rfl, rfl, rfl⟩) (fun a hF => ?_))
  | (refine z0p.oM (z3n 15 hF) [(100000, 4), (100001, 5)] [(2, 16000000), (100000, 4), (100001, 5)] _ _ z6j z8z [] (fun a h => ConG.up (zeq h)) (z06 Tryz.func250 rfl rfl) rfl rfl rfl ⟨⟨rfl, rfl⟩, ⟨⟨rfl, rfl⟩, trivial⟩⟩ (fun a => ⟨rfl, rfl, rfl, rfl, rfl, rfl, rfl, rfl⟩) (fun a hF => ?_))
  | (refine z9v.oM (z3n 15 hF) [(100000, 4), (100001, 5)] [(2, 16000000), (100000, 4), (100001, 5)] _ _ z6i z8y [] (fun a h => ConG.up (zep h)) (z06 Tryz.func251 rfl rfl) rfl rfl rfl ⟨⟨rfl, rfl⟩, ⟨⟨rfl, rfl⟩, trivial⟩⟩ (fun a => ⟨rfl, rfl, rfl, rfl, rfl, rfl, rfl, rfl⟩) (fun a hF => ?_))
  | (refine z0p.oM (z3n 15 hF) [(100000, 4), (100001, 5)] [(2, 16000000), (100000, 4), (100001, 5)] _ _ z6i z8y [] (fun a h => ConG.up (zep h)) (z06 Tryz.func251 rfl rfl) rfl rfl rfl ⟨⟨rfl, rfl⟩, ⟨⟨rfl, rfl⟩, trivial⟩⟩ (fun a => ⟨rfl, rfl, rfl, rfl, rfl, rfl, rfl, rfl⟩) (fun a hF => ?_))
  | (refine z9v.oM (z3n 15 hF) [(100000, 4), (100001, 5)] [(2, 16000000), (100000, 4), (100001, 5)] _ _ z6h z8x [] (fun a h => ConG.up (zeo h)) (z06 Tryz.func252 rfl rfl) rfl rfl rfl ⟨⟨rfl, rfl⟩, ⟨⟨rfl, rfl⟩, trivial⟩⟩ (fun a => ⟨rfl, rfl, rfl, rfl, rfl, rfl, rfl, rfl⟩) (fun a hF => ?_))
  | (refine z0p.oM (z3n 15 hF) [(100000, 4), (100001, 5)] [(2, 16000000), (100000, 4), (100001, 5)] _ _ z6h z8x [] (fun a h => ConG.up (zeo h)) (z06 Tryz.func252 rfl rfl) rfl rfl rfl ⟨⟨rfl, rfl⟩, ⟨⟨rfl, rfl⟩, trivial⟩⟩ (fun a => ⟨rfl, rfl, rfl, rfl, rfl, rfl, rfl, rfl⟩) (fun a hF => ?_))
  | (refine z9v.oM (z3n 15 hF) [(100000, 4)] [(1, 16000000), (100000, 4)] _ _ z6g z8w [] (fun a h => ConG.up (zen h)) (z06 Tryz.func253 rfl rfl) rfl rfl rfl ⟨⟨rfl, rfl⟩, trivial⟩ (fun a => ⟨rfl, rfl, rfl, rfl, rfl, rfl, rfl, rfl⟩) (fun a hF => ?_))
  | (refine z0p.oM (z3n 15 hF) [(100000, 4)] [(1, 16000000), (100000, 4)] _ _ z6g z8w [] (fun a h => ConG.up (zen h)) (z06 Tryz.func253 rfl rfl) rfl rfl rfl ⟨⟨rfl, rfl⟩, trivial⟩ (fun a => ⟨rfl, rfl, rfl, rfl, rfl, rfl, rfl, rfl⟩) (fun a hF => ?_))
  | (refine z9v.oM (z3n 15 hF) [(100000, 5)] [(1, 16000000), (100000, 5)] _ _ z6f z8v [] (fun a h => ConG.up (zem h)) (z06 Tryz.func254 rfl rfl) rfl rfl rfl ⟨⟨rfl, rfl⟩, trivial⟩ (fun a => ⟨rfl, rfl, rfl, rfl, rfl, rfl, rfl, rfl⟩) (fun a hF => ?_))
  | (refine z0p.oM (z3n 15 hF) [(100000, 5)] [(1, 16000000), (100000, 5)] _ _ z6f z8v [] (fun a h => ConG.up (zem h)) (z06 Tryz.func254 rfl rfl) rfl rfl rfl ⟨⟨rfl, rfl⟩, trivial⟩ (fun a => ⟨rfl, rfl, rfl, rfl, rfl, rfl, rfl, rfl⟩) (fun a hF => ?_))
  | (refine And.intro ⟨by kernel_rfl, by kernel_rfl⟩ ?_)
  | (refine EqX.mk (by first | rfl | kernel_rfl) ?_)
  | (exact RetX.o hF (by repeat' first | exact Sub.nil _ | exact Sub.refl _ | refine Sub.agg ?_ | refine Sub.tup ?_ | refine Sub.fn ?_ | exact SubL.nil | refine SubL.cons ?_ ?_ | refine Sub.sl _ ?_ | exact SubE.nil | refine SubE.cons ?_ ?_))
def zkh (r : z0e) : AV := .agg [aI (r.fKind), aI (r.fCount), aI (r.fValue.fKind), aI (r.fValue.fNum), .str (r.fValue.fText)]
theorem zqc {n : Nat} {a0 : z0e} {a1 : z0e} {r : z0e} (hF : zfk n a0 a1 = some r) : Con E0 true 240 [.agg [aI (a0.fKind), aI (a0.fCount), aI (a0.fValue.fKind), aI (a0.fValue.fNum), .str (a0.fValue.fText)], .agg [aI (a1.fKind), aI (a1.fCount), aI (a1.fValue.fKind), aI (a1.fValue.fNum), .str (a1.fValue.fText)]] (zkh r) := by
 unfold zfk at hF
 refine Con.walk _ Tryz.func240 rfl (z06 Tryz.func240 rfl rfl) rfl (Or.inr rfl) ?_
 repeat' first
  | (refine AW.step ?_; conv => whnf)
  | (refine z0b.o hF (fun hF => ?_) (fun hF => ?_))
  | (refine z0b.t ?_)
  | (refine z0b.f ?_)
  | (refine z0p.o hF zjl (fun a h => zop h) (fun a hF => ?_))
  | (refine And.intro ⟨by kernel_rfl, by kernel_rfl⟩ ?_)
  | (refine EqX.mk (by first | rfl | kernel_rfl) ?_)
  | (exact RetX.o hF (by repeat' first | exact Sub.nil _ | exact Sub.refl _ | refine Sub.agg ?_ | refine Sub.tup ?_ | refine Sub.fn ?_ | exact SubL.nil | refine SubL.cons ?_ ?_ | refine Sub.sl _ ?_ | exact SubE.nil | refine SubE.cons ?_ ?_))
def znb (r : z0e) : AV := .agg [aI (r.fKind), aI (r.fCount), aI (r.fValue.fKind), aI (r.fValue.fNum), .str (r.fValue.fText)]
theorem zsl {n : Nat} {a0 : z0e} {a1 : z01} {a2 : Int} {r : z0e} (hF : zhp n a0 a1 a2 = some r) : Con E0 true 239 [.agg [aI (a0.fKind), aI (a0.fCount), aI (a0.fValue.fKind), aI (a0.fValue.fNum), .str (a0.fValue.fText)], .agg [aI (a1.fKind), aI (a1.fNum), .str (a1.fText)], .ref [aI (a2)]] (znb r) := by
 unfold zhp at hF
 refine Con.walk _ Tryz.func239 rfl (z06 Tryz.func239 rfl rfl) rfl (Or.inr rfl) ?_
 repeat' first
  | (refine AW.step ?_; conv => whnf)
  | (refine z0b.o hF (fun hF => ?_) (fun hF => ?_))
  | (refine z0b.t ?_)
  | (refine z0b.f ?_)
  | (refine z0p.o hF zkg (fun a h => zqb h) (fun a hF => ?_))
  | (refine z0p.o hF zkh (fun a h => zqc h) (fun a hF => ?_))
  | (refine And.intro ⟨by kernel_rfl, by kernel_rfl⟩ ?_)
  | (refine EqX.mk (by first | rfl | kernel_rfl) ?_)
  | (exact RetX.o hF (by repeat' first | exact Sub.nil _ | exact Sub.refl _ | refine Sub.agg ?_ | refine Sub.tup ?_ | refine Sub.fn ?_ | exact SubL.nil | refine SubL.cons ?_ ?_ | refine Sub.sl _ ?_ | exact SubE.nil | refine SubE.cons ?_ ?_))
def z8t (a2c0 : Int) (a1 : (List z01)) (v1_0 : Int × Int × Int × Int × Int × ByteArray) : AS := ⟨[(2, .fn 239 [.ref [aI (a2c0)]]), (3, .ptr 3 0), (6, .ptr 6 0), (9, .sl 3 (List.map z0c (a1))), (10, aI ((((List.map z0c (a1)).length : Nat) : Int))), (11, aI (v1_0.1))], [(3, .box 275 [aI (v1_0.2.1), aI (v1_0.2.2.1), aI (v1_0.2.2.2.1), aI (v1_0.2.2.2.2.1), .str (v1_0.2.2.2.2.2)]), (6, .box 275 [aI (0), aI (0), aI (0), aI (0), .str (ByteArray.empty)])]⟩
theorem zow {n N : Nat} {a2c0 : Int} {a1 : (List z01)} {k1_0_0 : Int → Int → Int → Int → ByteArray → Option (z0e)} {R : Exit → AS → Prop} {K : List z16} {c : Code} {σ : AS} {v0 : Int × Int × Int × Int × Int × ByteArray} {r : z0e} (hF : z4o n a2c0 a1 k1_0_0 N v0 = some r) (hl : LeX E0 21 σ (z8t a2c0 a1 v0)) (round : ∀ m v, z4o n a2c0 a1 k1_0_0 (m + 1) v = some r → AW E0 21 (z0v (fun σ' => ∃ v', z4o n a2c0 a1 k1_0_0 m v' = some r ∧ LeX E0 21 σ' (z8t a2c0 a1 v')) (AW E0 21 R K)) [.code c] .normal (z8t a2c0 a1 v)) : z5v E0 21 (fun next σ' => AW E0 21 (z0v next (AW E0 21 R K)) [.code c] .normal σ') σ :=
 LoopA.o (S := z8t a2c0 a1) hF (fun _ => rfl) hl round
def zki (r : z0e) : AV := .agg [aI (r.fKind), aI (r.fCount), aI (r.fValue.fKind), aI (r.fValue.fNum), .str (r.fValue.fText)]
theorem zqd {n : Nat} {a0 : z0e} {a1 : (List z01)} {a2c0 : Int} {r : z0e} (hF : zfl n a0 a1 a2c0 = some r) : Con E0 true 238 [.agg [aI (a0.fKind), aI (a0.fCount), aI (a0.fValue.fKind), aI (a0.fValue.fNum), .str (a0.fValue.fText)], .sl 3 (List.map z0c (a1)), .fn 239 [.ref [aI (a2c0)]]] (zki r) := by
 unfold zfl at hF
 refine Con.walk _ Tryz.func238 rfl (z06 Tryz.func238 rfl rfl) rfl (Or.inr rfl) ?_
 repeat' first
  | (refine AW.step ?_; conv => whnf)
  | (refine z0b.o hF (fun hF => ?_) (fun hF => ?_))
  | (refine z0b.t ?_)
  | (refine z0b.f ?_)
  | (refine IdxX.o z0c hF (fun x hF => ?_))
  | (refine z0p.o hF znb (fun a h => zsl h) (fun a hF => ?_))
  | (exact ⟨_, hF, LeX.of [] rfl ⟨⟨rfl, rfl⟩, ⟨rfl, rfl⟩, ⟨rfl, rfl⟩, ⟨rfl, rfl⟩, ⟨rfl, rfl⟩, ⟨rfl, rfl⟩, trivial⟩ ⟨⟨rfl, rfl⟩, ⟨rfl, rfl⟩, trivial⟩⟩)
  | (refine zow hF (LeX.of [] rfl ⟨⟨rfl, rfl⟩, ⟨rfl, rfl⟩, ⟨rfl, rfl⟩, ⟨rfl, rfl⟩, ⟨rfl, rfl⟩, ⟨rfl, rfl⟩, trivial⟩ ⟨⟨rfl, rfl⟩, ⟨rfl, rfl⟩, trivial⟩) (fun m v hF => ?_); unfold z4o at hF)
  | (refine And.intro ⟨by kernel_rfl, by kernel_rfl⟩ ?_)
  | (refine EqX.mk (by first | rfl | kernel_rfl) ?_)
  | (exact RetX.o hF (by repeat' first | exact Sub.nil _ | exact Sub.refl _ | refine Sub.agg ?_ | refine Sub.tup ?_ | refine Sub.fn ?_ | exact SubL.nil | refine SubL.cons ?_ ?_ | refine Sub.sl _ ?_ | exact SubE.nil | refine SubE.cons ?_ ?_))
def zcp (a0 : z0e) (w1_0 : Bool) : AS := ⟨[(1, .ptr 1 0), (10, .bool (w1_0))], [(1, .box 275 [aI (a0.fKind), aI (a0.fCount), aI (a0.fValue.fKind), aI (a0.fValue.fNum), .str (a0.fValue.fText)])]⟩
theorem zhu {n : Nat} {a0 : z0e} {R : Exit → AS → Prop} {K : List z16} {i : Nat} {os : Array Oper} {d : Bool} {C : Code} {σ : AS} {x : Option (Int)} {r : Int} (hF : jon (z2z n a0) x = some r) (h1 : x = some r → AW E0 77 (z0v (fun σ' => ∃ v', z2z n a0 v' = some r ∧ LeX E0 77 σ' (zcp a0 v')) (AW E0 77 R (.code C :: K))) [.code (.region i os d)] .normal σ) (h2 : ∀ v, z2z n a0 v = some r → AW E0 77 R (.code C :: K) .normal (zcp a0 v)) : AW E0 77 R (.code (.region i os d) :: .code C :: K) .normal σ :=
 AW.joinO1 (S := zcp a0) hF h1 h2
def zm5 (r : Int) : AV := aI (r)
theorem zro {n : Nat} {a0 : z0e} {r : Int} (hF : zgn n a0 = some r) : Con E0 true 248 [.agg [aI (a0.fKind), aI (a0.fCount), aI (a0.fValue.fKind), aI (a0.fValue.fNum), .str (a0.fValue.fText)]] (zm5 r) := by
 unfold zgn at hF
 refine Con.walk _ Tryz.func248 rfl (z06 Tryz.func248 rfl rfl) rfl (Or.inr rfl) ?_
 repeat' first
  | (refine zhu hF (fun hF => ?_) (fun v hF => ?_); rotate_left; unfold z2z at hF)
  | (refine AW.regO hF (fun hF => ?_))
  | (refine AW.stepU [3, 7, 9, 11, 6] ?_; conv => whnf)
  | (refine z0b.o hF (fun hF => ?_) (fun hF => ?_))
  | (refine z0b.t ?_)
  | (refine z0b.f ?_)
  | (refine z0p.o hF zgi (fun a h => ziz h) (fun a hF => ?_))
  | (refine z0p.o hF zey (fun a h => zej h) (fun a hF => ?_))
  | (refine z0p.o hF zgh (fun a h => ziy h) (fun a hF => ?_))
  | (refine zhu hF (fun hF => ?_) (fun v hF => ?_); rotate_left; unfold z2z at hF)
  | (exact ⟨_, hF, LeX.of [] rfl ⟨⟨rfl, rfl⟩, ⟨rfl, rfl⟩, trivial⟩ ⟨⟨rfl, rfl⟩, trivial⟩⟩)
  | (refine And.intro ⟨by kernel_rfl, by kernel_rfl⟩ ?_)
  | (refine EqX.mk (by first | rfl | kernel_rfl) ?_)
  | (exact RetX.o hF (by repeat' first | exact Sub.nil _ | exact Sub.refl _ | refine Sub.agg ?_ | refine Sub.tup ?_ | refine Sub.fn ?_ | exact SubL.nil | refine SubL.cons ?_ ?_ | refine Sub.sl _ ?_ | exact SubE.nil | refine SubE.cons ?_ ?_))
def zba (a1 : z01) (a0 : z0e) (w1_0 : Bool) : AS := ⟨[(2, .ptr 2 0), (3, .ptr 3 0), (4, .ptr 4 0), (29, .bool (w1_0))], [(2, .box 275 [aI (a0.fKind), aI (a0.fCount), aI (a0.fValue.fKind), aI (a0.fValue.fNum), .str (a0.fValue.fText)]), (3, .box 45 [aI (a1.fKind), aI (a1.fNum), .str (a1.fText)]), (4, .box 45 [aI (0), aI (0), .str (ByteArray.empty)])]⟩
theorem zh3 {n : Nat} {a1 : z01} {a0 : z0e} {R : Exit → AS → Prop} {K : List z16} {i : Nat} {os : Array Oper} {d : Bool} {C : Code} {σ : AS} {x : Option (z01 × Int)} {r : z01 × Int} (hF : jon (z2u n a1 a0) x = some r) (h1 : x = some r → AW E0 41 (z0v (fun σ' => ∃ v', z2u n a1 a0 v' = some r ∧ LeX E0 41 σ' (zba a1 a0 v')) (AW E0 41 R (.code C :: K))) [.code (.region i os d)] .normal σ) (h2 : ∀ v, z2u n a1 a0 v = some r → AW E0 41 R (.code C :: K) .normal (zba a1 a0 v)) : AW E0 41 R (.code (.region i os d) :: .code C :: K) .normal σ :=
 AW.joinO1 (S := zba a1 a0) hF h1 h2
def zkj (r : z01 × Int) : AV := .tup [.agg [aI (r.1.fKind), aI (r.1.fNum), .str (r.1.fText)], aI (r.2)]
theorem zqe {n : Nat} {a0 : z0e} {a1 : z01} {r : z01 × Int} (hF : zfm n a0 a1 = some r) : Con E0 true 242 [.agg [aI (a0.fKind), aI (a0.fCount), aI (a0.fValue.fKind), aI (a0.fValue.fNum), .str (a0.fValue.fText)], .agg [aI (a1.fKind), aI (a1.fNum), .str (a1.fText)]] (zkj r) := by
 unfold zfm at hF
 refine Con.walk _ Tryz.func242 rfl (z06 Tryz.func242 rfl rfl) rfl (Or.inr rfl) ?_
 repeat' first
  | (refine zh3 hF (fun hF => ?_) (fun v hF => ?_); rotate_left; unfold z2u at hF)
  | (refine AW.regO hF (fun hF => ?_))
  | (refine AW.stepU [9] ?_; conv => whnf)
  | (refine z0b.o hF (fun hF => ?_) (fun hF => ?_))
  | (refine z0b.t ?_)
  | (refine z0b.f ?_)
  | (refine z0p.o hF zm5 (fun a h => zro h) (fun a hF => ?_))
  | (refine z0p.o hF zgg (fun a h => zix h) (fun a hF => ?_))
  | (refine zh3 hF (fun hF => ?_) (fun v hF => ?_); rotate_left; unfold z2u at hF)
  | (exact ⟨_, hF, LeX.of [] rfl ⟨⟨rfl, rfl⟩, ⟨rfl, rfl⟩, ⟨rfl, rfl⟩, ⟨rfl, rfl⟩, trivial⟩ ⟨⟨rfl, rfl⟩, ⟨rfl, rfl⟩, ⟨rfl, rfl⟩, trivial⟩⟩)
  | (refine And.intro ⟨by kernel_rfl, by kernel_rfl⟩ ?_)
  | (refine EqX.mk (by first | rfl | kernel_rfl) ?_)
  | (exact RetX.o hF (by repeat' first | exact Sub.nil _ | exact Sub.refl _ | refine Sub.agg ?_ | refine Sub.tup ?_ | refine Sub.fn ?_ | exact SubL.nil | refine SubL.cons ?_ ?_ | refine Sub.sl _ ?_ | exact SubE.nil | refine SubE.cons ?_ ?_))
def zbx (a2 : z01) (a1 : (List z01)) (a0 : Int) (v1_0 : Int) : AS := ⟨[(1, .sl 3 (List.map z0c (a1))), (3, .ptr 3 0), (5, .ptr 5 0), (6, .ptr 6 0), (22, .sl 3 (List.map z0c (a1))), (23, aI ((((List.map z0c (a1)).length : Nat) : Int))), (24, aI (v1_0))], [(3, .box 3 [aI (a0)]), (5, .box 45 [aI (a2.fKind), aI (a2.fNum), .str (a2.fText)]), (6, .box 45 [aI (0), aI (0), .str (ByteArray.empty)])]⟩
theorem aggregate_Of_l1_o {n N : Nat} {a2 : z01} {a1 : (List z01)} {a0 : Int} {k1_0_0 : Option (z01 × Int)} {R : Exit → AS → Prop} {K : List z16} {c : Code} {σ : AS} {v0 : Int} {r : z01 × Int} (hF : z7w n a2 a1 a0 k1_0_0 N v0 = some r) (hl : LeX E0 46 σ (zbx a2 a1 a0 v0)) (round : ∀ m v, z7w n a2 a1 a0 k1_0_0 (m + 1) v = some r → AW E0 46 (z0v (fun σ' => ∃ v', z7w n a2 a1 a0 k1_0_0 m v' = some r ∧ LeX E0 46 σ' (zbx a2 a1 a0 v')) (AW E0 46 R K)) [.code c] .normal (zbx a2 a1 a0 v)) : z5v E0 46 (fun next σ' => AW E0 46 (z0v next (AW E0 46 R K)) [.code c] .normal σ') σ :=
 LoopA.o (S := zbx a2 a1 a0) hF (fun _ => rfl) hl round
def zr9 (r : z01 × Int) : AV := .tup [.agg [aI (r.1.fKind), aI (r.1.fNum), .str (r.1.fText)], aI (r.2)]
theorem con_aggregate_Of {n : Nat} {a0 : Int} {a1 : (List z01)} {a2 : z01} {r : z01 × Int} (hF : zlf n a0 a1 a2 = some r) : Con E0 true 232 [aI (a0), .sl 3 (List.map z0c (a1)), .agg [aI (a2.fKind), aI (a2.fNum), .str (a2.fText)]] (zr9 r) := by
 unfold zlf at hF
 refine Con.walk _ Tryz.func232 rfl (z06 Tryz.func232 rfl rfl) rfl (Or.inr rfl) ?_
 repeat' first
  | (refine AW.step ?_; conv => whnf)
  | (refine z0b.o hF (fun hF => ?_) (fun hF => ?_))
  | (refine z0b.t ?_)
  | (refine z0b.f ?_)
  | (refine z0p.o hF zgi (fun a h => ziz h) (fun a hF => ?_))
  | (refine z9v.o hF zki (fun a h => zqd h) (fun _ => Or.inr rfl) (fun a hF => ?_))
  | (refine z0p.o hF zkj (fun a h => zqe h) (fun a hF => ?_))
  | (refine IdxX.o z0c hF (fun x hF => ?_))
  | (refine z0p.o hF zgg (fun a h => zix h) (fun a hF => ?_))
  | (exact ⟨_, hF, LeX.of [] rfl ⟨⟨rfl, rfl⟩, ⟨rfl, rfl⟩, ⟨rfl, rfl⟩, ⟨rfl, rfl⟩, ⟨rfl, rfl⟩, ⟨rfl, rfl⟩, ⟨rfl, rfl⟩, trivial⟩ ⟨⟨rfl, rfl⟩, ⟨rfl, rfl⟩, ⟨rfl, rfl⟩, trivial⟩⟩)
  | (refine aggregate_Of_l1_o hF (LeX.of [] rfl ⟨⟨rfl, rfl⟩, ⟨rfl, rfl⟩, ⟨rfl, rfl⟩, ⟨rfl, rfl⟩, ⟨rfl, rfl⟩, ⟨rfl, rfl⟩, ⟨rfl, rfl⟩, trivial⟩ ⟨⟨rfl, rfl⟩, ⟨rfl, rfl⟩, ⟨rfl, rfl⟩, trivial⟩) (fun m v hF => ?_); unfold z7w at hF)
  | (refine And.intro ⟨by kernel_rfl, by kernel_rfl⟩ ?_)
  | (refine EqX.mk (by first | rfl | kernel_rfl) ?_)
  | (exact RetX.o hF (by repeat' first | exact Sub.nil _ | exact Sub.refl _ | refine Sub.agg ?_ | refine Sub.tup ?_ | refine Sub.fn ?_ | exact SubL.nil | refine SubL.cons ?_ ?_ | refine Sub.sl _ ?_ | exact SubE.nil | refine SubE.cons ?_ ?_))
def R_cmp_isNaN (r : Bool) : AV := .bool (r)
theorem con_cmp_isNaN {n : Nat} {a0 : Int} {r : Bool} (hF : zjs n a0 = some r) : Con E0 true 112 [aI (a0)] (R_cmp_isNaN r) := by
 unfold zjs at hF
 refine Con.walk _ Tryz.func112 rfl (z06 Tryz.func112 rfl rfl) rfl (Or.inr rfl) ?_
 repeat' first
  | (refine AW.step ?_; conv => whnf)
  | (refine z0b.o hF (fun hF => ?_) (fun hF => ?_))
  | (refine z0b.t ?_)
  | (refine z0b.f ?_)
  | (refine And.intro ⟨by kernel_rfl, by kernel_rfl⟩ ?_)
  | (refine EqX.mk (by first | rfl | kernel_rfl) ?_)
  | (exact RetX.o hF (by repeat' first | exact Sub.nil _ | exact Sub.refl _ | refine Sub.agg ?_ | refine Sub.tup ?_ | refine Sub.fn ?_ | exact SubL.nil | refine SubL.cons ?_ ?_ | refine Sub.sl _ ?_ | exact SubE.nil | refine SubE.cons ?_ ?_))
def za8 (r : Int) : AV := aI (r)
theorem z9h {n : Nat} {a0 : Int} {a1 : Int} {r : Int} (hF : z2g n a0 a1 = some r) : Con E0 true 81 [aI (a0), aI (a1)] (za8 r) := by
 unfold z2g at hF
 refine Con.walk _ Tryz.func81 rfl (z06 Tryz.func81 rfl rfl) rfl (Or.inr rfl) ?_
 repeat' first
  | (refine AW.step ?_; conv => whnf)
  | (refine z0b.o hF (fun hF => ?_) (fun hF => ?_))
  | (refine z0b.t ?_)
  | (refine z0b.f ?_)
  | (refine z0p.o hF R_cmp_isNaN (fun a h => con_cmp_isNaN h) (fun a hF => ?_))
  | (refine And.intro ⟨by kernel_rfl, by kernel_rfl⟩ ?_)
  | (refine EqX.mk (by first | rfl | kernel_rfl) ?_)
  | (exact RetX.o hF (by repeat' first | exact Sub.nil _ | exact Sub.refl _ | refine Sub.agg ?_ | refine Sub.tup ?_ | refine Sub.fn ?_ | exact SubL.nil | refine SubL.cons ?_ ?_ | refine Sub.sl _ ?_ | exact SubE.nil | refine SubE.cons ?_ ?_))
def zmt (a0 : (List Int)) (v1_0 : Int) : AS := ⟨[(3, aI (0)), (6, .sl 1 (List.map aI (a0))), (7, aI ((((List.map aI (a0)).length : Nat) : Int))), (8, aI (v1_0))], []⟩
end Go.Proofs.YtjpknpjjcddnnaaGreat
namespace Go.Proofs.YtjpknpjjcddnnaaGreat
open Go.RowKit
theorem cmp_Or_l1_o {n N : Nat} {a0 : (List Int)} {k1_0_0 : Option (Int)} {R : Exit → AS → Prop} {K : List z16} {c : Code} {σ : AS} {v0 : Int} {r : Int} (hF : zbm n a0 k1_0_0 N v0 = some r) (hl : LeX E0 18 σ (zmt a0 v0)) (round : ∀ m v, zbm n a0 k1_0_0 (m + 1) v = some r → AW E0 18 (z0v (fun σ' => ∃ v', zbm n a0 k1_0_0 m v' = some r ∧ LeX E0 18 σ' (zmt a0 v')) (AW E0 18 R K)) [.code c] .normal (zmt a0 v)) : z5v E0 18 (fun next σ' => AW E0 18 (z0v next (AW E0 18 R K)) [.code c] .normal σ') σ :=
 LoopA.o (S := zmt a0) hF (fun _ => rfl) hl round
def zq5 (r : Int) : AV := aI (r)
theorem zlu {n : Nat} {a0 : (List Int)} {r : Int} (hF : zdg n a0 = some r) : Con E0 true 79 [.sl 1 (List.map aI (a0))] (zq5 r) := by
 unfold zdg at hF
 refine Con.walk _ Tryz.func79 rfl (z06 Tryz.func79 rfl rfl) rfl (Or.inr rfl) ?_
 repeat' first
  | (refine AW.step ?_; conv => whnf)
  | (refine z0b.o hF (fun hF => ?_) (fun hF => ?_))
  | (refine z0b.t ?_)
  | (refine z0b.f ?_)
  | (refine IdxX.o aI hF (fun x hF => ?_))
  | (exact ⟨_, hF, LeX.of [] rfl ⟨⟨rfl, rfl⟩, ⟨rfl, rfl⟩, ⟨rfl, rfl⟩, ⟨rfl, rfl⟩, trivial⟩ trivial⟩)
  | (refine cmp_Or_l1_o hF (LeX.of [] rfl ⟨⟨rfl, rfl⟩, ⟨rfl, rfl⟩, ⟨rfl, rfl⟩, ⟨rfl, rfl⟩, trivial⟩ trivial) (fun m v hF => ?_); unfold zbm at hF)
  | (refine And.intro ⟨by kernel_rfl, by kernel_rfl⟩ ?_)
  | (refine EqX.mk (by first | rfl | kernel_rfl) ?_)
  | (exact RetX.o hF (by repeat' first | exact Sub.nil _ | exact Sub.refl _ | refine Sub.agg ?_ | refine Sub.tup ?_ | refine Sub.fn ?_ | exact SubL.nil | refine SubL.cons ?_ ?_ | refine Sub.sl _ ?_ | exact SubE.nil | refine SubE.cons ?_ ?_))
def R_match_refs (r : Int) : AV := aI (r)
theorem con_match_refs {n : Nat} {a0 : z0q} {a1 : z0q} {r : Int} (hF : zhk n a0 a1 = some r) : Con E0 true 80 [.agg [aI (a0.fTime), aI (a0.fSource), aI (a0.fSeq)], .agg [aI (a1.fTime), aI (a1.fSource), aI (a1.fSeq)]] (R_match_refs r) := by
 unfold zhk at hF
 refine Con.walk _ Tryz.func80 rfl (z06 Tryz.func80 rfl rfl) rfl (Or.inr rfl) ?_
 repeat' first
  | (refine AW.step ?_; conv => whnf)
  | (refine z0b.o hF (fun hF => ?_) (fun hF => ?_))
  | (refine z0b.t ?_)
  | (refine z0b.f ?_)
  | (refine z0p.o hF za8 (fun a h => z9h h) (fun a hF => ?_))
  | (refine z0p.o hF zq5 (fun a h => zlu h) (fun a hF => ?_))
  | (refine And.intro ⟨by kernel_rfl, by kernel_rfl⟩ ?_)
  | (refine EqX.mk (by first | rfl | kernel_rfl) ?_)
  | (exact RetX.o hF (by repeat' first | exact Sub.nil _ | exact Sub.refl _ | refine Sub.agg ?_ | refine Sub.tup ?_ | refine Sub.fn ?_ | exact SubL.nil | refine SubL.cons ?_ ?_ | refine Sub.sl _ ?_ | exact SubE.nil | refine SubE.cons ?_ ?_))
def zm2 (r : Int) : AV := aI (r)
theorem zrl {n : Nat} {a0 : z0g} {a1 : z0g} {r : Int} (hF : z9r n a0 a1 = some r) : Con E0 true 78 [.agg [aI (a0.fVar), aI (a0.fRef.fTime), aI (a0.fRef.fSource), aI (a0.fRef.fSeq)], .agg [aI (a1.fVar), aI (a1.fRef.fTime), aI (a1.fRef.fSource), aI (a1.fRef.fSeq)]] (zm2 r) := by
 unfold z9r at hF
 refine Con.walk _ Tryz.func78 rfl (z06 Tryz.func78 rfl rfl) rfl (Or.inr rfl) ?_
 repeat' first
  | (refine AW.step ?_; conv => whnf)
  | (refine z0b.o hF (fun hF => ?_) (fun hF => ?_))
  | (refine z0b.t ?_)
  | (refine z0b.f ?_)
  | (refine z0p.o hF R_match_refs (fun a h => con_match_refs h) (fun a hF => ?_))
  | (refine z0p.o hF za8 (fun a h => z9h h) (fun a hF => ?_))
  | (refine z0p.o hF zq5 (fun a h => zlu h) (fun a hF => ?_))
  | (refine And.intro ⟨by kernel_rfl, by kernel_rfl⟩ ?_)
  | (refine EqX.mk (by first | rfl | kernel_rfl) ?_)
  | (exact RetX.o hF (by repeat' first | exact Sub.nil _ | exact Sub.refl _ | refine Sub.agg ?_ | refine Sub.tup ?_ | refine Sub.fn ?_ | exact SubL.nil | refine SubL.cons ?_ ?_ | refine Sub.sl _ ?_ | exact SubE.nil | refine SubE.cons ?_ ?_))
def z7d (a1 : (List z0g)) (a0 : (List z0g)) (v1_0 : Int) : AS := ⟨[(0, .sl 4 (List.map z09 (a0))), (1, .sl 4 (List.map z09 (a1))), (2, .fn 78 []), (11, .sl 4 (List.map z09 (a0))), (12, aI ((((List.map z09 (a0)).length : Nat) : Int))), (13, aI (v1_0))], []⟩
theorem zmd {n N : Nat} {a1 : (List z0g)} {a0 : (List z0g)} {k1_0_0 : Option (Int)} {R : Exit → AS → Prop} {K : List z16} {c : Code} {σ : AS} {v0 : Int} {r : Int} (hF : z2o n a1 a0 k1_0_0 N v0 = some r) (hl : LeX E0 39 σ (z7d a1 a0 v0)) (round : ∀ m v, z2o n a1 a0 k1_0_0 (m + 1) v = some r → AW E0 39 (z0v (fun σ' => ∃ v', z2o n a1 a0 k1_0_0 m v' = some r ∧ LeX E0 39 σ' (z7d a1 a0 v')) (AW E0 39 R K)) [.code c] .normal (z7d a1 a0 v)) : z5v E0 39 (fun next σ' => AW E0 39 (z0v next (AW E0 39 R K)) [.code c] .normal σ') σ :=
 LoopA.o (S := z7d a1 a0) hF (fun _ => rfl) hl round
def zi0 (r : Int) : AV := aI (r)
theorem znk {n : Nat} {a0 : (List z0g)} {a1 : (List z0g)} {r : Int} (hF : z79 n a0 a1 = some r) : Con E0 true 77 [.sl 4 (List.map z09 (a0)), .sl 4 (List.map z09 (a1)), .fn 78 []] (zi0 r) := by
 unfold z79 at hF
 refine Con.walk _ Tryz.func77 rfl (z06 Tryz.func77 rfl rfl) rfl (Or.inr rfl) ?_
 repeat' first
  | (refine AW.step ?_; conv => whnf)
  | (refine z0b.o hF (fun hF => ?_) (fun hF => ?_))
  | (refine z0b.t ?_)
  | (refine z0b.f ?_)
  | (refine IdxX.o z09 hF (fun x hF => ?_))
  | (refine z0p.o hF zm2 (fun a h => zrl h) (fun a hF => ?_))
  | (exact ⟨_, hF, LeX.of [] rfl ⟨⟨rfl, rfl⟩, ⟨rfl, rfl⟩, ⟨rfl, rfl⟩, ⟨rfl, rfl⟩, ⟨rfl, rfl⟩, ⟨rfl, rfl⟩, trivial⟩ trivial⟩)
  | (refine zmd hF (LeX.of [] rfl ⟨⟨rfl, rfl⟩, ⟨rfl, rfl⟩, ⟨rfl, rfl⟩, ⟨rfl, rfl⟩, ⟨rfl, rfl⟩, ⟨rfl, rfl⟩, trivial⟩ trivial) (fun m v hF => ?_); unfold z2o at hF)
  | (refine And.intro ⟨by kernel_rfl, by kernel_rfl⟩ ?_)
  | (refine EqX.mk (by first | rfl | kernel_rfl) ?_)
  | (exact RetX.o hF (by repeat' first | exact Sub.nil _ | exact Sub.refl _ | refine Sub.agg ?_ | refine Sub.tup ?_ | refine Sub.fn ?_ | exact SubL.nil | refine SubL.cons ?_ ?_ | refine Sub.sl _ ?_ | exact SubE.nil | refine SubE.cons ?_ ?_))
def zjc (r : Int) : AV := aI (r)
theorem zlr {n : Nat} {a0 : z03} {a1 : z03} {r : Int} (hF : z9s n a0 a1 = some r) : Con E0 true 43 [.agg [.sl 4 (List.map z09 (a0.fBindings))], .agg [.sl 4 (List.map z09 (a1.fBindings))]] (zjc r) := by
 unfold z9s at hF
 refine Con.walk _ Tryz.func43 rfl (z06 Tryz.func43 rfl rfl) rfl (Or.inr rfl) ?_
 repeat' first
  | (refine AW.step ?_; conv => whnf)
  | (refine z0b.o hF (fun hF => ?_) (fun hF => ?_))
  | (refine z0b.t ?_)
  | (refine z0b.f ?_)
  | (refine z0p.o hF zi0 (fun a h => znk h) (fun a hF => ?_))
  | (refine And.intro ⟨by kernel_rfl, by kernel_rfl⟩ ?_)
  | (refine EqX.mk (by first | rfl | kernel_rfl) ?_)
  | (exact RetX.o hF (by repeat' first | exact Sub.nil _ | exact Sub.refl _ | refine Sub.agg ?_ | refine Sub.tup ?_ | refine Sub.fn ?_ | exact SubL.nil | refine SubL.cons ?_ ?_ | refine Sub.sl _ ?_ | exact SubE.nil | refine SubE.cons ?_ ?_))
def zp5 (r : Int) : AV := aI (r)
theorem con_run_compare_1 {n : Nat} {a0 : z04} {a1 : z04} {r : Int} (hF : zbl n a0 a1 = some r) : Con E0 true 90 [.agg [aI (a0.fScope), aI (a0.fTime)], .agg [aI (a1.fScope), aI (a1.fTime)]] (zp5 r) := by
 unfold zbl at hF
 refine Con.walk _ Tryz.func90 rfl (z06 Tryz.func90 rfl rfl) rfl (Or.inr rfl) ?_
 repeat' first
  | (refine AW.step ?_; conv => whnf)
  | (refine z0b.o hF (fun hF => ?_) (fun hF => ?_))
  | (refine z0b.t ?_)
  | (refine z0b.f ?_)
  | (refine z0p.o hF za8 (fun a h => z9h h) (fun a hF => ?_))
  | (refine z0p.o hF zq5 (fun a h => zlu h) (fun a hF => ?_))
  | (refine And.intro ⟨by kernel_rfl, by kernel_rfl⟩ ?_)
  | (refine EqX.mk (by first | rfl | kernel_rfl) ?_)
  | (exact RetX.o hF (by repeat' first | exact Sub.nil _ | exact Sub.refl _ | refine Sub.agg ?_ | refine Sub.tup ?_ | refine Sub.fn ?_ | exact SubL.nil | refine SubL.cons ?_ ?_ | refine Sub.sl _ ?_ | exact SubE.nil | refine SubE.cons ?_ ?_))
def z4z (a1 : (List z04)) (a0 : (List z04)) (v1_0 : Int) : AS := ⟨[(0, .sl 2 (List.map z07 (a0))), (1, .sl 2 (List.map z07 (a1))), (2, .fn 90 []), (11, .sl 2 (List.map z07 (a0))), (12, aI ((((List.map z07 (a0)).length : Nat) : Int))), (13, aI (v1_0))], []⟩
theorem zil {n N : Nat} {a1 : (List z04)} {a0 : (List z04)} {k1_0_0 : Option (Int)} {R : Exit → AS → Prop} {K : List z16} {c : Code} {σ : AS} {v0 : Int} {r : Int} (hF : z1k n a1 a0 k1_0_0 N v0 = some r) (hl : LeX E0 39 σ (z4z a1 a0 v0)) (round : ∀ m v, z1k n a1 a0 k1_0_0 (m + 1) v = some r → AW E0 39 (z0v (fun σ' => ∃ v', z1k n a1 a0 k1_0_0 m v' = some r ∧ LeX E0 39 σ' (z4z a1 a0 v')) (AW E0 39 R K)) [.code c] .normal (z4z a1 a0 v)) : z5v E0 39 (fun next σ' => AW E0 39 (z0v next (AW E0 39 R K)) [.code c] .normal σ') σ :=
 LoopA.o (S := z4z a1 a0) hF (fun _ => rfl) hl round
def ze0 (r : Int) : AV := aI (r)
theorem zk1 {n : Nat} {a0 : (List z04)} {a1 : (List z04)} {r : Int} (hF : z4l n a0 a1 = some r) : Con E0 true 89 [.sl 2 (List.map z07 (a0)), .sl 2 (List.map z07 (a1)), .fn 90 []] (ze0 r) := by
 unfold z4l at hF
 refine Con.walk _ Tryz.func89 rfl (z06 Tryz.func89 rfl rfl) rfl (Or.inr rfl) ?_
 repeat' first
  | (refine AW.step ?_; conv => whnf)
  | (refine z0b.o hF (fun hF => ?_) (fun hF => ?_))
  | (refine z0b.t ?_)
  | (refine z0b.f ?_)
  | (refine IdxX.o z07 hF (fun x hF => ?_))
  | (refine z0p.o hF zp5 (fun a h => con_run_compare_1 h) (fun a hF => ?_))
  | (exact ⟨_, hF, LeX.of [] rfl ⟨⟨rfl, rfl⟩, ⟨rfl, rfl⟩, ⟨rfl, rfl⟩, ⟨rfl, rfl⟩, ⟨rfl, rfl⟩, ⟨rfl, rfl⟩, trivial⟩ trivial⟩)
  | (refine zil hF (LeX.of [] rfl ⟨⟨rfl, rfl⟩, ⟨rfl, rfl⟩, ⟨rfl, rfl⟩, ⟨rfl, rfl⟩, ⟨rfl, rfl⟩, ⟨rfl, rfl⟩, trivial⟩ trivial) (fun m v hF => ?_); unfold z1k at hF)
  | (refine And.intro ⟨by kernel_rfl, by kernel_rfl⟩ ?_)
  | (refine EqX.mk (by first | rfl | kernel_rfl) ?_)
  | (exact RetX.o hF (by repeat' first | exact Sub.nil _ | exact Sub.refl _ | refine Sub.agg ?_ | refine Sub.tup ?_ | refine Sub.fn ?_ | exact SubL.nil | refine SubL.cons ?_ ?_ | refine Sub.sl _ ?_ | exact SubE.nil | refine SubE.cons ?_ ?_))
def zst (r : Int) : AV := aI (r)
theorem con_run_compare {n : Nat} {a0 : z00} {a1 : z00} {r : Int} (hF : zfe n a0 a1 = some r) : Con E0 true 59 [.agg [aI (a0.fState), .sl 4 (List.map z09 (a0.fBindings)), .sl 2 (List.map z07 (a0.fStarts))], .agg [aI (a1.fState), .sl 4 (List.map z09 (a1.fBindings)), .sl 2 (List.map z07 (a1.fStarts))]] (zst r) := by
 unfold zfe at hF
 refine Con.walk _ Tryz.func59 rfl (z06 Tryz.func59 rfl rfl) rfl (Or.inr rfl) ?_
 repeat' first
  | (refine AW.step ?_; conv => whnf)
  | (refine z0b.o hF (fun hF => ?_) (fun hF => ?_))
  | (refine z0b.t ?_)
  | (refine z0b.f ?_)
  | (refine z0p.o hF za8 (fun a h => z9h h) (fun a hF => ?_))
  | (refine z0p.o hF zjc (fun a h => zlr h) (fun a hF => ?_))
  | (refine z0p.o hF ze0 (fun a h => zk1 h) (fun a hF => ?_))
  | (refine z0p.o hF zq5 (fun a h => zlu h) (fun a hF => ?_))
  | (refine And.intro ⟨by kernel_rfl, by kernel_rfl⟩ ?_)
  | (refine EqX.mk (by first | rfl | kernel_rfl) ?_)
  | (exact RetX.o hF (by repeat' first | exact Sub.nil _ | exact Sub.refl _ | refine Sub.agg ?_ | refine Sub.tup ?_ | refine Sub.fn ?_ | exact SubL.nil | refine SubL.cons ?_ ?_ | refine Sub.sl _ ?_ | exact SubE.nil | refine SubE.cons ?_ ?_))
def R_run_ref (r : z0q) : AV := .agg [aI (r.fTime), aI (r.fSource), aI (r.fSeq)]
theorem con_run_ref {n : Nat} {a0 : z02} {r : z0q} (hF : zpr n a0 = some r) : Con E0 true 72 [.agg [aI (a0.fSource), aI (a0.fSeq), aI (a0.fType), aI (a0.fTime), .sl 3 (List.map z0c (a0.fValues))]] (R_run_ref r) := by
 unfold zpr at hF
 refine Con.walk _ Tryz.func72 rfl (z06 Tryz.func72 rfl rfl) rfl (Or.inr rfl) ?_
 repeat' first
  | (refine AW.step ?_; conv => whnf)
  | (refine z0b.o hF (fun hF => ?_) (fun hF => ?_))
  | (refine z0b.t ?_)
  | (refine z0b.f ?_)
  | (refine And.intro ⟨by kernel_rfl, by kernel_rfl⟩ ?_)
  | (refine EqX.mk (by first | rfl | kernel_rfl) ?_)
  | (exact RetX.o hF (by repeat' first | exact Sub.nil _ | exact Sub.refl _ | refine Sub.agg ?_ | refine Sub.tup ?_ | refine Sub.fn ?_ | exact SubL.nil | refine SubL.cons ?_ ?_ | refine Sub.sl _ ?_ | exact SubE.nil | refine SubE.cons ?_ ?_))
end Go.Proofs.YtjpknpjjcddnnaaGreat
