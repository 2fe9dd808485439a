/- What some functions compute, over plain values. Printed by a program of mine (gen_fun.lean). -/
import Derived.Test.YtjpknpjjcddnnaaGreatK16
set_option linter.unusedVariables false
set_option linter.unusedSimpArgs false
set_option maxRecDepth 100000
set_option maxHeartbeats 8000000
namespace Go.Proofs.YtjpknpjjcddnnaaGreat
open Go.RowKit
theorem con_expr_Eval {n : Nat} {a0 : z0f} {a1 : z0d} {a2 : Int} {a3 : z02} {r : z01 × Int} (hF : zs1 n a0 a1 a2 a3 = some r) : Con E0 true 172 [.agg [aI (a0.fOp), .sl 8 (List.map idA (a0.fArgs)), aI (a0.fVar), aI (a0.fField), aI (a0.fKind), aI (a0.fValue.fKind), aI (a0.fValue.fNum), .str (a0.fValue.fText)], .agg [.sl 1 (List.map (fun q => AV.sl 5 (List.map z0a q)) (a1.fVars))], aI (a2), .agg [aI (a3.fSource), aI (a3.fSeq), aI (a3.fType), aI (a3.fTime), .sl 3 (List.map z0c (a3.fValues))]] (R_expr_Eval r) := by
 unfold zs1 at hF
 refine Con.walk _ Tryz.func172 rfl (z06 Tryz.func172 rfl rfl) rfl (Or.inr rfl) ?_
 repeat' first
  | (refine AW.step ?_; conv => whnf)
  | (refine z0b.o hF (fun hF => ?_) (fun hF => ?_))
  | (refine z0b.t ?_)
  | (refine z0b.f ?_)
  | (refine z0p.o hF zkc (fun a h => zl0 h) (fun a hF => ?_))
  | (refine z0p.mk _ _ zrm ?_)
  | (refine z0p.o hF zau (fun a h => zlt h) (fun a hF => ?_))
  | (refine And.intro ⟨by kernel_rfl, by kernel_rfl⟩ ?_)
  | (refine EqX.mk (by first | rfl | kernel_rfl) ?_)
  | (exact RetX.o hF (by repeat' first | exact Sub.nil _ | exact Sub.refl _ | refine Sub.agg ?_ | refine Sub.tup ?_ | refine Sub.fn ?_ | exact SubL.nil | refine SubL.cons ?_ ?_ | refine Sub.sl _ ?_ | exact SubE.nil | refine SubE.cons ?_ ?_))
def zj7 (w1_0 : Bool) : AS := ⟨[(8, .bool (w1_0))], []⟩
theorem zob {n : Nat} {R : Exit → AS → Prop} {K : List z16} {i : Nat} {os : Array Oper} {d : Bool} {C : Code} {σ : AS} {x : Option (Bool)} {r : Bool} (hF : jon (z59 n) x = some r) (h1 : x = some r → AW E0 26 (z0v (fun σ' => ∃ v', z59 n v' = some r ∧ LeX E0 26 σ' (zj7 v')) (AW E0 26 R (.code C :: K))) [.code (.region i os d)] .normal σ) (h2 : ∀ v, z59 n v = some r → AW E0 26 R (.code C :: K) .normal (zj7 v)) : AW E0 26 R (.code (.region i os d) :: .code C :: K) .normal σ :=
 AW.joinO1 (S := zj7) hF h1 h2
def zha (r : Bool) : AV := .bool (r)
theorem zgp {n : Nat} {a0 : z0f} {a1 : z0d} {a2 : Int} {a3 : z02} {r : Bool} (hF : zhl n a0 a1 a2 a3 = some r) : Con E0 true 131 [.agg [aI (a0.fOp), .sl 8 (List.map idA (a0.fArgs)), aI (a0.fVar), aI (a0.fField), aI (a0.fKind), aI (a0.fValue.fKind), aI (a0.fValue.fNum), .str (a0.fValue.fText)], .agg [.sl 1 (List.map (fun q => AV.sl 5 (List.map z0a q)) (a1.fVars))], aI (a2), .agg [aI (a3.fSource), aI (a3.fSeq), aI (a3.fType), aI (a3.fTime), .sl 3 (List.map z0c (a3.fValues))]] (zha r) := by
 unfold zhl at hF
 refine Con.walk _ Tryz.func131 rfl (z06 Tryz.func131 rfl rfl) rfl (Or.inr rfl) ?_
 repeat' first
  | (refine zob hF (fun hF => ?_) (fun v hF => ?_); rotate_left; unfold z59 at hF)
  | (refine AW.regO hF (fun hF => ?_))
  | (refine AW.stepU [2] ?_; conv => whnf)
  | (refine z0b.o hF (fun hF => ?_) (fun hF => ?_))
  | (refine z0b.t ?_)
  | (refine z0b.f ?_)
  | (refine z0p.o hF R_expr_Eval (fun a h => con_expr_Eval h) (fun a hF => ?_))
  | (refine zob hF (fun hF => ?_) (fun v hF => ?_); rotate_left; unfold z59 at hF)
  | (refine z0p.o hF zbc (fun a h => za3 h) (fun a hF => ?_))
  | (exact ⟨_, hF, LeX.of [] rfl ⟨⟨rfl, rfl⟩, trivial⟩ trivial⟩)
  | (refine And.intro ⟨by kernel_rfl, by kernel_rfl⟩ ?_)
  | (refine EqX.mk (by first | rfl | kernel_rfl) ?_)
  | (exact RetX.o hF (by repeat' first | exact Sub.nil _ | exact Sub.refl _ | refine Sub.agg ?_ | refine Sub.tup ?_ | refine Sub.fn ?_ | exact SubL.nil | refine SubL.cons ?_ ?_ | refine Sub.sl _ ?_ | exact SubE.nil | refine SubE.cons ?_ ?_))
def zgf (w1_0 : Bool) : AS := ⟨[(6, .bool (w1_0))], []⟩
theorem zlg {n : Nat} {R : Exit → AS → Prop} {K : List z16} {i : Nat} {os : Array Oper} {d : Bool} {C : Code} {σ : AS} {x : Option (Bool)} {r : Bool} (hF : jon (z41 n) x = some r) (h1 : x = some r → AW E0 21 (z0v (fun σ' => ∃ v', z41 n v' = some r ∧ LeX E0 21 σ' (zgf v')) (AW E0 21 R (.code C :: K))) [.code (.region i os d)] .normal σ) (h2 : ∀ v, z41 n v = some r → AW E0 21 R (.code C :: K) .normal (zgf v)) : AW E0 21 R (.code (.region i os d) :: .code C :: K) .normal σ :=
 AW.joinO1 (S := zgf) hF h1 h2
def zl8 (r : Bool) : AV := .bool (r)
theorem zn6 {n : Nat} {a0 : z0l} {a1 : z0d} {a2 : z02} {r : Bool} (hF : zgs n a0 a1 a2 = some r) : Con E0 true 108 [.agg [aI (a0.fScope), aI (a0.fType), aI (a0.fVar), aI (a0.fCond.fOp), .sl 8 (List.map idA (a0.fCond.fArgs)), aI (a0.fCond.fVar), aI (a0.fCond.fField), aI (a0.fCond.fKind), aI (a0.fCond.fValue.fKind), aI (a0.fCond.fValue.fNum), .str (a0.fCond.fValue.fText)], .agg [.sl 1 (List.map (fun q => AV.sl 5 (List.map z0a q)) (a1.fVars))], .agg [aI (a2.fSource), aI (a2.fSeq), aI (a2.fType), aI (a2.fTime), .sl 3 (List.map z0c (a2.fValues))]] (zl8 r) := by
 unfold zgs at hF
 refine Con.walk _ Tryz.func108 rfl (z06 Tryz.func108 rfl rfl) rfl (Or.inr rfl) ?_
 repeat' first
  | (refine zlg hF (fun hF => ?_) (fun v hF => ?_); rotate_left; unfold z41 at hF)
  | (refine AW.regO hF (fun hF => ?_))
  | (refine AW.stepU [1] ?_; conv => whnf)
  | (refine z0b.o hF (fun hF => ?_) (fun hF => ?_))
  | (refine z0b.t ?_)
  | (refine z0b.f ?_)
  | (refine zlg hF (fun hF => ?_) (fun v hF => ?_); rotate_left; unfold z41 at hF)
  | (refine z0p.o hF zha (fun a h => zgp h) (fun a hF => ?_))
  | (exact ⟨_, hF, LeX.of [] rfl ⟨⟨rfl, rfl⟩, trivial⟩ trivial⟩)
  | (refine And.intro ⟨by kernel_rfl, by kernel_rfl⟩ ?_)
  | (refine EqX.mk (by first | rfl | kernel_rfl) ?_)
  | (exact RetX.o hF (by repeat' first | exact Sub.nil _ | exact Sub.refl _ | refine Sub.agg ?_ | refine Sub.tup ?_ | refine Sub.fn ?_ | exact SubL.nil | refine SubL.cons ?_ ?_ | refine Sub.sl _ ?_ | exact SubE.nil | refine SubE.cons ?_ ?_))
def zd5 (r : Bool) : AV := .bool (r)
theorem ziv {n : Nat} {a0 : z0l} {a1 : z0d} {a2 : z02} {r : Bool} (hF : z9c n a0 a1 a2 = some r) : Con E0 true 107 [.agg [aI (a0.fScope), aI (a0.fType), aI (a0.fVar), aI (a0.fCond.fOp), .sl 8 (List.map idA (a0.fCond.fArgs)), aI (a0.fCond.fVar), aI (a0.fCond.fField), aI (a0.fCond.fKind), aI (a0.fCond.fValue.fKind), aI (a0.fCond.fValue.fNum), .str (a0.fCond.fValue.fText)], .ref [.sl 1 (List.map (fun q => AV.sl 5 (List.map z0a q)) (a1.fVars))], .ref [aI (a2.fSource), aI (a2.fSeq), aI (a2.fType), aI (a2.fTime), .sl 3 (List.map z0c (a2.fValues))]] (zd5 r) := by
 unfold z9c at hF
 refine Con.walk _ Tryz.func107 rfl (z06 Tryz.func107 rfl rfl) rfl (Or.inr rfl) ?_
 repeat' first
  | (refine AW.step ?_; conv => whnf)
  | (refine z0b.o hF (fun hF => ?_) (fun hF => ?_))
  | (refine z0b.t ?_)
  | (refine z0b.f ?_)
  | (refine z0p.o hF zl8 (fun a h => zn6 h) (fun a hF => ?_))
  | (refine And.intro ⟨by kernel_rfl, by kernel_rfl⟩ ?_)
  | (refine EqX.mk (by first | rfl | kernel_rfl) ?_)
  | (exact RetX.o hF (by repeat' first | exact Sub.nil _ | exact Sub.refl _ | refine Sub.agg ?_ | refine Sub.tup ?_ | refine Sub.fn ?_ | exact SubL.nil | refine SubL.cons ?_ ?_ | refine Sub.sl _ ?_ | exact SubE.nil | refine SubE.cons ?_ ?_))
def z5k (a1c1 : z02) (a1c0 : z0d) (a0 : (List z0l)) (v1_0 : Int) : AS := ⟨[(0, .sl 11 (List.map z0t (a0))), (1, .fn 107 [.ref [.sl 1 (List.map (fun q => AV.sl 5 (List.map z0a q)) (a1c0.fVars))], .ref [aI (a1c1.fSource), aI (a1c1.fSeq), aI (a1c1.fType), aI (a1c1.fTime), .sl 3 (List.map z0c (a1c1.fValues))]]), (7, aI ((((List.map z0t (a0)).length : Nat) : Int))), (8, aI (v1_0))], []⟩
theorem zjy {n N : Nat} {a1c1 : z02} {a1c0 : z0d} {a0 : (List z0l)} {k1_0_0 : Option (Int)} {R : Exit → AS → Prop} {K : List z16} {c : Code} {σ : AS} {v0 : Int} {r : Int} (hF : z3b n a1c1 a1c0 a0 k1_0_0 N v0 = some r) (hl : LeX E0 19 σ (z5k a1c1 a1c0 a0 v0)) (round : ∀ m v, z3b n a1c1 a1c0 a0 k1_0_0 (m + 1) v = some r → AW E0 19 (z0v (fun σ' => ∃ v', z3b n a1c1 a1c0 a0 k1_0_0 m v' = some r ∧ LeX E0 19 σ' (z5k a1c1 a1c0 a0 v')) (AW E0 19 R K)) [.code c] .normal (z5k a1c1 a1c0 a0 v)) : z5v E0 19 (fun next σ' => AW E0 19 (z0v next (AW E0 19 R K)) [.code c] .normal σ') σ :=
 LoopA.o (S := z5k a1c1 a1c0 a0) hF (fun _ => rfl) hl round
def zf3 (r : Int) : AV := aI (r)
theorem zkw {n : Nat} {a0 : (List z0l)} {a1c0 : z0d} {a1c1 : z02} {r : Int} (hF : zaf n a0 a1c0 a1c1 = some r) : Con E0 true 54 [.sl 11 (List.map z0t (a0)), .fn 107 [.ref [.sl 1 (List.map (fun q => AV.sl 5 (List.map z0a q)) (a1c0.fVars))], .ref [aI (a1c1.fSource), aI (a1c1.fSeq), aI (a1c1.fType), aI (a1c1.fTime), .sl 3 (List.map z0c (a1c1.fValues))]]] (zf3 r) := by
 unfold zaf at hF
 refine Con.walk _ Tryz.func54 rfl (z06 Tryz.func54 rfl rfl) rfl (Or.inr rfl) ?_
 repeat' first
  | (refine AW.step ?_; conv => whnf)
  | (refine z0b.o hF (fun hF => ?_) (fun hF => ?_))
  | (refine z0b.t ?_)
  | (refine z0b.f ?_)
  | (refine IdxX.o z0t hF (fun x hF => ?_))
  | (refine z0p.o hF zd5 (fun a h => ziv h) (fun a hF => ?_))
  | (exact ⟨_, hF, LeX.of [] rfl ⟨⟨rfl, rfl⟩, ⟨rfl, rfl⟩, ⟨rfl, rfl⟩, ⟨rfl, rfl⟩, trivial⟩ trivial⟩)
  | (refine zjy hF (LeX.of [] rfl ⟨⟨rfl, rfl⟩, ⟨rfl, rfl⟩, ⟨rfl, rfl⟩, ⟨rfl, rfl⟩, trivial⟩ trivial) (fun m v hF => ?_); unfold z3b at hF)
  | (refine And.intro ⟨by kernel_rfl, by kernel_rfl⟩ ?_)
  | (refine EqX.mk (by first | rfl | kernel_rfl) ?_)
  | (exact RetX.o hF (by repeat' first | exact Sub.nil _ | exact Sub.refl _ | refine Sub.agg ?_ | refine Sub.tup ?_ | refine Sub.fn ?_ | exact SubL.nil | refine SubL.cons ?_ ?_ | refine Sub.sl _ ?_ | exact SubE.nil | refine SubE.cons ?_ ?_))
def zca (r : Bool) : AV := .bool (r)
theorem zi9 {n : Nat} {a0 : (List z0l)} {a1c0 : z0d} {a1c1 : z02} {r : Bool} (hF : z8n n a0 a1c0 a1c1 = some r) : Con E0 true 20 [.sl 11 (List.map z0t (a0)), .fn 107 [.ref [.sl 1 (List.map (fun q => AV.sl 5 (List.map z0a q)) (a1c0.fVars))], .ref [aI (a1c1.fSource), aI (a1c1.fSeq), aI (a1c1.fType), aI (a1c1.fTime), .sl 3 (List.map z0c (a1c1.fValues))]]] (zca r) := by
 unfold z8n at hF
 refine Con.walk _ Tryz.func20 rfl (z06 Tryz.func20 rfl rfl) rfl (Or.inr rfl) ?_
 repeat' first
  | (refine AW.step ?_; conv => whnf)
  | (refine z0b.o hF (fun hF => ?_) (fun hF => ?_))
  | (refine z0b.t ?_)
  | (refine z0b.f ?_)
  | (refine z0p.o hF zf3 (fun a h => zkw h) (fun a hF => ?_))
  | (refine And.intro ⟨by kernel_rfl, by kernel_rfl⟩ ?_)
  | (refine EqX.mk (by first | rfl | kernel_rfl) ?_)
  | (exact RetX.o hF (by repeat' first | exact Sub.nil _ | exact Sub.refl _ | refine Sub.agg ?_ | refine Sub.tup ?_ | refine Sub.fn ?_ | exact SubL.nil | refine SubL.cons ?_ ?_ | refine Sub.sl _ ?_ | exact SubE.nil | refine SubE.cons ?_ ?_))
def z8l (w1_0 : Bool) : AS := ⟨[(5, .bool (w1_0))], []⟩
theorem zc7 {n : Nat} {R : Exit → AS → Prop} {K : List z16} {i : Nat} {os : Array Oper} {d : Bool} {C : Code} {σ : AS} {x : Option (Bool)} {r : Bool} (hF : jon (z1c n) x = some r) (h1 : x = some r → AW E0 18 (z0v (fun σ' => ∃ v', z1c n v' = some r ∧ LeX E0 18 σ' (z8l v')) (AW E0 18 R (.code C :: K))) [.code (.region i os d)] .normal σ) (h2 : ∀ v, z1c n v = some r → AW E0 18 R (.code C :: K) .normal (z8l v)) : AW E0 18 R (.code (.region i os d) :: .code C :: K) .normal σ :=
 AW.joinO1 (S := z8l) hF h1 h2
def zf5 (r : Bool) : AV := .bool (r)
theorem zky {n : Nat} {a0 : z0l} {a1 : z0i} {a2 : z0d} {a3 : z02} {r : Bool} (hF : zah n a0 a1 a2 a3 = some r) : Con E0 true 132 [.agg [aI (a0.fScope), aI (a0.fType), aI (a0.fVar), aI (a0.fCond.fOp), .sl 8 (List.map idA (a0.fCond.fArgs)), aI (a0.fCond.fVar), aI (a0.fCond.fField), aI (a0.fCond.fKind), aI (a0.fCond.fValue.fKind), aI (a0.fCond.fValue.fNum), .str (a0.fCond.fValue.fText)], .ref [aI (a1.fFrom), aI (a1.fTo), aI (a1.fVar), aI (a1.fType), aI (a1.fCond.fOp), .sl 8 (List.map idA (a1.fCond.fArgs)), aI (a1.fCond.fVar), aI (a1.fCond.fField), aI (a1.fCond.fKind), aI (a1.fCond.fValue.fKind), aI (a1.fCond.fValue.fNum), .str (a1.fCond.fValue.fText), .sl 1 (List.map aI (a1.fOpens)), .sl 1 (List.map aI (a1.fCloses)), .sl 8 (List.map idA (a1.fChecks)), .sl 2 (List.map z0s (a1.fLimits)), .sl 1 (List.map aI (a1.fInside))], .ref [.sl 1 (List.map (fun q => AV.sl 5 (List.map z0a q)) (a2.fVars))], .ref [aI (a3.fSource), aI (a3.fSeq), aI (a3.fType), aI (a3.fTime), .sl 3 (List.map z0c (a3.fValues))]] (zf5 r) := by
 unfold zah at hF
 refine Con.walk _ Tryz.func132 rfl (z06 Tryz.func132 rfl rfl) rfl (Or.inr rfl) ?_
 repeat' first
  | (refine zc7 hF (fun hF => ?_) (fun v hF => ?_); rotate_left; unfold z1c at hF)
  | (refine AW.regO hF (fun hF => ?_))
  | (refine AW.stepU [1] ?_; conv => whnf)
  | (refine z0b.o hF (fun hF => ?_) (fun hF => ?_))
  | (refine z0b.t ?_)
  | (refine z0b.f ?_)
  | (refine zc7 hF (fun hF => ?_) (fun v hF => ?_); rotate_left; unfold z1c at hF)
  | (refine z0p.o hF z9m (fun a h => za1 h) (fun a hF => ?_))
  | (refine z0p.o hF zl8 (fun a h => zn6 h) (fun a hF => ?_))
  | (exact ⟨_, hF, LeX.of [] rfl ⟨⟨rfl, rfl⟩, trivial⟩ trivial⟩)
  | (refine And.intro ⟨by kernel_rfl, by kernel_rfl⟩ ?_)
  | (refine EqX.mk (by first | rfl | kernel_rfl) ?_)
  | (exact RetX.o hF (by repeat' first | exact Sub.nil _ | exact Sub.refl _ | refine Sub.agg ?_ | refine Sub.tup ?_ | refine Sub.fn ?_ | exact SubL.nil | refine SubL.cons ?_ ?_ | refine Sub.sl _ ?_ | exact SubE.nil | refine SubE.cons ?_ ?_))
def z5j (a1c2 : z02) (a1c1 : z0d) (a1c0 : z0i) (a0 : (List z0l)) (v1_0 : Int) : AS := ⟨[(0, .sl 11 (List.map z0t (a0))), (1, .fn 132 [.ref [aI (a1c0.fFrom), aI (a1c0.fTo), aI (a1c0.fVar), aI (a1c0.fType), aI (a1c0.fCond.fOp), .sl 8 (List.map idA (a1c0.fCond.fArgs)), aI (a1c0.fCond.fVar), aI (a1c0.fCond.fField), aI (a1c0.fCond.fKind), aI (a1c0.fCond.fValue.fKind), aI (a1c0.fCond.fValue.fNum), .str (a1c0.fCond.fValue.fText), .sl 1 (List.map aI (a1c0.fOpens)), .sl 1 (List.map aI (a1c0.fCloses)), .sl 8 (List.map idA (a1c0.fChecks)), .sl 2 (List.map z0s (a1c0.fLimits)), .sl 1 (List.map aI (a1c0.fInside))], .ref [.sl 1 (List.map (fun q => AV.sl 5 (List.map z0a q)) (a1c1.fVars))], .ref [aI (a1c2.fSource), aI (a1c2.fSeq), aI (a1c2.fType), aI (a1c2.fTime), .sl 3 (List.map z0c (a1c2.fValues))]]), (7, aI ((((List.map z0t (a0)).length : Nat) : Int))), (8, aI (v1_0))], []⟩
theorem zjx {n N : Nat} {a1c2 : z02} {a1c1 : z0d} {a1c0 : z0i} {a0 : (List z0l)} {k1_0_0 : Option (Int)} {R : Exit → AS → Prop} {K : List z16} {c : Code} {σ : AS} {v0 : Int} {r : Int} (hF : z3a n a1c2 a1c1 a1c0 a0 k1_0_0 N v0 = some r) (hl : LeX E0 19 σ (z5j a1c2 a1c1 a1c0 a0 v0)) (round : ∀ m v, z3a n a1c2 a1c1 a1c0 a0 k1_0_0 (m + 1) v = some r → AW E0 19 (z0v (fun σ' => ∃ v', z3a n a1c2 a1c1 a1c0 a0 k1_0_0 m v' = some r ∧ LeX E0 19 σ' (z5j a1c2 a1c1 a1c0 a0 v')) (AW E0 19 R K)) [.code c] .normal (z5j a1c2 a1c1 a1c0 a0 v)) : z5v E0 19 (fun next σ' => AW E0 19 (z0v next (AW E0 19 R K)) [.code c] .normal σ') σ :=
 LoopA.o (S := z5j a1c2 a1c1 a1c0 a0) hF (fun _ => rfl) hl round
def zf2 (r : Int) : AV := aI (r)
theorem zkv {n : Nat} {a0 : (List z0l)} {a1c0 : z0i} {a1c1 : z0d} {a1c2 : z02} {r : Int} (hF : zae n a0 a1c0 a1c1 a1c2 = some r) : Con E0 true 54 [.sl 11 (List.map z0t (a0)), .fn 132 [.ref [aI (a1c0.fFrom), aI (a1c0.fTo), aI (a1c0.fVar), aI (a1c0.fType), aI (a1c0.fCond.fOp), .sl 8 (List.map idA (a1c0.fCond.fArgs)), aI (a1c0.fCond.fVar), aI (a1c0.fCond.fField), aI (a1c0.fCond.fKind), aI (a1c0.fCond.fValue.fKind), aI (a1c0.fCond.fValue.fNum), .str (a1c0.fCond.fValue.fText), .sl 1 (List.map aI (a1c0.fOpens)), .sl 1 (List.map aI (a1c0.fCloses)), .sl 8 (List.map idA (a1c0.fChecks)), .sl 2 (List.map z0s (a1c0.fLimits)), .sl 1 (List.map aI (a1c0.fInside))], .ref [.sl 1 (List.map (fun q => AV.sl 5 (List.map z0a q)) (a1c1.fVars))], .ref [aI (a1c2.fSource), aI (a1c2.fSeq), aI (a1c2.fType), aI (a1c2.fTime), .sl 3 (List.map z0c (a1c2.fValues))]]] (zf2 r) := by
 unfold zae at hF
 refine Con.walk _ Tryz.func54 rfl (z06 Tryz.func54 rfl rfl) rfl (Or.inr rfl) ?_
 repeat' first
  | (refine AW.step ?_; conv => whnf)
  | (refine z0b.o hF (fun hF => ?_) (fun hF => ?_))
  | (refine z0b.t ?_)
  | (refine z0b.f ?_)
  | (refine IdxX.o z0t hF (fun x hF => ?_))
  | (refine z0p.o hF zf5 (fun a h => zky h) (fun a hF => ?_))
  | (exact ⟨_, hF, LeX.of [] rfl ⟨⟨rfl, rfl⟩, ⟨rfl, rfl⟩, ⟨rfl, rfl⟩, ⟨rfl, rfl⟩, trivial⟩ trivial⟩)
  | (refine zjx hF (LeX.of [] rfl ⟨⟨rfl, rfl⟩, ⟨rfl, rfl⟩, ⟨rfl, rfl⟩, ⟨rfl, rfl⟩, trivial⟩ trivial) (fun m v hF => ?_); unfold z3a at hF)
  | (refine And.intro ⟨by kernel_rfl, by kernel_rfl⟩ ?_)
  | (refine EqX.mk (by first | rfl | kernel_rfl) ?_)
  | (exact RetX.o hF (by repeat' first | exact Sub.nil _ | exact Sub.refl _ | refine Sub.agg ?_ | refine Sub.tup ?_ | refine Sub.fn ?_ | exact SubL.nil | refine SubL.cons ?_ ?_ | refine Sub.sl _ ?_ | exact SubE.nil | refine SubE.cons ?_ ?_))
def zc9 (r : Bool) : AV := .bool (r)
theorem zi8 {n : Nat} {a0 : (List z0l)} {a1c0 : z0i} {a1c1 : z0d} {a1c2 : z02} {r : Bool} (hF : z8m n a0 a1c0 a1c1 a1c2 = some r) : Con E0 true 20 [.sl 11 (List.map z0t (a0)), .fn 132 [.ref [aI (a1c0.fFrom), aI (a1c0.fTo), aI (a1c0.fVar), aI (a1c0.fType), aI (a1c0.fCond.fOp), .sl 8 (List.map idA (a1c0.fCond.fArgs)), aI (a1c0.fCond.fVar), aI (a1c0.fCond.fField), aI (a1c0.fCond.fKind), aI (a1c0.fCond.fValue.fKind), aI (a1c0.fCond.fValue.fNum), .str (a1c0.fCond.fValue.fText), .sl 1 (List.map aI (a1c0.fOpens)), .sl 1 (List.map aI (a1c0.fCloses)), .sl 8 (List.map idA (a1c0.fChecks)), .sl 2 (List.map z0s (a1c0.fLimits)), .sl 1 (List.map aI (a1c0.fInside))], .ref [.sl 1 (List.map (fun q => AV.sl 5 (List.map z0a q)) (a1c1.fVars))], .ref [aI (a1c2.fSource), aI (a1c2.fSeq), aI (a1c2.fType), aI (a1c2.fTime), .sl 3 (List.map z0c (a1c2.fValues))]]] (zc9 r) := by
 unfold z8m at hF
 refine Con.walk _ Tryz.func20 rfl (z06 Tryz.func20 rfl rfl) rfl (Or.inr rfl) ?_
 repeat' first
  | (refine AW.step ?_; conv => whnf)
  | (refine z0b.o hF (fun hF => ?_) (fun hF => ?_))
  | (refine z0b.t ?_)
  | (refine z0b.f ?_)
  | (refine z0p.o hF zf2 (fun a h => zkv h) (fun a hF => ?_))
  | (refine And.intro ⟨by kernel_rfl, by kernel_rfl⟩ ?_)
  | (refine EqX.mk (by first | rfl | kernel_rfl) ?_)
  | (exact RetX.o hF (by repeat' first | exact Sub.nil _ | exact Sub.refl _ | refine Sub.agg ?_ | refine Sub.tup ?_ | refine Sub.fn ?_ | exact SubL.nil | refine SubL.cons ?_ ?_ | refine Sub.sl _ ?_ | exact SubE.nil | refine SubE.cons ?_ ?_))
set_option maxHeartbeats 400000 in
theorem clone175_any (l : List (Cel 2)) (S : Nat → Prop) (v : Value) (w : World) (h : Sl w S 2 encC v l) (hl : l.length ≤ 1000000000) :
  Calls Tryz.prog 175 #[v] w (RetOwn 120 2 encC l w) := by
 have eok : EOk Tryz.prog 75 120 2 16 (encC (n := 2)) := eokC (sz := 2) tyOk75 rfl tyOk120 (by omega) rfl
 obtain ⟨A, c, rfl, hc, _⟩ := h.form
 have hq := fun (W : World) => Lib.run_eql_slice_nil W 75 120 A l.length c 0 0 Tryz.underlying75
 have H := hide h
 cases A with
 | none =>
   have h0 : l = [] := h.none_nil
   subst h0
   clear h H hl hc
   simp only [List.length_nil, Option.isNone_none] at hq ⊢
   go_enter Tryz.func175, Tryz.ntmps175
   go_wp2
   go_ret
   exact ⟨none, 0, rfl, Own.nil_, by go_grown⟩
 | some ad =>
   clear h
   go_enter Tryz.func175, Tryz.ntmps175
   go_wp2_with (at_builtin; refine z8o rfl _ _ rfl eok rfl Own.made_ rfl (H.out.alloc _) (by simp; omega) (by omega) (by simp) ?_; intro A' c' w1 ho hg _)
   go_ret
   exact ⟨A', c', rfl, ho, (Own.made_ (sz := 2) (enc := encC (n := 2))).grown ((Below.refl _ _).alloc (Nat.le_refl _) _) (Nat.le_refl _) (by simp) hg⟩
theorem zsm {n : Nat} {a r : List z04} (hF : zcs n a = some r) : ConT E0 175 [.sl 2 (List.map z07 a)] 120 2 (List.map z07 r) (.row 0) := zor rfl (z06 Tryz.func175 rfl rfl) clone175_any hF
def zr6 (r : Int) : AV := aI (r)
theorem con_run_opened_1 {n : Nat} {a0 : z04} {a1 : Int} {r : Int} (hF : zgt n a0 a1 = some r) : Con E0 true 177 [.agg [aI (a0.fScope), aI (a0.fTime)], aI (a1)] (zr6 r) := by
 unfold zgt at hF
 refine Con.walk _ Tryz.func177 rfl (z06 Tryz.func177 rfl rfl) rfl (Or.inr rfl) ?_
 repeat' first
  | (refine AW.step ?_; conv => whnf)
  | (refine z0b.o hF (fun hF => ?_) (fun hF => ?_))
  | (refine z0b.t ?_)
  | (refine z0b.f ?_)
  | (refine z0p.o hF za8 (fun a h => z9h h) (fun a hF => ?_))
  | (refine And.intro ⟨by kernel_rfl, by kernel_rfl⟩ ?_)
  | (refine EqX.mk (by first | rfl | kernel_rfl) ?_)
  | (exact RetX.o hF (by repeat' first | exact Sub.nil _ | exact Sub.refl _ | refine Sub.agg ?_ | refine Sub.tup ?_ | refine Sub.fn ?_ | exact SubL.nil | refine SubL.cons ?_ ?_ | refine Sub.sl _ ?_ | exact SubE.nil | refine SubE.cons ?_ ?_))
def z4t (a1 : Int) (a0 : (List z04)) (v1_0 : Int × Int) : AS := ⟨[(0, .sl 2 (List.map z07 (a0))), (1, aI (a1)), (2, .fn 177 []), (8, aI ((((List.map z07 (a0)).length : Nat) : Int))), (9, aI (v1_0.1)), (10, aI (v1_0.2))], []⟩
theorem zi7 {n N : Nat} {a1 : Int} {a0 : (List z04)} {k1_0_0 : Int → Option (Int × Bool)} {R : Exit → AS → Prop} {K : List z16} {c : Code} {σ : AS} {v0 : Int × Int} {r : Int × Bool} (hF : z23 n a1 a0 k1_0_0 N v0 = some r) (hl : LeX E0 49 σ (z4t a1 a0 v0)) (round : ∀ m v, z23 n a1 a0 k1_0_0 (m + 1) v = some r → AW E0 49 (z0v (fun σ' => ∃ v', z23 n a1 a0 k1_0_0 m v' = some r ∧ LeX E0 49 σ' (z4t a1 a0 v')) (AW E0 49 R K)) [.code c] .normal (z4t a1 a0 v)) : z5v E0 49 (fun next σ' => AW E0 49 (z0v next (AW E0 49 R K)) [.code c] .normal σ') σ :=
 LoopA.o (S := z4t a1 a0) hF (fun _ => rfl) hl round
def zd4 (r : Int × Bool) : AV := .tup [aI (r.1), .bool (r.2)]
theorem ziu {n : Nat} {a0 : (List z04)} {a1 : Int} {r : Int × Bool} (hF : z9b n a0 a1 = some r) : Con E0 true 176 [.sl 2 (List.map z07 (a0)), aI (a1), .fn 177 []] (zd4 r) := by
 unfold z9b at hF
 refine Con.walk _ Tryz.func176 rfl (z06 Tryz.func176 rfl rfl) rfl (Or.inr rfl) ?_
 repeat' first
  | (refine AW.step ?_; conv => whnf)
  | (refine z0b.o hF (fun hF => ?_) (fun hF => ?_))
  | (refine z0b.t ?_)
  | (refine z0b.f ?_)
  | (refine IdxX.o z07 hF (fun x hF => ?_))
  | (refine z0p.o hF zr6 (fun a h => con_run_opened_1 h) (fun a hF => ?_))
  | (exact ⟨_, hF, LeX.of [] rfl ⟨⟨rfl, rfl⟩, ⟨rfl, rfl⟩, ⟨rfl, rfl⟩, ⟨rfl, rfl⟩, ⟨rfl, rfl⟩, ⟨rfl, rfl⟩, trivial⟩ trivial⟩)
  | (refine ShX.o hF (fun hF => ?_))
  | (refine zi7 hF (LeX.of [] rfl ⟨⟨rfl, rfl⟩, ⟨rfl, rfl⟩, ⟨rfl, rfl⟩, ⟨rfl, rfl⟩, ⟨rfl, rfl⟩, ⟨rfl, rfl⟩, trivial⟩ trivial) (fun m v hF => ?_); unfold z23 at hF)
  | (refine And.intro ⟨by kernel_rfl, by kernel_rfl⟩ ?_)
  | (refine EqX.mk (by first | rfl | kernel_rfl) ?_)
  | (exact RetX.o hF (by repeat' first | exact Sub.nil _ | exact Sub.refl _ | refine Sub.agg ?_ | refine Sub.tup ?_ | refine Sub.fn ?_ | exact SubL.nil | refine SubL.cons ?_ ?_ | refine Sub.sl _ ?_ | exact SubE.nil | refine SubE.cons ?_ ?_))
set_option maxRecDepth 100000 in
set_option maxHeartbeats 1600000 in
theorem insert178_any (l : List (Cel 2)) (x : Cel 2) (i : Nat) (base : Nat) (A : Option Addr) (c g off c1 : Nat) (w : World) (ho : Own w base 120 2 encC (.slice A l.length c) l)
  (hx : Xk w g off (encC x)) (hc1 : 1 ≤ c1) (hne : (Value.slice A l.length c).ownBlock ≠ some g) (hi : i ≤ l.length) (hl : l.length ≤ 1000000000) (hbase : base ≤ w.heap.size) :
  Calls Tryz.prog 178 #[.slice A l.length c, .int .i64 i, .slice (some ⟨g, off, none⟩) 1 c1] w (RetInsX 120 2 encC base (.slice A l.length c) (l.take i ++ x :: l.drop i) w) := by
 have hlen : (l.take i ++ x :: l.drop i).length = l.length + 1 := by simp; omega
 have hxl : (encC x).length = 2 := x.2.1
 have eok : EOk Tryz.prog 75 120 2 16 (encC (n := 2)) := eokC (sz := 2) tyOk75 rfl tyOk120 (by omega) rfl
 by_cases hin : i = l.length
 ·subst hin
  have hsl : Hid (Sl w (fun _ => True) 2 encC (.slice (some ⟨g, off, none⟩) 1 c1) [x]) := Sl.one_x hc1 hx
  have H := hide ho
  have hll : Hid (l.take l.length ++ x :: l.drop l.length = l ++ [x]) := by simp [Hid]
  have hc : l.length ≤ c := by obtain ⟨_, _, he, h1, _⟩ := ho.val; injection he with _ _ hc; omega
  rw [hll.out]
  clear ho hx hne hlen
  go_enter Tryz.func178, Tryz.ntmps178
  go_wp2_with (at_builtin; refine z8o (v := .slice A l.length c) rfl _ _ rfl eok rfl H.out rfl hsl.out (by simp; omega) (by omega) hbase ?_; intro A2 c2 w2 ho2 hg2 hb2)
  all_goals (go_ret; exact ⟨A2, c2, by simp, ho2, by cases A <;> exact hg2, by cases A <;> exact hb2⟩)
 ·rcases ho.2 with ⟨hv, h0⟩ | ⟨g', cap, cur, hv, hbg, hh, hnc, hcm, hcs, htake⟩
  ·omega
  injection hv with hA _ hcc
  subst hA
  subst hcc
  have hgg : g' ≠ g := fun e => hne (by simp [Value.ownBlock, e])
  have hlt : i < l.length := by omega
  have hF1 : ((l.take i).flatMap encC).length = i * 2 := by rw [zrf (sz := 2) (fun y => y.2.1)]; simp; omega
  have hF2 : ((l.drop i).flatMap encC).length = (l.length - i) * 2 := by rw [zrf (sz := 2) (fun y => y.2.1)]; simp
  have hF12 : (l.take i).flatMap encC ++ (l.drop i).flatMap encC = l.flatMap encC := by rw [← List.flatMap_append, List.take_append_drop]
  have hres : (l.take i ++ x :: l.drop i).flatMap encC = (l.take i).flatMap encC ++ encC x ++ (l.drop i).flatMap encC := by simp [List.flatMap_append, List.flatMap_cons]
  have h2 := flatMap_one eok.one (l.drop i)
  have hX1 := eok.one x
  have hcur : cur.toList = (l.take i).flatMap encC ++ (l.drop i).flatMap encC ++ cur.toList.drop (l.length * 2) := by rw [hF12, ← htake, List.take_append_drop]
  generalize hf1 : (l.take i).flatMap encC = F1 at *
  generalize hf2 : (l.drop i).flatMap encC = F2 at *
  generalize hX : encC x = X at *
  have hRl : (cur.toList.drop (l.length * 2)).length = c * 2 - l.length * 2 := by simp [hcs]
  generalize cur.toList.drop (l.length * 2) = R at *
  obtain ⟨cur⟩ := cur
  simp only at hcur
  subst hcur
  generalize hn : l.length = n at *
  by_cases hroom : n + 1 ≤ c
  ·have hhi : (i : Int) < (n : Int) := by omega
   have hB0 : Blk w g' 120 (F1 ++ F2 ++ R).toArray := hh
   have hov : ∀ lb cb, (callFunc 201 #[.slice (some ⟨g, off, none⟩) 1 c1, .slice (some ⟨g', (i + 1) * 2, none⟩) lb cb]).run Tryz.prog w = .ok (.value (.bool false)) w := fun lb cb => by
    rw [run_callFunc_extern Tryz.func201 (by kernel_rfl) (by kernel_rfl) (by kernel_rfl) (e := Extern.SlicesOverlaps.overlaps #[75, 75] #[4]) (by kernel_rfl),
     run_overlaps_b w 75 4 120 Tryz.underlying75 2 (fun _ => by kernel_rfl) ⟨g, off, none⟩ ⟨g', (i + 1) * 2, none⟩ 1 c1 lb cb (fun e => hgg e.symm) hx.shape 120 (F1 ++ F2 ++ R).toArray.size (hB0.shape) (by rw [List.size_toArray, List.length_append, List.length_append]; omega) (hB0.frozen _) (hB0.frozen _)]
    rfl
   have hBH := hide hB0
   have hxH := hide hx
   have hdl : Hid (F2.length = Nat.min (n + 1 - i) (n - i) * 2) := by unfold Hid; rw [show Nat.min (n + 1 - i) (n - i) = n - i from Nat.min_eq_right (by omega)]; exact hF2
   have hsrc : Hid (∀ (W : World), W.heap = w.heap → ∀ j u, F2[j]? = some u → W.cell? ((⟨g', i * 2, none⟩ : Addr).add j) = some u) := fun W hW j u hu => by
    have e : Blk W g' 120 (F1 ++ F2 ++ R).toArray := by unfold Blk; rw [hW]; exact hB0
    rw [Addr.add_lit, e.cell]
    have hj := (List.getElem?_eq_some_iff.1 hu).1
    simp only [List.getElem?_toArray]
    rw [List.append_assoc, List.getElem?_append_right (by omega), List.getElem?_append_left (by omega), show i * 2 + j - F1.length = j by omega]
    exact hu
   have hHx := hide h2
   have HL := hide (And.intro hlen (And.intro hres (And.intro hbg hcs)))
   have hxl := hide hxl
   clear hx hB0 hh htake hne hF12 hcs ho h2 hlen hres
   go_enter Tryz.func178, Tryz.ntmps178
   go_wp2_with fail
   have hw1 : IntKind.i64.wrap ((i : Int) + 1) = (i : Int) + 1 := by rw [IntKind.wrap_i64]; omega
   have hb1 : (0 : Int) ≤ (i : Int) + 1 := by omega
   have hii : i ≤ n := by omega
   have htn : ((i : Int) + 1).toNat = i + 1 := by omega
   have hb2 : ¬ (c = i + 1) := by omega
   have hb3 : (i : Int) ≤ (n : Int) + 1 := by omega
   have hb4 : ¬ (c = i) := by omega
   go_region_law (refine zs4 rfl _ _ 75 75 rfl 120 2 Tryz.underlying75 (by kernel_rfl) g' ((i + 1) * 2) (n - i) (c - (i + 1)) (n + 1 - i) (c - i) ⟨g', i * 2, none⟩ (by simp [Act.eval, Act.put]) (by simp [Act.eval, Act.put]) 120 (F1 ++ F2 ++ R) hBH.out F2 hdl.out (hsrc.out _ rfl) (by simp; omega) hHx.out ?_; intro w1 hB1 hg1)
   clear hw1 hb1 htn hb2
   have hB1' : Hid (Blk w1 g' 120 ((F1 ++ F2 ++ R).take (i * 2 + 2) ++ F2 ++ (F1 ++ F2 ++ R).drop (i * 2 + 2 + F2.length)).toArray) := by
    have e : (i + 1) * 2 = i * 2 + 2 := by omega
    rw [e] at hB1
    exact hB1
   have hX2 : Hid (∀ j u, X[j]? = some u → w1.cell? ((⟨g, off, none⟩ : Addr).add j) = some u) := fun j u hu => by
    have e : Xk w1 g off X := Xk.grown (w := w.drew) hxH.out hg1 (by simp; omega)
    rw [Addr.add_lit]
    exact e.cell hu
   have hg1' := hide (zge hg1)
   have hX1' := hide hX1
   clear hB1 hg1 hX1
   go_wp2_with (refine zny rfl (.tmp 80) (.tmp 81) 75 75 rfl 120 2 Tryz.underlying75 (by kernel_rfl) g' (i * 2) (n + 1 - i) (c - i) 1 c1 ⟨g, off, none⟩ rfl rfl 120 _ hB1'.out X (by rw [show Nat.min 1 (n + 1 - i) = 1 from Nat.min_eq_left (by omega)]; exact hxl.out) hX2.out (by have := hxl.out; have := hRl; simp; omega) hX1'.out ?_; intro w2 hB2 hg2)
   go_ret
   have hfin := HL.out
   refine ⟨some ⟨g', 0, none⟩, c, by show Ending.returned (.slice (some ⟨g', 0, none⟩) (n + 1) c) = _; rw [hfin.1], Own.of_blk hB2 hfin.2.2.1 (by rw [hfin.1]; exact hroom) hcm (by have := hxl.out; have := hRl; simp; omega) ?_ (fun y => y.2.1), zsc hg1'.out hg2, Or.inl rfl⟩
   rw [hfin.1, hfin.2.1, ← insert_in_place F1 F2 R X (i * 2) 2 ((n - i) * 2) hF1 hF2 hxl.out (by omega)]
   congr 1
   omega
  ·have hB0 : Blk w g' 120 (F1 ++ F2 ++ R).toArray := hh
   obtain ⟨i0, z, hi0, hz0, hzs, hzb, hzc⟩ := eok.inf
   have hik : i + (n + 1 - i) = n + 1 := by omega
   have hkk : (n : Int) + 1 - (i : Int) = ((n + 1 - i : Nat) : Int) := by omega
   have hgw : g' < w.heap.size := hB0.lt
   have hgx : g < w.heap.size := hx.lt
   have hold : (Builtin.firstCells i0.size i (.slice (some ⟨g', 0, none⟩) i c)).run Tryz.prog w.drew = .ok F1.toArray w.drew := by
    rw [hzs]
    refine run_firstCells_some w.drew 2 i ⟨g', 0, none⟩ i c F1 hF1 (fun j v hj => ?_)
    have hjl := (List.getElem?_eq_some_iff.1 hj).1
    rw [Addr.add_lit]
    refine (hB0.cell _).trans ?_
    simp only [List.getElem?_toArray, Nat.zero_add]
    rw [List.append_assoc, List.getElem?_append_left (by omega)]
    exact hj
   have hrz := fun ty => Lib.run_append_grow_zeros w 75 3 ty 120 i0 z .i64 .i64 eok.und Tryz.underlying3 hi0 hz0 (some ⟨g', 0, none⟩) i c F1 hold (n + 1 - i) (by omega) (by omega) (by omega) (by omega) (by rw [hzb]; omega) (by rw [hzb, hik]; exact growslice_fits (by omega) (by omega))
   rw [hik] at hrz
   obtain ⟨G, hG⟩ : ∃ G, G = grownCap w (n + 1) c 120 := ⟨_, rfl⟩
   rw [← hG] at hrz
   have hGn : n + 1 ≤ G := by rw [hG]; exact grownCap_ge w _ _ _
   have hG63 : G ≤ maxLen := by rw [hG]; exact grownCap_le_maxLen w (n + 1) c 120 (by unfold maxLen; omega)
   obtain ⟨Z, hZ, hZl⟩ : ∃ Z : List Value, F1.toArray ++ Builtin.zeroCells z.cells (n + 1 - i) ++ Builtin.zeroCells z.cells (G - (n + 1)) = (F1 ++ Z).toArray ∧ Z.length = (G - i) * 2 :=
    ⟨(Builtin.zeroCells z.cells (n + 1 - i)).toList ++ (Builtin.zeroCells z.cells (G - (n + 1))).toList, by simp [Array.append_assoc], by simp [size_zeroCells, hzc]; omega⟩
   rw [hZ] at hrz
   obtain ⟨W1, hW1⟩ : ∃ W1, W1 = w.drew.alloc (.cells (F1 ++ Z).toArray 120) := ⟨_, rfl⟩
   have hBN : Hid (Blk W1 w.heap.size 120 (F1 ++ Z).toArray) := by rw [hW1]; exact Blk.new w.drew _ _
   have hxN : Hid (Xk W1 g off X) := by rw [hW1]; exact Xk.alloc (w := w.drew) hx _
   have hB1 : Hid (Blk W1 g' 120 (F1 ++ F2 ++ R).toArray) := by rw [hW1]; exact Blk.alloc (w := w.drew) hB0 _
   have hgW : Hid (∀ b, W1.grownBy b (some w.heap.size) → ∀ row, w.grownBy b row) := fun b hb row => by
    rw [hW1] at hb
    exact zge (zsd hb row)
   have hrz' : Hid (∀ ty, (Builtin.append_ #[75, 3] ty #[.slice (some ⟨g', 0, none⟩) i c, .int .i64 ((n : Int) + 1 - (i : Int))]).run Tryz.prog w = .ok (.slice (some ⟨w.heap.size, 0, none⟩) (n + 1) G) W1) := fun ty => by
    rw [hkk, hW1]
    exact hrz ty
   have hX2 : Hid (∀ j u, X[j]? = some u → W1.cell? ((⟨g, off, none⟩ : Addr).add j) = some u) := fun j u hu => by
    rw [Addr.add_lit]
    exact hxN.out.cell hu
   have HL := hide (And.intro hlen (And.intro hres (And.intro hbg hcs)))
   have hxl := hide hxl
   have hX1' := hide hX1
   have h2' := hide h2
   have hF2' : Hid (F2.length = Nat.min (n - i) (n - i) * 2) := by unfold Hid; rw [show Nat.min (n - i) (n - i) = n - i from Nat.min_self _]; exact hF2
   have hhi : (i : Int) < (n : Int) := by omega
   have hhc : (c : Int) < (n : Int) + 1 := by omega
   have hii : i ≤ n := by omega
   have hci : ¬ (c = i) := by omega
   have hGi : ¬ (G = i) := by omega
   have hGi1 : ¬ (G = i + 1) := by omega
   have hGl : G ≤ 9223372036854775807 := by unfold maxLen at hG63; omega
   clear hx hB0 hh htake hne hF12 hcs ho h2 hlen hres hX1 hrz hold hW1 hZ hG hkk hzs hzb hzc hz0 hi0 hcm
   go_enter Tryz.func178, Tryz.ntmps178
   go_wp2_with (first | (at_builtin; refine Lib.wpList_append_run _ rfl _ _ _ _ rfl _ _ rfl rfl _ _ (hrz'.out _) ?_) | (refine zny rfl (.tmp 43) (.tmp 44) 75 75 rfl 120 2 Tryz.underlying75 (by kernel_rfl) w.heap.size (i * 2) (n + 1 - i) (G - i) 1 c1 ⟨g, off, none⟩ rfl rfl 120 _ hBN.out X (by rw [show Nat.min 1 (n + 1 - i) = 1 from Nat.min_eq_left (by omega)]; exact hxl.out) hX2.out (by have := hxl.out; simp; omega) hX1'.out ?_; intro w2 hB2 hg2))
   have hgN : g' ≠ w.heap.size := by omega
   have hsrc : Hid (∀ j u, F2[j]? = some u → w2.cell? ((⟨g', i * 2, none⟩ : Addr).add j) = some u) := fun j u hu => by
    have e : Blk w2 g' 120 (F1 ++ F2 ++ R).toArray := hB1.out.grown hg2 (by simp; omega)
    rw [Addr.add_lit, e.cell]
    have hj := (List.getElem?_eq_some_iff.1 hu).1
    simp only [List.getElem?_toArray]
    rw [List.append_assoc, List.getElem?_append_right (by omega), List.getElem?_append_left (by omega), show i * 2 + j - F1.length = j by omega]
    exact hu
   have hg2' := hide hg2
   have hB2' := hide hB2
   have hw1 : IntKind.i64.wrap ((i : Int) + 1) = (i : Int) + 1 := by rw [IntKind.wrap_i64]; omega
   have hb1 : (0 : Int) ≤ (i : Int) + 1 := by omega
   have htn : ((i : Int) + 1).toNat = i + 1 := by omega
   have hb3 : (i : Int) ≤ (n : Int) := by omega
   have hb5 : (i : Int) + 1 ≤ (n : Int) + 1 := by omega
   clear hg2 hB2
   go_region_law (refine zs4 rfl _ _ 75 75 rfl 120 2 Tryz.underlying75 (by kernel_rfl) w.heap.size ((i + 1) * 2) (n - i) (G - (i + 1)) (n - i) (c - i) ⟨g', i * 2, none⟩ (by simp [Act.eval, Act.put]) (by simp [Act.eval, Act.put]) 120 _ hB2'.out F2 hF2'.out hsrc.out (by have := hxl.out; simp; omega) h2'.out ?_; intro w3 hB3 hg3)
   clear hw1 hb1 htn hb3 hb5
   have hB3' : Hid (Blk w3 w.heap.size 120 (((F1 ++ Z).take (i * 2) ++ X ++ (F1 ++ Z).drop (i * 2 + X.length)).take (i * 2 + 2) ++ F2 ++ ((F1 ++ Z).take (i * 2) ++ X ++ (F1 ++ Z).drop (i * 2 + X.length)).drop (i * 2 + 2 + F2.length)).toArray) := by
    have e : (i + 1) * 2 = i * 2 + 2 := by omega
    rw [e] at hB3
    exact hB3
   have hg3' := hide (zge hg3)
   clear hB3 hg3
   go_wp2
   go_ret
   have hfin := HL.out
   have hx2 := hxl.out
   refine ⟨some ⟨w.heap.size, 0, none⟩, G, by show Ending.returned (.slice (some ⟨w.heap.size, 0, none⟩) (n + 1) G) = _; rw [hfin.1], Own.of_blk hB3'.out hbase (by rw [hfin.1]; exact hGn) hG63 (by simp; omega) ?_ (fun y => y.2.1), hgW.out _ (zsc hg2'.out hg3'.out) _, Or.inr rfl⟩
   rw [hfin.1, hfin.2.1, ← insert_grown F1 F2 Z X (i * 2) 2 ((n - i) * 2) hF1 hF2 hx2 (by omega)]
   congr 1
   omega
theorem conC_insert178 {n : Nat} {a v r : List z04} {i : Int} (hF : F_insert n a i v = some r) : ConC false E0 178 [.row 0, aI i, .sl 2 (List.map z07 v)] 120 2 (List.map z07 a) 120 2 (List.map z07 r) (.row 0) := insert_gen rfl (z06 Tryz.func178 rfl rfl) (by omega) insert178_any hF
def zj3 (a2 : Int) (a1 : (List Int)) (v1_0 : Int × (List z04)) (cv1_0 : (Int × (List z04)) → Option ((List z04))) (x44 : Int × Bool) (w3_1 : (List z04)) : AS := ⟨[(2, aI (a2)), (7, .row 7033), (10, aI (x44.1)), (14, .sl 1 (List.map aI (a1))), (15, aI ((((List.map aI (a1)).length : Nat) : Int))), (16, aI (v1_0.1))], [(7033, .row 120 2 (List.map z07 (w3_1)))]⟩
theorem zo2 {n : Nat} {a2 : Int} {a1 : (List Int)} {v1_0 : Int × (List z04)} {cv1_0 : (Int × (List z04)) → Option ((List z04))} {x44 : Int × Bool} {R : Exit → AS → Prop} {K : List z16} {i : Nat} {os : Array Oper} {d : Bool} {B C : Code} {σ : AS} {x : Option ((List z04))} {r : (List z04)} (hF : jon (z56 n a2 a1 v1_0 cv1_0 x44) x = some r) (h1 : x = some r → AW E0 41 (z0v (fun σ' => ∃ v', z56 n a2 a1 v1_0 cv1_0 x44 v' = some r ∧ LeX E0 41 σ' (zj3 a2 a1 v1_0 cv1_0 x44 v')) (AW E0 41 R (.code C :: K))) [.code (.region i os d), .code B] .normal σ) (h2 : ∀ v, z56 n a2 a1 v1_0 cv1_0 x44 v = some r → AW E0 41 R (.code C :: K) .normal (zj3 a2 a1 v1_0 cv1_0 x44 v)) : AW E0 41 R (.code (.region i os d) :: .code B :: .code C :: K) .normal σ :=
 AW.joinO2 (S := zj3 a2 a1 v1_0 cv1_0 x44) hF h1 h2
def zet (a2 : Int) (a1 : (List Int)) (v1_0 : Int × (List z04)) : AS := ⟨[(2, aI (a2)), (7, .row 7013), (14, .sl 1 (List.map aI (a1))), (15, aI ((((List.map aI (a1)).length : Nat) : Int))), (16, aI (v1_0.1))], [(7013, .row 120 2 (List.map z07 (v1_0.2)))]⟩
theorem run_opened_l1_o {n N : Nat} {a2 : Int} {a1 : (List Int)} {k1_0_0 : (List z04) → Option ((List z04))} {R : Exit → AS → Prop} {K : List z16} {c : Code} {σ : AS} {v0 : Int × (List z04)} {r : (List z04)} (hF : z6m n a2 a1 k1_0_0 N v0 = some r) (hl : LeX E0 41 σ (zet a2 a1 v0)) (round : ∀ m v, z6m n a2 a1 k1_0_0 (m + 1) v = some r → AW E0 41 (z0v (fun σ' => ∃ v', z6m n a2 a1 k1_0_0 m v' = some r ∧ LeX E0 41 σ' (zet a2 a1 v')) (AW E0 41 R K)) [.code c] .normal (zet a2 a1 v)) : z5v E0 41 (fun next σ' => AW E0 41 (z0v next (AW E0 41 R K)) [.code c] .normal σ') σ :=
 LoopA.o (S := zet a2 a1) hF (fun _ => rfl) hl round
def z9x (r : (List z04)) : AV := .row 0
theorem zoq {n : Nat} {a0 : (List z04)} {a1 : (List Int)} {a2 : Int} {r : (List z04)} (hF : zps n a0 a1 a2 = some r) : ConT E0 134 [.sl 2 (List.map z07 (a0)), .sl 1 (List.map aI (a1)), aI (a2)] 120 2 (List.map z07 (r)) (z9x r) := by
 unfold zps at hF
 refine ConT.walk _ Tryz.func134 rfl (z06 Tryz.func134 rfl rfl) rfl rfl ?_
 repeat' first
  | (refine zo2 hF (fun hF => ?_) (fun v hF => ?_); rotate_left; unfold z56 at hF)
  | (refine AW.regO hF (fun hF => ?_))
  | (refine AW.stepU [6] ?_; conv => whnf)
  | (refine z0b.o hF (fun hF => ?_) (fun hF => ?_))
  | (refine z0b.t ?_)
  | (refine z0b.f ?_)
  | (refine z0p.oR hF (fun r => r) z07 (fun _ => AV.row 0) rfl (fun a h => zsm h) (fun a hF => ?_))
  | (refine z0p.oR hF (fun r => r) z07 (fun _ => AV.row 0) rfl (fun a h => ConT.sub (by repeat' first | exact Sub.nil _ | exact Sub.refl _ | refine Sub.agg ?_ | refine Sub.tup ?_ | refine Sub.fn ?_ | exact SubL.nil | refine SubL.cons ?_ ?_ | refine Sub.sl _ ?_ | exact SubE.nil | refine SubE.cons ?_ ?_) (zsm h)) (fun a hF => ?_))
  | (refine IdxX.o aI hF (fun x hF => ?_))
  | (refine z9v.o hF zd4 (fun a h => ziu h) (fun _ => Or.inr rfl) (fun a hF => ?_))
  | (refine NatX.o hF (fun m hF => ?_))
  | (refine LtX.o hF (fun hF => ?_))
  | (refine SetX.o z07 hF (fun x => rfl) (fun x => (by first | exact SubL.refl _ | (repeat' first | exact SubL.nil | refine SubL.cons ?_ ?_ | exact Sub.refl _ | exact Sub.nil _ | refine Sub.agg ?_))) (fun l hF => ?_))
  | (exact ⟨_, hF, LeX.of [(7013, 7033)] rfl ⟨⟨rfl, rfl⟩, ⟨rfl, rfl⟩, ⟨rfl, rfl⟩, ⟨rfl, rfl⟩, ⟨rfl, rfl⟩, trivial⟩ ⟨⟨rfl, rfl⟩, trivial⟩⟩)
  | (refine zo2 hF (fun hF => ?_) (fun v hF => ?_); rotate_left; unfold z56 at hF)
  | (refine z9v.oC hF 7013 (fun r => r) z07 (fun _ => AV.row 0) rfl (fun a h => conC_insert178 h) rfl rfl rfl rfl rfl rfl (fun a hF => ?_))
  | (exact ⟨_, hF, LeX.of [(7033, 33)] rfl ⟨⟨rfl, rfl⟩, ⟨rfl, rfl⟩, ⟨rfl, rfl⟩, ⟨rfl, rfl⟩, ⟨rfl, rfl⟩, ⟨rfl, rfl⟩, trivial⟩ ⟨⟨rfl, rfl⟩, trivial⟩⟩)
  | (exact ⟨_, hF, LeX.of [(7033, 7013)] rfl ⟨⟨rfl, rfl⟩, ⟨rfl, rfl⟩, ⟨rfl, rfl⟩, ⟨rfl, rfl⟩, ⟨rfl, rfl⟩, ⟨rfl, rfl⟩, trivial⟩ ⟨⟨rfl, rfl⟩, trivial⟩⟩)
  | (refine run_opened_l1_o hF (LeX.of [(7013, 13)] rfl ⟨⟨rfl, rfl⟩, ⟨rfl, rfl⟩, ⟨rfl, rfl⟩, ⟨rfl, rfl⟩, ⟨rfl, rfl⟩, trivial⟩ ⟨⟨rfl, rfl⟩, trivial⟩) (fun m v hF => ?_); unfold z6m at hF)
  | (refine And.intro ⟨by kernel_rfl, by kernel_rfl⟩ ?_)
  | (refine EqX.mk (by first | rfl | kernel_rfl) ?_)
  | (refine TX.o (rl := fun r => List.map z07 (r)) (res := z9x) hF ?_; exact TX.mk _ 7013 (LeX.refl _ _ _) _ rfl rfl (by repeat' first | exact Sub.nil _ | exact Sub.refl _ | refine Sub.agg ?_ | refine Sub.tup ?_ | refine Sub.fn ?_ | exact SubL.nil | refine SubL.cons ?_ ?_ | refine Sub.sl _ ?_ | exact SubE.nil | refine SubE.cons ?_ ?_))
  | (refine TX.o (rl := fun r => List.map z07 (r)) (res := z9x) hF ?_; exact TX.mk _ 7033 (LeX.refl _ _ _) _ rfl rfl (by repeat' first | exact Sub.nil _ | exact Sub.refl _ | refine Sub.agg ?_ | refine Sub.tup ?_ | refine Sub.fn ?_ | exact SubL.nil | refine SubL.cons ?_ ?_ | refine Sub.sl _ ?_ | exact SubE.nil | refine SubE.cons ?_ ?_))
  | (refine TX.o (rl := fun r => List.map z07 (r)) (res := z9x) hF ?_; exact TX.mk _ 33 (LeX.refl _ _ _) _ rfl rfl (by repeat' first | exact Sub.nil _ | exact Sub.refl _ | refine Sub.agg ?_ | refine Sub.tup ?_ | refine Sub.fn ?_ | exact SubL.nil | refine SubL.cons ?_ ?_ | refine Sub.sl _ ?_ | exact SubE.nil | refine SubE.cons ?_ ?_))
  | (refine TX.o (rl := fun r => List.map z07 (r)) (res := z9x) hF ?_; exact TX.mk _ 13 (LeX.refl _ _ _) _ rfl rfl (by repeat' first | exact Sub.nil _ | exact Sub.refl _ | refine Sub.agg ?_ | refine Sub.tup ?_ | refine Sub.fn ?_ | exact SubL.nil | refine SubL.cons ?_ ?_ | refine Sub.sl _ ?_ | exact SubE.nil | refine SubE.cons ?_ ?_))
  | (refine TX.o (rl := fun r => List.map z07 (r)) (res := z9x) hF ?_; exact TX.mk _ 9000 (LeX.adopt 6 9000 120 2 rfl rfl) _ rfl rfl (by repeat' first | exact Sub.nil _ | exact Sub.refl _ | refine Sub.agg ?_ | refine Sub.tup ?_ | refine Sub.fn ?_ | exact SubL.nil | refine SubL.cons ?_ ?_ | refine Sub.sl _ ?_ | exact SubE.nil | refine SubE.cons ?_ ?_))
def zr7 (r : Bool) : AV := .bool (r)
theorem con_run_intime_1 {n : Nat} {a0 : z04} {a1 : z0x} {r : Bool} (hF : zle n a0 a1 = some r) : Con E0 true 180 [.agg [aI (a0.fScope), aI (a0.fTime)], .ref [aI (a1.fScope), aI (a1.fSpan)]] (zr7 r) := by
 unfold zle at hF
 refine Con.walk _ Tryz.func180 rfl (z06 Tryz.func180 rfl rfl) rfl (Or.inr rfl) ?_
 repeat' first
  | (refine AW.step ?_; conv => whnf)
  | (refine z0b.o hF (fun hF => ?_) (fun hF => ?_))
  | (refine z0b.t ?_)
  | (refine z0b.f ?_)
  | (refine And.intro ⟨by kernel_rfl, by kernel_rfl⟩ ?_)
  | (refine EqX.mk (by first | rfl | kernel_rfl) ?_)
  | (exact RetX.o hF (by repeat' first | exact Sub.nil _ | exact Sub.refl _ | refine Sub.agg ?_ | refine Sub.tup ?_ | refine Sub.fn ?_ | exact SubL.nil | refine SubL.cons ?_ ?_ | refine Sub.sl _ ?_ | exact SubE.nil | refine SubE.cons ?_ ?_))
def z5i (a1c0 : z0x) (a0 : (List z04)) (v1_0 : Int) : AS := ⟨[(0, .sl 2 (List.map z07 (a0))), (1, .fn 180 [.ref [aI (a1c0.fScope), aI (a1c0.fSpan)]]), (7, aI ((((List.map z07 (a0)).length : Nat) : Int))), (8, aI (v1_0))], []⟩
theorem zjw {n N : Nat} {a1c0 : z0x} {a0 : (List z04)} {k1_0_0 : Option (Int)} {R : Exit → AS → Prop} {K : List z16} {c : Code} {σ : AS} {v0 : Int} {r : Int} (hF : z38 n a1c0 a0 k1_0_0 N v0 = some r) (hl : LeX E0 19 σ (z5i a1c0 a0 v0)) (round : ∀ m v, z38 n a1c0 a0 k1_0_0 (m + 1) v = some r → AW E0 19 (z0v (fun σ' => ∃ v', z38 n a1c0 a0 k1_0_0 m v' = some r ∧ LeX E0 19 σ' (z5i a1c0 a0 v')) (AW E0 19 R K)) [.code c] .normal (z5i a1c0 a0 v)) : z5v E0 19 (fun next σ' => AW E0 19 (z0v next (AW E0 19 R K)) [.code c] .normal σ') σ :=
 LoopA.o (S := z5i a1c0 a0) hF (fun _ => rfl) hl round
def zf1 (r : Int) : AV := aI (r)
theorem zku {n : Nat} {a0 : (List z04)} {a1c0 : z0x} {r : Int} (hF : zad n a0 a1c0 = some r) : Con E0 true 179 [.sl 2 (List.map z07 (a0)), .fn 180 [.ref [aI (a1c0.fScope), aI (a1c0.fSpan)]]] (zf1 r) := by
 unfold zad at hF
 refine Con.walk _ Tryz.func179 rfl (z06 Tryz.func179 rfl rfl) rfl (Or.inr rfl) ?_
 repeat' first
  | (refine AW.step ?_; conv => whnf)
  | (refine z0b.o hF (fun hF => ?_) (fun hF => ?_))
  | (refine z0b.t ?_)
  | (refine z0b.f ?_)
  | (refine IdxX.o z07 hF (fun x hF => ?_))
  | (refine z0p.o hF zr7 (fun a h => con_run_intime_1 h) (fun a hF => ?_))
  | (exact ⟨_, hF, LeX.of [] rfl ⟨⟨rfl, rfl⟩, ⟨rfl, rfl⟩, ⟨rfl, rfl⟩, ⟨rfl, rfl⟩, trivial⟩ trivial⟩)
  | (refine zjw hF (LeX.of [] rfl ⟨⟨rfl, rfl⟩, ⟨rfl, rfl⟩, ⟨rfl, rfl⟩, ⟨rfl, rfl⟩, trivial⟩ trivial) (fun m v hF => ?_); unfold z38 at hF)
  | (refine And.intro ⟨by kernel_rfl, by kernel_rfl⟩ ?_)
  | (refine EqX.mk (by first | rfl | kernel_rfl) ?_)
  | (exact RetX.o hF (by repeat' first | exact Sub.nil _ | exact Sub.refl _ | refine Sub.agg ?_ | refine Sub.tup ?_ | refine Sub.fn ?_ | exact SubL.nil | refine SubL.cons ?_ ?_ | refine Sub.sl _ ?_ | exact SubE.nil | refine SubE.cons ?_ ?_))
def zj4 (a2 : Int) (a1 : (List z0x)) (a0 : (List z04)) (v1_0 : Int) (cv1_0 : Int → Option (Bool)) (w3_1 : Bool) : AS := ⟨[(0, .sl 2 (List.map z07 (a0))), (2, aI (a2)), (10, .sl 2 (List.map z0s (a1))), (11, aI ((((List.map z0s (a1)).length : Nat) : Int))), (12, aI (v1_0)), (32, .bool (w3_1))], []⟩
theorem zo3 {n : Nat} {a2 : Int} {a1 : (List z0x)} {a0 : (List z04)} {v1_0 : Int} {cv1_0 : Int → Option (Bool)} {R : Exit → AS → Prop} {K : List z16} {i : Nat} {os : Array Oper} {d : Bool} {C : Code} {σ : AS} {x : Option (Bool)} {r : Bool} (hF : jon (z57 n a2 a1 a0 v1_0 cv1_0) x = some r) (h1 : x = some r → AW E0 34 (z0v (fun σ' => ∃ v', z57 n a2 a1 a0 v1_0 cv1_0 v' = some r ∧ LeX E0 34 σ' (zj4 a2 a1 a0 v1_0 cv1_0 v')) (AW E0 34 R (.code C :: K))) [.code (.region i os d)] .normal σ) (h2 : ∀ v, z57 n a2 a1 a0 v1_0 cv1_0 v = some r → AW E0 34 R (.code C :: K) .normal (zj4 a2 a1 a0 v1_0 cv1_0 v)) : AW E0 34 R (.code (.region i os d) :: .code C :: K) .normal σ :=
 AW.joinO1 (S := zj4 a2 a1 a0 v1_0 cv1_0) hF h1 h2
def zeu (a2 : Int) (a1 : (List z0x)) (a0 : (List z04)) (v1_0 : Int) : AS := ⟨[(0, .sl 2 (List.map z07 (a0))), (2, aI (a2)), (10, .sl 2 (List.map z0s (a1))), (11, aI ((((List.map z0s (a1)).length : Nat) : Int))), (12, aI (v1_0))], []⟩
theorem run_intime_l1_o {n N : Nat} {a2 : Int} {a1 : (List z0x)} {a0 : (List z04)} {k1_0_0 : Option (Bool)} {R : Exit → AS → Prop} {K : List z16} {c : Code} {σ : AS} {v0 : Int} {r : Bool} (hF : z6n n a2 a1 a0 k1_0_0 N v0 = some r) (hl : LeX E0 34 σ (zeu a2 a1 a0 v0)) (round : ∀ m v, z6n n a2 a1 a0 k1_0_0 (m + 1) v = some r → AW E0 34 (z0v (fun σ' => ∃ v', z6n n a2 a1 a0 k1_0_0 m v' = some r ∧ LeX E0 34 σ' (zeu a2 a1 a0 v')) (AW E0 34 R K)) [.code c] .normal (zeu a2 a1 a0 v)) : z5v E0 34 (fun next σ' => AW E0 34 (z0v next (AW E0 34 R K)) [.code c] .normal σ') σ :=
 LoopA.o (S := zeu a2 a1 a0) hF (fun _ => rfl) hl round
def R_run_intime (r : Bool) : AV := .bool (r)
end Go.Proofs.YtjpknpjjcddnnaaGreat
namespace Go.Proofs.YtjpknpjjcddnnaaGreat
open Go.RowKit
theorem con_run_intime {n : Nat} {a0 : (List z04)} {a1 : (List z0x)} {a2 : Int} {r : Bool} (hF : zpt n a0 a1 a2 = some r) : Con E0 true 135 [.sl 2 (List.map z07 (a0)), .sl 2 (List.map z0s (a1)), aI (a2)] (R_run_intime r) := by
 unfold zpt at hF
 refine Con.walk _ Tryz.func135 rfl (z06 Tryz.func135 rfl rfl) rfl (Or.inr rfl) ?_
 repeat' first
  | (refine zo3 hF (fun hF => ?_) (fun v hF => ?_); rotate_left; unfold z57 at hF)
  | (refine AW.regO hF (fun hF => ?_))
  | (refine AW.stepU [5] ?_; conv => whnf)
  | (refine z0b.o hF (fun hF => ?_) (fun hF => ?_))
  | (refine z0b.t ?_)
  | (refine z0b.f ?_)
  | (refine IdxX.o z0s hF (fun x hF => ?_))
  | (refine z9v.o hF zf1 (fun a h => zku h) (fun _ => Or.inr rfl) (fun a hF => ?_))
  | (exact ⟨_, hF, LeX.of [] rfl ⟨⟨rfl, rfl⟩, ⟨rfl, rfl⟩, ⟨rfl, rfl⟩, ⟨rfl, rfl⟩, ⟨rfl, rfl⟩, trivial⟩ trivial⟩)
  | (refine zo3 hF (fun hF => ?_) (fun v hF => ?_); rotate_left; unfold z57 at hF)
  | (exact ⟨_, hF, LeX.of [] rfl ⟨⟨rfl, rfl⟩, ⟨rfl, rfl⟩, ⟨rfl, rfl⟩, ⟨rfl, rfl⟩, ⟨rfl, rfl⟩, ⟨rfl, rfl⟩, trivial⟩ trivial⟩)
  | (refine IdxX.o z07 hF (fun x hF => ?_))
  | (refine run_intime_l1_o hF (LeX.of [] rfl ⟨⟨rfl, rfl⟩, ⟨rfl, rfl⟩, ⟨rfl, rfl⟩, ⟨rfl, rfl⟩, ⟨rfl, rfl⟩, trivial⟩ trivial) (fun m v hF => ?_); unfold z6n at hF)
  | (refine And.intro ⟨by kernel_rfl, by kernel_rfl⟩ ?_)
  | (refine EqX.mk (by first | rfl | kernel_rfl) ?_)
  | (exact RetX.o hF (by repeat' first | exact Sub.nil _ | exact Sub.refl _ | refine Sub.agg ?_ | refine Sub.tup ?_ | refine Sub.fn ?_ | exact SubL.nil | refine SubL.cons ?_ ?_ | refine Sub.sl _ ?_ | exact SubE.nil | refine SubE.cons ?_ ?_))
set_option maxHeartbeats 400000 in
theorem clone136_any (l : List (Cel 1)) (S : Nat → Prop) (v : Value) (w : World) (h : Sl w S 1 encC v l) (hl : l.length ≤ 1000000000) :
  Calls Tryz.prog 136 #[v] w (RetOwn 26 1 encC l w) := by
 have eok : EOk Tryz.prog 165 26 1 24 (encC (n := 1)) := eokC (sz := 1) tyOk165 rfl tyOk26 (by omega) rfl
 obtain ⟨A, c, rfl, hc, _⟩ := h.form
 have hq := fun (W : World) => Lib.run_eql_slice_nil W 165 26 A l.length c 0 0 Tryz.underlying165
 have H := hide h
 cases A with
 | none =>
   have h0 : l = [] := h.none_nil
   subst h0
   clear h H hl hc
   simp only [List.length_nil, Option.isNone_none] at hq ⊢
   go_enter Tryz.func136, Tryz.ntmps136
   go_wp2
   go_ret
   exact ⟨none, 0, rfl, Own.nil_, by go_grown⟩
 | some ad =>
   clear h
   go_enter Tryz.func136, Tryz.ntmps136
   go_wp2_with (at_builtin; refine z8o rfl _ _ rfl eok rfl Own.made_ rfl (H.out.alloc _) (by simp; omega) (by omega) (by simp) ?_; intro A' c' w1 ho hg _)
   go_ret
   exact ⟨A', c', rfl, ho, (Own.made_ (sz := 1) (enc := encC (n := 1))).grown ((Below.refl _ _).alloc (Nat.le_refl _) _) (Nat.le_refl _) (by simp) hg⟩
theorem zsp {n : Nat} {a r : List (List z02)} (hF : zcs n a = some r) : ConT E0 136 [.sl 1 (List.map (fun q => AV.sl 5 (List.map z0a q)) a)] 26 1 (List.map (fun q => AV.sl 5 (List.map z0a q)) r) (.row 0) := zor rfl (z06 Tryz.func136 rfl rfl) clone136_any hF
set_option maxHeartbeats 400000 in
theorem clone137_any (l : List (Cel 5)) (S : Nat → Prop) (v : Value) (w : World) (h : Sl w S 5 encC v l) (hl : l.length ≤ 1000000000) :
  Calls Tryz.prog 137 #[v] w (RetOwn 66 5 encC l w) := by
 have eok : EOk Tryz.prog 26 66 5 56 (encC (n := 5)) := eokC (sz := 5) tyOk26 rfl tyOk66 (by omega) rfl
 obtain ⟨A, c, rfl, hc, _⟩ := h.form
 have hq := fun (W : World) => Lib.run_eql_slice_nil W 26 66 A l.length c 0 0 Tryz.underlying26
 have H := hide h
 cases A with
 | none =>
   have h0 : l = [] := h.none_nil
   subst h0
   clear h H hl hc
   simp only [List.length_nil, Option.isNone_none] at hq ⊢
   go_enter Tryz.func137, Tryz.ntmps137
   go_wp2
   go_ret
   exact ⟨none, 0, rfl, Own.nil_, by go_grown⟩
 | some ad =>
   clear h
   go_enter Tryz.func137, Tryz.ntmps137
   go_wp2_with (at_builtin; refine z8o rfl _ _ rfl eok rfl Own.made_ rfl (H.out.alloc _) (by simp; omega) (by omega) (by simp) ?_; intro A' c' w1 ho hg _)
   go_ret
   exact ⟨A', c', rfl, ho, (Own.made_ (sz := 5) (enc := encC (n := 5))).grown ((Below.refl _ _).alloc (Nat.le_refl _) _) (Nat.le_refl _) (by simp) hg⟩
theorem zso {n : Nat} {a r : List z02} (hF : zcs n a = some r) : ConT E0 137 [.sl 5 (List.map z0a a)] 66 5 (List.map z0a r) (.row 0) := zor rfl (z06 Tryz.func137 rfl rfl) clone137_any hF
def zf4 (r : Bool) : AV := .bool (r)
theorem zkx {n : Nat} {a0 : z04} {a1 : z0i} {r : Bool} (hF : zag n a0 a1 = some r) : Con E0 true 139 [.agg [aI (a0.fScope), aI (a0.fTime)], .ref [aI (a1.fFrom), aI (a1.fTo), aI (a1.fVar), aI (a1.fType), aI (a1.fCond.fOp), .sl 8 (List.map idA (a1.fCond.fArgs)), aI (a1.fCond.fVar), aI (a1.fCond.fField), aI (a1.fCond.fKind), aI (a1.fCond.fValue.fKind), aI (a1.fCond.fValue.fNum), .str (a1.fCond.fValue.fText), .sl 1 (List.map aI (a1.fOpens)), .sl 1 (List.map aI (a1.fCloses)), .sl 8 (List.map idA (a1.fChecks)), .sl 2 (List.map z0s (a1.fLimits)), .sl 1 (List.map aI (a1.fInside))]] (zf4 r) := by
 unfold zag at hF
 refine Con.walk _ Tryz.func139 rfl (z06 Tryz.func139 rfl rfl) rfl (Or.inr rfl) ?_
 repeat' first
  | (refine AW.step ?_; conv => whnf)
  | (refine z0b.o hF (fun hF => ?_) (fun hF => ?_))
  | (refine z0b.t ?_)
  | (refine z0b.f ?_)
  | (refine z0p.o hF z9m (fun a h => za1 h) (fun a hF => ?_))
  | (refine And.intro ⟨by kernel_rfl, by kernel_rfl⟩ ?_)
  | (refine EqX.mk (by first | rfl | kernel_rfl) ?_)
  | (exact RetX.o hF (by repeat' first | exact Sub.nil _ | exact Sub.refl _ | refine Sub.agg ?_ | refine Sub.tup ?_ | refine Sub.fn ?_ | exact SubL.nil | refine SubL.cons ?_ ?_ | refine Sub.sl _ ?_ | exact SubE.nil | refine SubE.cons ?_ ?_))
def z5h (a1c0 : z0i) (a0 : (List z04)) (v1_0 : Int) : AS := ⟨[(0, .sl 2 (List.map z07 (a0))), (1, .fn 139 [.ref [aI (a1c0.fFrom), aI (a1c0.fTo), aI (a1c0.fVar), aI (a1c0.fType), aI (a1c0.fCond.fOp), .sl 8 (List.map idA (a1c0.fCond.fArgs)), aI (a1c0.fCond.fVar), aI (a1c0.fCond.fField), aI (a1c0.fCond.fKind), aI (a1c0.fCond.fValue.fKind), aI (a1c0.fCond.fValue.fNum), .str (a1c0.fCond.fValue.fText), .sl 1 (List.map aI (a1c0.fOpens)), .sl 1 (List.map aI (a1c0.fCloses)), .sl 8 (List.map idA (a1c0.fChecks)), .sl 2 (List.map z0s (a1c0.fLimits)), .sl 1 (List.map aI (a1c0.fInside))]]), (7, aI ((((List.map z07 (a0)).length : Nat) : Int))), (8, aI (v1_0))], []⟩
theorem zjv {n N : Nat} {a1c0 : z0i} {a0 : (List z04)} {k1_0_0 : Option (Int)} {R : Exit → AS → Prop} {K : List z16} {c : Code} {σ : AS} {v0 : Int} {r : Int} (hF : z37 n a1c0 a0 k1_0_0 N v0 = some r) (hl : LeX E0 19 σ (z5h a1c0 a0 v0)) (round : ∀ m v, z37 n a1c0 a0 k1_0_0 (m + 1) v = some r → AW E0 19 (z0v (fun σ' => ∃ v', z37 n a1c0 a0 k1_0_0 m v' = some r ∧ LeX E0 19 σ' (z5h a1c0 a0 v')) (AW E0 19 R K)) [.code c] .normal (z5h a1c0 a0 v)) : z5v E0 19 (fun next σ' => AW E0 19 (z0v next (AW E0 19 R K)) [.code c] .normal σ') σ :=
 LoopA.o (S := z5h a1c0 a0) hF (fun _ => rfl) hl round
def zf0 (r : Int) : AV := aI (r)
theorem zkt {n : Nat} {a0 : (List z04)} {a1c0 : z0i} {r : Int} (hF : zac n a0 a1c0 = some r) : Con E0 true 179 [.sl 2 (List.map z07 (a0)), .fn 139 [.ref [aI (a1c0.fFrom), aI (a1c0.fTo), aI (a1c0.fVar), aI (a1c0.fType), aI (a1c0.fCond.fOp), .sl 8 (List.map idA (a1c0.fCond.fArgs)), aI (a1c0.fCond.fVar), aI (a1c0.fCond.fField), aI (a1c0.fCond.fKind), aI (a1c0.fCond.fValue.fKind), aI (a1c0.fCond.fValue.fNum), .str (a1c0.fCond.fValue.fText), .sl 1 (List.map aI (a1c0.fOpens)), .sl 1 (List.map aI (a1c0.fCloses)), .sl 8 (List.map idA (a1c0.fChecks)), .sl 2 (List.map z0s (a1c0.fLimits)), .sl 1 (List.map aI (a1c0.fInside))]]] (zf0 r) := by
 unfold zac at hF
 refine Con.walk _ Tryz.func179 rfl (z06 Tryz.func179 rfl rfl) rfl (Or.inr rfl) ?_
 repeat' first
  | (refine AW.step ?_; conv => whnf)
  | (refine z0b.o hF (fun hF => ?_) (fun hF => ?_))
  | (refine z0b.t ?_)
  | (refine z0b.f ?_)
  | (refine IdxX.o z07 hF (fun x hF => ?_))
  | (refine z0p.o hF zf4 (fun a h => zkx h) (fun a hF => ?_))
  | (exact ⟨_, hF, LeX.of [] rfl ⟨⟨rfl, rfl⟩, ⟨rfl, rfl⟩, ⟨rfl, rfl⟩, ⟨rfl, rfl⟩, trivial⟩ trivial⟩)
  | (refine zjv hF (LeX.of [] rfl ⟨⟨rfl, rfl⟩, ⟨rfl, rfl⟩, ⟨rfl, rfl⟩, ⟨rfl, rfl⟩, trivial⟩ trivial) (fun m v hF => ?_); unfold z37 at hF)
  | (refine And.intro ⟨by kernel_rfl, by kernel_rfl⟩ ?_)
  | (refine EqX.mk (by first | rfl | kernel_rfl) ?_)
  | (exact RetX.o hF (by repeat' first | exact Sub.nil _ | exact Sub.refl _ | refine Sub.agg ?_ | refine Sub.tup ?_ | refine Sub.fn ?_ | exact SubL.nil | refine SubL.cons ?_ ?_ | refine Sub.sl _ ?_ | exact SubE.nil | refine SubE.cons ?_ ?_))
def zie (a0 : z04) (m0 : z0i) : List (Nat × Ent) := [(100000, .box 51 [aI (m0.fFrom), aI (m0.fTo), aI (m0.fVar), aI (m0.fType), aI (m0.fCond.fOp), .sl 8 (List.map idA (m0.fCond.fArgs)), aI (m0.fCond.fVar), aI (m0.fCond.fField), aI (m0.fCond.fKind), aI (m0.fCond.fValue.fKind), aI (m0.fCond.fValue.fNum), .str (m0.fCond.fValue.fText), .sl 1 (List.map aI (m0.fOpens)), .sl 1 (List.map aI (m0.fCloses)), .sl 8 (List.map idA (m0.fChecks)), .sl 2 (List.map z0s (m0.fLimits)), .sl 1 (List.map aI (m0.fInside))])]
def z3k (r : Bool × z0i) : List (Nat × Ent) := [(100000, .box 51 [aI (r.2.fFrom), aI (r.2.fTo), aI (r.2.fVar), aI (r.2.fType), aI (r.2.fCond.fOp), .sl 8 (List.map idA (r.2.fCond.fArgs)), aI (r.2.fCond.fVar), aI (r.2.fCond.fField), aI (r.2.fCond.fKind), aI (r.2.fCond.fValue.fKind), aI (r.2.fCond.fValue.fNum), .str (r.2.fCond.fValue.fText), .sl 1 (List.map aI (r.2.fOpens)), .sl 1 (List.map aI (r.2.fCloses)), .sl 8 (List.map idA (r.2.fChecks)), .sl 2 (List.map z0s (r.2.fLimits)), .sl 1 (List.map aI (r.2.fInside))])]
def z4u (r : Bool × z0i) : AV := .bool (r.1)
def zib (r : Bool × z0i) : AS := ⟨[(3, .bool (r.1)), (1, .ptr 100000 0)], z3k r⟩
theorem z9w {n : Nat} {a0 : z04} {m0 : z0i} {r : Bool × z0i} (hF : z7l n a0 m0 = some r) : ConG E0.P none (CalF E0.P 139 0) [.agg [aI (a0.fScope), aI (a0.fTime)], .ptr 100000 0] [] (zie a0 m0) (z4u r) (z3k r) := by
 unfold z7l at hF
 refine ConG.walk (E := (E0p 2)) (caps := []) _ Tryz.func139 rfl rfl rfl rfl rfl ?_
 repeat' first
  | (refine AW.step ?_; conv => whnf)
  | (refine z0b.o hF (fun hF => ?_) (fun hF => ?_))
  | (refine z0b.t ?_)
  | (refine z0b.f ?_)
  | (refine z0p.o hF z9m (fun a h => Con.env rfl rfl (za1 h)) (fun a hF => ?_))
  | (refine GX.o (res := z4u) (meF := z3k) hF ?_; exact GX.mk (zib _) (LeX.of [] rfl ⟨⟨rfl, rfl⟩, ⟨rfl, rfl⟩, trivial⟩ ⟨⟨rfl, rfl⟩, trivial⟩) rfl _ rfl (by repeat' first | exact Sub.nil _ | exact Sub.refl _ | refine Sub.agg ?_ | refine Sub.tup ?_ | refine Sub.fn ?_ | exact SubL.nil | refine SubL.cons ?_ ?_ | refine Sub.sl _ ?_ | exact SubE.nil | refine SubE.cons ?_ ?_) [] trivial rfl)
  | (refine And.intro ⟨by kernel_rfl, by kernel_rfl⟩ ?_)
  | (refine EqX.mk (by first | rfl | kernel_rfl) ?_)
def z86 (v1_0 : Int × Int × Int × Int × Int × Int × Int × (List AV) × Int × Int × Int × Int × Int × ByteArray × (List Int) × (List Int) × (List AV) × (List z0x) × (List Int) × (List z04)) : AS := ⟨[(0, .row 200001), (1, .fn 139 [.ptr 100000 0]), (5, aI (v1_0.1)), (6, aI (v1_0.2.1))], [(100000, .box 51 [aI (v1_0.2.2.1), aI (v1_0.2.2.2.1), aI (v1_0.2.2.2.2.1), aI (v1_0.2.2.2.2.2.1), aI (v1_0.2.2.2.2.2.2.1), .sl 8 (List.map idA (v1_0.2.2.2.2.2.2.2.1)), aI (v1_0.2.2.2.2.2.2.2.2.1), aI (v1_0.2.2.2.2.2.2.2.2.2.1), aI (v1_0.2.2.2.2.2.2.2.2.2.2.1), aI (v1_0.2.2.2.2.2.2.2.2.2.2.2.1), aI (v1_0.2.2.2.2.2.2.2.2.2.2.2.2.1), .str (v1_0.2.2.2.2.2.2.2.2.2.2.2.2.2.1), .sl 1 (List.map aI (v1_0.2.2.2.2.2.2.2.2.2.2.2.2.2.2.1)), .sl 1 (List.map aI (v1_0.2.2.2.2.2.2.2.2.2.2.2.2.2.2.2.1)), .sl 8 (List.map idA (v1_0.2.2.2.2.2.2.2.2.2.2.2.2.2.2.2.2.1)), .sl 2 (List.map z0s (v1_0.2.2.2.2.2.2.2.2.2.2.2.2.2.2.2.2.2.1)), .sl 1 (List.map aI (v1_0.2.2.2.2.2.2.2.2.2.2.2.2.2.2.2.2.2.2.1))]), (200001, .row 120 2 (List.map z07 (v1_0.2.2.2.2.2.2.2.2.2.2.2.2.2.2.2.2.2.2.2)))]⟩
theorem znf {n N : Nat} {k1_0_0 : Int → Int → Int → Int → Int → Int → (List AV) → Int → Int → Int → Int → Int → ByteArray → (List Int) → (List Int) → (List AV) → (List z0x) → (List Int) → (List z04) → Option ((List z04) × z0i)} {R : Exit → AS → Prop} {K : List z16} {c : Code} {σ : AS} {v0 : Int × Int × Int × Int × Int × Int × Int × (List AV) × Int × Int × Int × Int × Int × ByteArray × (List Int) × (List Int) × (List AV) × (List z0x) × (List Int) × (List z04)} {r : (List z04) × z0i} (hF : z3j n k1_0_0 N v0 = some r) (hl : LeX (E0p 2) 42 σ (z86 v0)) (round : ∀ m v, z3j n k1_0_0 (m + 1) v = some r → AW (E0p 2) 42 (z0v (fun σ' => ∃ v', z3j n k1_0_0 m v' = some r ∧ LeX (E0p 2) 42 σ' (z86 v')) (AW (E0p 2) 42 R K)) [.code c] .normal (z86 v)) : z5v (E0p 2) 42 (fun next σ' => AW (E0p 2) 42 (z0v next (AW (E0p 2) 42 R K)) [.code c] .normal σ') σ :=
 LoopA.o (S := z86) hF (fun _ => rfl) hl round
def zrs (m0 : z0i) (m1 : (List z04)) : List (Nat × Ent) := [(100000, .box 51 [aI (m0.fFrom), aI (m0.fTo), aI (m0.fVar), aI (m0.fType), aI (m0.fCond.fOp), .sl 8 (List.map idA (m0.fCond.fArgs)), aI (m0.fCond.fVar), aI (m0.fCond.fField), aI (m0.fCond.fKind), aI (m0.fCond.fValue.fKind), aI (m0.fCond.fValue.fNum), .str (m0.fCond.fValue.fText), .sl 1 (List.map aI (m0.fOpens)), .sl 1 (List.map aI (m0.fCloses)), .sl 8 (List.map idA (m0.fChecks)), .sl 2 (List.map z0s (m0.fLimits)), .sl 1 (List.map aI (m0.fInside))]), (200001, .row 120 2 (List.map z07 (m1)))]
def z5t (r : (List z04) × z0i) : List (Nat × Ent) := [(260000, .row 120 2 (List.map z07 (r.1))), (100000, .box 51 [aI (r.2.fFrom), aI (r.2.fTo), aI (r.2.fVar), aI (r.2.fType), aI (r.2.fCond.fOp), .sl 8 (List.map idA (r.2.fCond.fArgs)), aI (r.2.fCond.fVar), aI (r.2.fCond.fField), aI (r.2.fCond.fKind), aI (r.2.fCond.fValue.fKind), aI (r.2.fCond.fValue.fNum), .str (r.2.fCond.fValue.fText), .sl 1 (List.map aI (r.2.fOpens)), .sl 1 (List.map aI (r.2.fCloses)), .sl 8 (List.map idA (r.2.fChecks)), .sl 2 (List.map z0s (r.2.fLimits)), .sl 1 (List.map aI (r.2.fInside))])]
def z7z (r : (List z04) × z0i) : AV := .row 260000
def zj2 (r : (List z04) × z0i) : AS := ⟨[(4, .row 260000), (1, .fn 139 [.ptr 100000 0])], z5t r⟩
theorem zgw {n : Nat} {m0 : z0i} {m1 : (List z04)} {r : (List z04) × z0i} (hF : zdm n m0 m1 = some r) : ConG E0.P none (CalF E0.P 138 0) [.row 200001, .fn 139 [.ptr 100000 0]] [] (zrs m0 m1) (z7z r) (z5t r) := by
 unfold zdm at hF
 refine ConG.walk (E := (E0p 2)) (caps := []) _ Tryz.func138 rfl rfl rfl rfl rfl ?_
 repeat' first
  | (refine AW.step ?_; conv => whnf)
  | (refine z0b.o hF (fun hF => ?_) (fun hF => ?_))
  | (refine z0b.t ?_)
  | (refine z0b.f ?_)
  | (refine z9v.o hF zf0 (fun a h => Con.env rfl rfl (zkt h)) (fun _ => Or.inr rfl) (fun a hF => ?_))
  | (refine GX.o (res := z7z) (meF := z5t) hF ?_; exact GX.mk (zj2 _) (LeX.of [(260000, 200001)] rfl ⟨⟨rfl, rfl⟩, ⟨rfl, rfl⟩, trivial⟩ ⟨⟨rfl, rfl⟩, ⟨rfl, rfl⟩, trivial⟩) rfl _ rfl (by repeat' first | exact Sub.nil _ | exact Sub.refl _ | refine Sub.agg ?_ | refine Sub.tup ?_ | refine Sub.fn ?_ | exact SubL.nil | refine SubL.cons ?_ ?_ | refine Sub.sl _ ?_ | exact SubE.nil | refine SubE.cons ?_ ?_) [100000] ⟨Or.inr ⟨1, 0, _, _, _, _, _, Nat.le_of_ble_eq_true rfl, rfl, rfl, rfl, rfl, rfl⟩, trivial⟩ rfl)
  | (refine OpX.sub hF rfl rfl rfl rfl rfl rfl rfl rfl rfl rfl (fun m hF => ?_))
  | (refine OpX.clr z07 hF rfl rfl rfl rfl rfl rfl rfl rfl rfl rfl rfl (by first | exact SubL.refl _ | (repeat' first | exact SubL.nil | refine SubL.cons ?_ ?_ | exact Sub.refl _ | exact Sub.nil _ | refine Sub.agg ?_)) (fun l hF => ?_))
  | (refine SlsX.o z07 hF (fun l hF => ?_))
  | (refine GX.o (res := z7z) (meF := z5t) hF ?_; exact GX.mk (zj2 _) (LeX.of [(260000, 41)] rfl ⟨⟨rfl, rfl⟩, ⟨rfl, rfl⟩, trivial⟩ ⟨⟨rfl, rfl⟩, ⟨rfl, rfl⟩, trivial⟩) rfl _ rfl (by repeat' first | exact Sub.nil _ | exact Sub.refl _ | refine Sub.agg ?_ | refine Sub.tup ?_ | refine Sub.fn ?_ | exact SubL.nil | refine SubL.cons ?_ ?_ | refine Sub.sl _ ?_ | exact SubE.nil | refine SubE.cons ?_ ?_) [100000] ⟨Or.inr ⟨1, 0, _, _, _, _, _, Nat.le_of_ble_eq_true rfl, rfl, rfl, rfl, rfl, rfl⟩, trivial⟩ rfl)
  | (refine NatX.o hF (fun m hF => ?_))
  | (refine EltX.o z07 hF (fun x hF => ?_))
  | (refine z9v.oM (z3n 28 hF) [(100000, 100000)] [(100000, 100000)] _ _ z3k z4u [] (fun a h => ConG.up (z9w h)) (z06 Tryz.func139 rfl rfl) rfl rfl rfl ⟨⟨rfl, rfl⟩, trivial⟩ (fun a => ⟨rfl, rfl, rfl, rfl, rfl, rfl, rfl, rfl⟩) (fun a hF => ?_))
  | (refine z0p.oM (z3n 28 hF) [(100000, 100000)] [(100000, 100000)] _ _ z3k z4u [] (fun a h => ConG.up (z9w h)) (z06 Tryz.func139 rfl rfl) rfl rfl rfl ⟨⟨rfl, rfl⟩, trivial⟩ (fun a => ⟨rfl, rfl, rfl, rfl, rfl, rfl, rfl, rfl⟩) (fun a hF => ?_))
  | (refine SetX.o z07 hF (fun x => rfl) (fun x => (by first | exact SubL.refl _ | (repeat' first | exact SubL.nil | refine SubL.cons ?_ ?_ | exact Sub.refl _ | exact Sub.nil _ | refine Sub.agg ?_))) (fun l hF => ?_))
  | (exact ⟨_, hF, LeX.of [] rfl ⟨⟨rfl, rfl⟩, ⟨rfl, rfl⟩, ⟨rfl, rfl⟩, ⟨rfl, rfl⟩, trivial⟩ ⟨⟨rfl, rfl⟩, ⟨rfl, rfl⟩, trivial⟩⟩)
  | (refine znf hF (LeX.of [] rfl ⟨⟨rfl, rfl⟩, ⟨rfl, rfl⟩, ⟨rfl, rfl⟩, ⟨rfl, rfl⟩, trivial⟩ ⟨⟨rfl, rfl⟩, ⟨rfl, rfl⟩, trivial⟩) (fun m v hF => ?_); unfold z3j at hF)
  | (refine And.intro ⟨by kernel_rfl, by kernel_rfl⟩ ?_)
  | (refine EqX.mk (by first | rfl | kernel_rfl) ?_)
set_option maxHeartbeats 400000 in
theorem clone140_any (l : List (Cel 4)) (S : Nat → Prop) (v : Value) (w : World) (h : Sl w S 4 encC v l) (hl : l.length ≤ 1000000000) :
  Calls Tryz.prog 140 #[v] w (RetOwn 128 4 encC l w) := by
 have eok : EOk Tryz.prog 74 128 4 32 (encC (n := 4)) := eokC (sz := 4) tyOk74 rfl tyOk128 (by omega) rfl
 obtain ⟨A, c, rfl, hc, _⟩ := h.form
 have hq := fun (W : World) => Lib.run_eql_slice_nil W 74 128 A l.length c 0 0 Tryz.underlying74
 have H := hide h
 cases A with
 | none =>
   have h0 : l = [] := h.none_nil
   subst h0
   clear h H hl hc
   simp only [List.length_nil, Option.isNone_none] at hq ⊢
   go_enter Tryz.func140, Tryz.ntmps140
   go_wp2
   go_ret
   exact ⟨none, 0, rfl, Own.nil_, by go_grown⟩
 | some ad =>
   clear h
   go_enter Tryz.func140, Tryz.ntmps140
   go_wp2_with (at_builtin; refine z8o rfl _ _ rfl eok rfl Own.made_ rfl (H.out.alloc _) (by simp; omega) (by omega) (by simp) ?_; intro A' c' w1 ho hg _)
   go_ret
   exact ⟨A', c', rfl, ho, (Own.made_ (sz := 4) (enc := encC (n := 4))).grown ((Below.refl _ _).alloc (Nat.le_refl _) _) (Nat.le_refl _) (by simp) hg⟩
theorem zsn {n : Nat} {a r : List z0g} (hF : zcs n a = some r) : ConT E0 140 [.sl 4 (List.map z09 a)] 128 4 (List.map z09 r) (.row 0) := zor rfl (z06 Tryz.func140 rfl rfl) clone140_any hF
def z6p (a4 : z02) (a2 : z0i) (a1 : z00) (x5 : (List z04)) (x12 : (List (List z02))) (v1_1 : Int) : AS := ⟨[(6, .ptr 6 0), (7, .ptr 7 0), (9, .ptr 9 0), (10, .ptr 10 0), (12, .row 52), (13, .ptr 13 0), (81, .sl 8 (List.map idA (a2.fChecks))), (82, aI ((((List.map idA (a2.fChecks)).length : Nat) : Int))), (83, aI (v1_1))], [(6, .box 77 [aI (a1.fState), .sl 4 (List.map z09 (a1.fBindings)), .sl 2 (List.map z07 (a1.fStarts))]), (7, .box 51 [aI (a2.fFrom), aI (a2.fTo), aI (a2.fVar), aI (a2.fType), aI (a2.fCond.fOp), .sl 8 (List.map idA (a2.fCond.fArgs)), aI (a2.fCond.fVar), aI (a2.fCond.fField), aI (a2.fCond.fKind), aI (a2.fCond.fValue.fKind), aI (a2.fCond.fValue.fNum), .str (a2.fCond.fValue.fText), .sl 1 (List.map aI (a2.fOpens)), .sl 1 (List.map aI (a2.fCloses)), .sl 8 (List.map idA (a2.fChecks)), .sl 2 (List.map z0s (a2.fLimits)), .sl 1 (List.map aI (a2.fInside))]), (9, .box 66 [aI (a4.fSource), aI (a4.fSeq), aI (a4.fType), aI (a4.fTime), .sl 3 (List.map z0c (a4.fValues))]), (10, .box 77 [aI (0), .nils, .nils]), (13, .box 167 [.row 63]), (52, .row 120 2 (List.map z07 (x5))), (63, .row 26 1 (List.map (fun q => AV.sl 5 (List.map z0a q)) (x12)))]⟩
theorem zlh {n N : Nat} {a4 : z02} {a2 : z0i} {a1 : z00} {x5 : (List z04)} {x12 : (List (List z02))} {k1_1_0 : (List z04) → Option (z00 × Bool)} {R : Exit → AS → Prop} {K : List z16} {c : Code} {σ : AS} {v0 : Int} {r : z00 × Bool} (hF : z3q n a4 a2 a1 x5 x12 k1_1_0 N v0 = some r) (hl : LeX E0 111 σ (z6p a4 a2 a1 x5 x12 v0)) (round : ∀ m v, z3q n a4 a2 a1 x5 x12 k1_1_0 (m + 1) v = some r → AW E0 111 (z0v (fun σ' => ∃ v', z3q n a4 a2 a1 x5 x12 k1_1_0 m v' = some r ∧ LeX E0 111 σ' (z6p a4 a2 a1 x5 x12 v')) (AW E0 111 R K)) [.code c] .normal (z6p a4 a2 a1 x5 x12 v)) : z5v E0 111 (fun next σ' => AW E0 111 (z0v next (AW E0 111 R K)) [.code c] .normal σ') σ :=
 LoopA.o (S := z6p a4 a2 a1 x5 x12) hF (fun _ => rfl) hl round
def z9l (a4 : z02) (a3 : z0d) (a2 : z0i) (a1 : z00) (w1_0 : Bool) : AS := ⟨[(6, .ptr 6 0), (7, .ptr 7 0), (8, .ptr 8 0), (9, .ptr 9 0), (10, .ptr 10 0), (44, .bool (w1_0))], [(6, .box 77 [aI (a1.fState), .sl 4 (List.map z09 (a1.fBindings)), .sl 2 (List.map z07 (a1.fStarts))]), (7, .box 51 [aI (a2.fFrom), aI (a2.fTo), aI (a2.fVar), aI (a2.fType), aI (a2.fCond.fOp), .sl 8 (List.map idA (a2.fCond.fArgs)), aI (a2.fCond.fVar), aI (a2.fCond.fField), aI (a2.fCond.fKind), aI (a2.fCond.fValue.fKind), aI (a2.fCond.fValue.fNum), .str (a2.fCond.fValue.fText), .sl 1 (List.map aI (a2.fOpens)), .sl 1 (List.map aI (a2.fCloses)), .sl 8 (List.map idA (a2.fChecks)), .sl 2 (List.map z0s (a2.fLimits)), .sl 1 (List.map aI (a2.fInside))]), (8, .box 167 [.sl 1 (List.map (fun q => AV.sl 5 (List.map z0a q)) (a3.fVars))]), (9, .box 66 [aI (a4.fSource), aI (a4.fSeq), aI (a4.fType), aI (a4.fTime), .sl 3 (List.map z0c (a4.fValues))]), (10, .box 77 [aI (0), .nils, .nils])]⟩
theorem zdy {n : Nat} {a4 : z02} {a3 : z0d} {a2 : z0i} {a1 : z00} {R : Exit → AS → Prop} {K : List z16} {i : Nat} {os : Array Oper} {d : Bool} {C : Code} {σ : AS} {x : Option (z00 × Bool)} {r : z00 × Bool} (hF : jon (z1b n a4 a3 a2 a1) x = some r) (h1 : x = some r → AW E0 111 (z0v (fun σ' => ∃ v', z1b n a4 a3 a2 a1 v' = some r ∧ LeX E0 111 σ' (z9l a4 a3 a2 a1 v')) (AW E0 111 R (.code C :: K))) [.code (.region i os d)] .normal σ) (h2 : ∀ v, z1b n a4 a3 a2 a1 v = some r → AW E0 111 R (.code C :: K) .normal (z9l a4 a3 a2 a1 v)) : AW E0 111 R (.code (.region i os d) :: .code C :: K) .normal σ :=
 AW.joinO1 (S := z9l a4 a3 a2 a1) hF h1 h2
def zh8 (r : z00 × Bool) : AV := .tup [.agg [aI (r.1.fState), .sl 4 (List.map z09 (r.1.fBindings)), .sl 2 (List.map z07 (r.1.fStarts))], .bool (r.2)]
theorem zmp {n : Nat} {a0 : z0h} {a1 : z00} {a2 : z0i} {a3 : z0d} {a4 : z02} {r : z00 × Bool} (hF : z92 n a0 a1 a2 a3 a4 = some r) : Con E0 false 109 [.ref [aI (a0.fa.fVars), aI (a0.fa.fScopes), .sl 1 (List.map z0m (a0.fa.fStates)), .sl 17 (List.map z0n (a0.fa.fEdges)), .mapv (List.map (encM z43 z0a) (a0.fheld))], .agg [aI (a1.fState), .sl 4 (List.map z09 (a1.fBindings)), .sl 2 (List.map z07 (a1.fStarts))], .agg [aI (a2.fFrom), aI (a2.fTo), aI (a2.fVar), aI (a2.fType), aI (a2.fCond.fOp), .sl 8 (List.map idA (a2.fCond.fArgs)), aI (a2.fCond.fVar), aI (a2.fCond.fField), aI (a2.fCond.fKind), aI (a2.fCond.fValue.fKind), aI (a2.fCond.fValue.fNum), .str (a2.fCond.fValue.fText), .sl 1 (List.map aI (a2.fOpens)), .sl 1 (List.map aI (a2.fCloses)), .sl 8 (List.map idA (a2.fChecks)), .sl 2 (List.map z0s (a2.fLimits)), .sl 1 (List.map aI (a2.fInside))], .agg [.sl 1 (List.map (fun q => AV.sl 5 (List.map z0a q)) (a3.fVars))], .agg [aI (a4.fSource), aI (a4.fSeq), aI (a4.fType), aI (a4.fTime), .sl 3 (List.map z0c (a4.fValues))]] (zh8 r) := by
 unfold z92 at hF
 refine Con.walk _ Tryz.func109 rfl (z06 Tryz.func109 rfl rfl) rfl (Or.inl rfl) ?_
 repeat' first
  | (refine zdy hF (fun hF => ?_) (fun v hF => ?_); rotate_left; unfold z1b at hF)
  | (refine AW.regO hF (fun hF => ?_))
  | (refine AW.stepU [1] ?_; conv => whnf)
  | (refine z0b.o hF (fun hF => ?_) (fun hF => ?_))
  | (refine z0b.t ?_)
  | (refine z0b.f ?_)
  | (refine z0p.oR hF (fun r => r) z07 z9x rfl (fun a h => zoq h) (fun a hF => ?_))
  | (refine z0p.oR hF (fun r => r) z07 z9x rfl (fun a h => ConT.sub (by repeat' first | exact Sub.nil _ | exact Sub.refl _ | refine Sub.agg ?_ | refine Sub.tup ?_ | refine Sub.fn ?_ | exact SubL.nil | refine SubL.cons ?_ ?_ | refine Sub.sl _ ?_ | exact SubE.nil | refine SubE.cons ?_ ?_) (zoq h)) (fun a hF => ?_))
  | (refine z9v.o hF R_run_intime (fun a h => con_run_intime h) (fun _ => Or.inr rfl) (fun a hF => ?_))
  | (refine z0p.oR hF (fun r => r) (fun q => AV.sl 5 (List.map z0a q)) (fun _ => AV.row 0) rfl (fun a h => zsp h) (fun a hF => ?_))
  | (refine z0p.oR hF (fun r => r) (fun q => AV.sl 5 (List.map z0a q)) (fun _ => AV.row 0) rfl (fun a h => ConT.sub (by repeat' first | exact Sub.nil _ | exact Sub.refl _ | refine Sub.agg ?_ | refine Sub.tup ?_ | refine Sub.fn ?_ | exact SubL.nil | refine SubL.cons ?_ ?_ | refine Sub.sl _ ?_ | exact SubE.nil | refine SubE.cons ?_ ?_) (zsp h)) (fun a hF => ?_))
  | (refine IdxX.o (fun q => AV.sl 5 (List.map z0a q)) hF (fun x hF => ?_))
  | (refine z0p.oR hF (fun r => r) z0a (fun _ => AV.row 0) rfl (fun a h => zso h) (fun a hF => ?_))
  | (refine z0p.oR hF (fun r => r) z0a (fun _ => AV.row 0) rfl (fun a h => ConT.sub (by repeat' first | exact Sub.nil _ | exact Sub.refl _ | refine Sub.agg ?_ | refine Sub.tup ?_ | refine Sub.fn ?_ | exact SubL.nil | refine SubL.cons ?_ ?_ | refine Sub.sl _ ?_ | exact SubE.nil | refine SubE.cons ?_ ?_) (zso h)) (fun a hF => ?_))
  | (refine AppX.o z0a hF (by first | exact SubR.refl _ | (repeat' first | exact SubR.nil | refine SubR.cons ?_ ?_ | exact SubL.nil | refine SubL.cons ?_ ?_ | exact Sub.refl _ | exact Sub.nil _)) (fun l hF => ?_))
  | (refine NatX.o hF (fun m hF => ?_))
  | (refine OpX.str z0a hF rfl rfl rfl rfl rfl rfl rfl rfl rfl rfl rfl (fun l hF => ?_))
  | (refine z9v.oM (z3n 96 hF) [(100000, 7), (200001, 52)] [(260000, 97000000), (100000, 7)] _ _ z5t z7z [52] (fun a h => ConG.up (zgw h)) (z06 Tryz.func138 rfl rfl) rfl rfl rfl ⟨⟨rfl, rfl⟩, ⟨⟨rfl, rfl⟩, trivial⟩⟩ (fun a => ⟨rfl, rfl, rfl, rfl, rfl, rfl, rfl, rfl⟩) (fun a hF => ?_))
  | (refine z0p.oM (z3n 96 hF) [(100000, 7), (200001, 52)] [(260000, 97000000), (100000, 7)] _ _ z5t z7z [52] (fun a h => ConG.up (zgw h)) (z06 Tryz.func138 rfl rfl) rfl rfl rfl ⟨⟨rfl, rfl⟩, ⟨⟨rfl, rfl⟩, trivial⟩⟩ (fun a => ⟨rfl, rfl, rfl, rfl, rfl, rfl, rfl, rfl⟩) (fun a hF => ?_))
  | (refine z0p.oR hF (fun r => r) z09 (fun _ => AV.row 0) rfl (fun a h => zsn h) (fun a hF => ?_))
  | (refine z0p.oR hF (fun r => r) z09 (fun _ => AV.row 0) rfl (fun a h => ConT.sub (by repeat' first | exact Sub.nil _ | exact Sub.refl _ | refine Sub.agg ?_ | refine Sub.tup ?_ | refine Sub.fn ?_ | exact SubL.nil | refine SubL.cons ?_ ?_ | refine Sub.sl _ ?_ | exact SubE.nil | refine SubE.cons ?_ ?_) (zsn h)) (fun a hF => ?_))
  | (refine z0p.o hF R_run_ref (fun a h => con_run_ref h) (fun a hF => ?_))
  | (refine AppX.o z09 hF (by first | exact SubR.refl _ | (repeat' first | exact SubR.nil | refine SubR.cons ?_ ?_ | exact SubL.nil | refine SubL.cons ?_ ?_ | exact Sub.refl _ | exact Sub.nil _)) (fun l hF => ?_))
  | (refine IdxX.oD hF zcy (fun x hF => ?_))
  | (refine z9v.o hF zha (fun a h => zgp h) (fun _ => Or.inr rfl) (fun a hF => ?_))
  | (refine z9v.o hF zha (fun a h => Con.sub (by repeat' first | exact Sub.nil _ | exact Sub.refl _ | refine Sub.agg ?_ | refine Sub.tup ?_ | refine Sub.fn ?_ | exact SubL.nil | refine SubL.cons ?_ ?_ | refine Sub.sl _ ?_ | exact SubE.nil | refine SubE.cons ?_ ?_) (zgp h)) (fun _ => Or.inr rfl) (fun a hF => ?_))
  | (exact ⟨_, hF, LeX.of [] rfl ⟨⟨rfl, rfl⟩, ⟨rfl, rfl⟩, ⟨rfl, rfl⟩, ⟨rfl, rfl⟩, ⟨rfl, rfl⟩, ⟨rfl, rfl⟩, ⟨rfl, rfl⟩, ⟨rfl, rfl⟩, ⟨rfl, rfl⟩, trivial⟩ ⟨⟨rfl, rfl⟩, ⟨rfl, rfl⟩, ⟨rfl, rfl⟩, ⟨rfl, rfl⟩, ⟨rfl, rfl⟩, ⟨rfl, rfl⟩, ⟨rfl, rfl⟩, trivial⟩⟩)
  | (refine zlh hF (LeX.of [] rfl ⟨⟨rfl, rfl⟩, ⟨rfl, rfl⟩, ⟨rfl, rfl⟩, ⟨rfl, rfl⟩, ⟨rfl, rfl⟩, ⟨rfl, rfl⟩, ⟨rfl, rfl⟩, ⟨rfl, rfl⟩, ⟨rfl, rfl⟩, trivial⟩ ⟨⟨rfl, rfl⟩, ⟨rfl, rfl⟩, ⟨rfl, rfl⟩, ⟨rfl, rfl⟩, ⟨rfl, rfl⟩, ⟨rfl, rfl⟩, ⟨rfl, rfl⟩, trivial⟩) (fun m v hF => ?_); unfold z3q at hF)
  | (refine zdy hF (fun hF => ?_) (fun v hF => ?_); rotate_left; unfold z1b at hF)
  | (exact ⟨_, hF, LeX.of [] rfl ⟨⟨rfl, rfl⟩, ⟨rfl, rfl⟩, ⟨rfl, rfl⟩, ⟨rfl, rfl⟩, ⟨rfl, rfl⟩, ⟨rfl, rfl⟩, trivial⟩ ⟨⟨rfl, rfl⟩, ⟨rfl, rfl⟩, ⟨rfl, rfl⟩, ⟨rfl, rfl⟩, ⟨rfl, rfl⟩, trivial⟩⟩)
  | (refine OpX.nckR rfl rfl rfl rfl ?_)
  | (refine IdxX.o z0m hF (fun x hF => ?_))
  | (refine z9v.o hF zc9 (fun a h => zi8 h) (fun _ => Or.inr rfl) (fun a hF => ?_))
  | (refine z0p.o hF zha (fun a h => zgp h) (fun a hF => ?_))
  | (refine And.intro ⟨by kernel_rfl, by kernel_rfl⟩ ?_)
  | (refine EqX.mk (by first | rfl | kernel_rfl) ?_)
  | (exact RetX.o hF (by repeat' first | exact Sub.nil _ | exact Sub.refl _ | refine Sub.agg ?_ | refine Sub.tup ?_ | refine Sub.fn ?_ | exact SubL.nil | refine SubL.cons ?_ ?_ | refine Sub.sl _ ?_ | exact SubE.nil | refine SubE.cons ?_ ?_))
def z3y (yl_l : Nat) (yl_T : Array Value) (m4 : z02) (m3 : z00) (m2 : z0h) (x1 : z0d) (v1_0 : Int × (List z00) × (List z03)) : AS := ⟨[(0, .yld yl_l yl_T [.any, .any, .any, .any, .any, .any, .any, .any, .ptr 100000 0, .ptr 100001 0]), (1, .ptr 100002 0), (2, .ptr 100003 0), (3, .ptr 100004 0), (5, .ptr 5 0), (39, .sl 17 (List.map z0n (m2.fa.fEdges))), (40, aI ((((List.map z0n (m2.fa.fEdges)).length : Nat) : Int))), (41, aI (v1_0.1))], [(100000, .box 29 [.row 33000001]), (100001, .box 30 [.row 33000003]), (100002, .box 94 [.ref [aI (m2.fa.fVars), aI (m2.fa.fScopes), .sl 1 (List.map z0m (m2.fa.fStates)), .sl 17 (List.map z0n (m2.fa.fEdges)), .mapv (List.map (encM z43 z0a) (m2.fheld))]]), (100003, .box 77 [aI (m3.fState), .sl 4 (List.map z09 (m3.fBindings)), .sl 2 (List.map z07 (m3.fStarts))]), (100004, .box 66 [aI (m4.fSource), aI (m4.fSeq), aI (m4.fType), aI (m4.fTime), .sl 3 (List.map z0c (m4.fValues))]), (5, .box 167 [.sl 1 (List.map (fun q => AV.sl 5 (List.map z0a q)) (x1.fVars))]), (33000001, .row 77 3 (List.map z08 (v1_0.2.1))), (33000003, .row 83 1 (List.map z0j (v1_0.2.2)))]⟩
theorem zgd {n N : Nat} {yl_l : Nat} {yl_R : Obj} {yl_T : Array Value} {m4 : z02} {m3 : z00} {m2 : z0h} {x1 : z0d} {k1_0_0 : (List z00) → (List z03) → Option ((List z00) × (List z03) × z0h × z00 × z02)} {R : Exit → AS → Prop} {K : List z16} {c : Code} {σ : AS} {v0 : Int × (List z00) × (List z03)} {r : (List z00) × (List z03) × z0h × z00 × z02} (hF : z18 n m4 m3 m2 x1 k1_0_0 N v0 = some r) (hl : LeX (E0y yl_l yl_R 4) 67 σ (z3y yl_l yl_T m4 m3 m2 x1 v0)) (round : ∀ m v, z18 n m4 m3 m2 x1 k1_0_0 (m + 1) v = some r → AW (E0y yl_l yl_R 4) 67 (z0v (fun σ' => ∃ v', z18 n m4 m3 m2 x1 k1_0_0 m v' = some r ∧ LeX (E0y yl_l yl_R 4) 67 σ' (z3y yl_l yl_T m4 m3 m2 x1 v')) (AW (E0y yl_l yl_R 4) 67 R K)) [.code c] .normal (z3y yl_l yl_T m4 m3 m2 x1 v)) : z5v (E0y yl_l yl_R 4) 67 (fun next σ' => AW (E0y yl_l yl_R 4) 67 (z0v next (AW (E0y yl_l yl_R 4) 67 R K)) [.code c] .normal σ') σ :=
 LoopA.o (S := z3y yl_l yl_T m4 m3 m2 x1) hF (fun _ => rfl) hl round
def z3x (yl_l : Nat) (yl_T : Array Value) (m4 : z02) (m3 : z00) (m2 : z0h) (x1 : z0d) (v2_1 : Int × (List z00) × (List z03)) : AS := ⟨[(0, .yld yl_l yl_T [.any, .any, .any, .any, .any, .any, .any, .any, .ptr 100000 0, .ptr 100001 0]), (1, .ptr 100002 0), (2, .ptr 100003 0), (3, .ptr 100004 0), (5, .ptr 5 0), (39, .sl 17 (List.map z0n (m2.fa.fEdges))), (40, aI ((((List.map z0n (m2.fa.fEdges)).length : Nat) : Int))), (41, aI (v2_1.1))], [(100000, .box 29 [.row 200000]), (100001, .box 30 [.row 200001]), (100002, .box 94 [.ref [aI (m2.fa.fVars), aI (m2.fa.fScopes), .sl 1 (List.map z0m (m2.fa.fStates)), .sl 17 (List.map z0n (m2.fa.fEdges)), .mapv (List.map (encM z43 z0a) (m2.fheld))]]), (100003, .box 77 [aI (m3.fState), .sl 4 (List.map z09 (m3.fBindings)), .sl 2 (List.map z07 (m3.fStarts))]), (100004, .box 66 [aI (m4.fSource), aI (m4.fSeq), aI (m4.fType), aI (m4.fTime), .sl 3 (List.map z0c (m4.fValues))]), (5, .box 167 [.sl 1 (List.map (fun q => AV.sl 5 (List.map z0a q)) (x1.fVars))]), (200000, .row 77 3 (List.map z08 (v2_1.2.1))), (200001, .row 83 1 (List.map z0j (v2_1.2.2)))]⟩
theorem zgc {n N : Nat} {yl_l : Nat} {yl_R : Obj} {yl_T : Array Value} {m4 : z02} {m3 : z00} {m2 : z0h} {x1 : z0d} {k2_1_0 : (List z00) → (List z03) → Option ((List z00) × (List z03) × z0h × z00 × z02)} {R : Exit → AS → Prop} {K : List z16} {c : Code} {σ : AS} {v0 : Int × (List z00) × (List z03)} {r : (List z00) × (List z03) × z0h × z00 × z02} (hF : z17 n m4 m3 m2 x1 k2_1_0 N v0 = some r) (hl : LeX (E0y yl_l yl_R 4) 67 σ (z3x yl_l yl_T m4 m3 m2 x1 v0)) (round : ∀ m v, z17 n m4 m3 m2 x1 k2_1_0 (m + 1) v = some r → AW (E0y yl_l yl_R 4) 67 (z0v (fun σ' => ∃ v', z17 n m4 m3 m2 x1 k2_1_0 m v' = some r ∧ LeX (E0y yl_l yl_R 4) 67 σ' (z3x yl_l yl_T m4 m3 m2 x1 v')) (AW (E0y yl_l yl_R 4) 67 R K)) [.code c] .normal (z3x yl_l yl_T m4 m3 m2 x1 v)) : z5v (E0y yl_l yl_R 4) 67 (fun next σ' => AW (E0y yl_l yl_R 4) 67 (z0v next (AW (E0y yl_l yl_R 4) 67 R K)) [.code c] .normal σ') σ :=
 LoopA.o (S := z3x yl_l yl_T m4 m3 m2 x1) hF (fun _ => rfl) hl round
def zif (m0 : (List z00)) (m1 : (List z03)) (m2 : z0h) (m3 : z00) (m4 : z02) : List (Nat × Ent) := [(100000, .box 29 [.row 200000]), (200000, .row 77 3 (List.map z08 (m0))), (100001, .box 30 [.row 200001]), (200001, .row 83 1 (List.map z0j (m1))), (100002, .box 94 [.ref [aI (m2.fa.fVars), aI (m2.fa.fScopes), .sl 1 (List.map z0m (m2.fa.fStates)), .sl 17 (List.map z0n (m2.fa.fEdges)), .mapv (List.map (encM z43 z0a) (m2.fheld))]]), (100003, .box 77 [aI (m3.fState), .sl 4 (List.map z09 (m3.fBindings)), .sl 2 (List.map z07 (m3.fStarts))]), (100004, .box 66 [aI (m4.fSource), aI (m4.fSeq), aI (m4.fType), aI (m4.fTime), .sl 3 (List.map z0c (m4.fValues))])]
def z3l (r : (List z00) × (List z03) × z0h × z00 × z02) : List (Nat × Ent) := [(100000, .box 29 [.row 250000]), (250000, .row 77 3 (List.map z08 (r.1))), (100001, .box 30 [.row 250001]), (250001, .row 83 1 (List.map z0j (r.2.1))), (100002, .box 94 [.ref [aI (r.2.2.1.fa.fVars), aI (r.2.2.1.fa.fScopes), .sl 1 (List.map z0m (r.2.2.1.fa.fStates)), .sl 17 (List.map z0n (r.2.2.1.fa.fEdges)), .mapv (List.map (encM z43 z0a) (r.2.2.1.fheld))]]), (100003, .box 77 [aI (r.2.2.2.1.fState), .sl 4 (List.map z09 (r.2.2.2.1.fBindings)), .sl 2 (List.map z07 (r.2.2.2.1.fStarts))]), (100004, .box 66 [aI (r.2.2.2.2.fSource), aI (r.2.2.2.2.fSeq), aI (r.2.2.2.2.fType), aI (r.2.2.2.2.fTime), .sl 3 (List.map z0c (r.2.2.2.2.fValues))])]
def z7g (r : (List z00) × (List z03) × z0h × z00 × z02) : AV := .tup []
def zay (yl_l : Nat) (yl_T : Array Value) (r : (List z00) × (List z03) × z0h × z00 × z02) : AS := ⟨[(0, .yld yl_l yl_T [.any, .any, .any, .any, .any, .any, .any, .any, .ptr 100000 0, .ptr 100001 0]), (1, .ptr 100002 0), (2, .ptr 100003 0), (3, .ptr 100004 0)], z3l r⟩
end Go.Proofs.YtjpknpjjcddnnaaGreat
