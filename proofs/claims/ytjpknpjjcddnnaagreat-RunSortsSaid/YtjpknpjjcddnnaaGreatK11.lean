/- What some functions compute, over plain values. Printed by a program of mine (gen_fun.lean). -/
import Derived.Test.YtjpknpjjcddnnaaGreatK10
set_option linter.unusedVariables false
set_option linter.unusedSimpArgs false
set_option maxRecDepth 100000
set_option maxHeartbeats 8000000
namespace Go.Proofs.YtjpknpjjcddnnaaGreat
open Go.RowKit
structure z01 where
 fKind : Int
 fNum : Int
 fText : ByteArray
deriving DecidableEq, Inhabited
def z0c (x : z01) : AV := .agg [aI (x.fKind), aI (x.fNum), .str (x.fText)]
structure z0f where
 fOp : Int
 fArgs : (List AV)
 fVar : Int
 fField : Int
 fKind : Int
 fValue : z01
deriving Inhabited
def e_api_Expr (x : z0f) : AV := .agg [aI (x.fOp), .sl 8 (List.map idA (x.fArgs)), aI (x.fVar), aI (x.fField), aI (x.fKind), aI (x.fValue.fKind), aI (x.fValue.fNum), .str (x.fValue.fText)]
def z4y : AV → Option z0f
 | .agg [.int .i64 c0, .sl 8 c1, .int .i64 c2, .int .i64 c3, .int .i64 c4, .int .i64 c5, .int .i64 c6, .str c7] => some ⟨c0, c1, c2, c3, c4, ⟨c5, c6, c7⟩⟩
 | _ => none
theorem zcy (a : AV) (y : z0f) (h : z4y a = some y) : a = e_api_Expr y := by
 unfold z4y at h
 split at h
 ·injection h with h; subst h; simp [e_api_Expr, aI, map_idA]
 ·cases h
def z6w (n : Nat) (rF_tidegateref08_Count : z0f → Int → Option (Int)) (a1 : Int) (a0 : z0f) (v1_0 : Int × Int) (k1_0_0 : Int → Option (Int)) (cv1_0 : (Int × Int) → Option (Int)) (w3_1 : Bool) : Option (Int) :=
 cnd (w3_1)
  (idxD z4y a0.fArgs v1_0.2 fun x43 =>
  bnd (rF_tidegateref08_Count x43 a1) fun x44 =>
  cv1_0 ((IntKind.wrap .i64 (v1_0.1 + x44)), (IntKind.wrap .i64 (v1_0.2 + 1))))
 <| k1_0_0 v1_0.1
attribute [irreducible] z6w
def z6v (n : Nat) (rF_tidegateref08_Count : z0f → Int → Option (Int)) (a1 : Int) (a0 : z0f) (k1_0_0 : Int → Option (Int)) : Nat → Int × Int → Option (Int)
 | 0, _ => none
 | mv1_0 + 1, v1_0 =>
   jon (z6w n rF_tidegateref08_Count a1 a0 v1_0 k1_0_0 (z6v n rF_tidegateref08_Count a1 a0 k1_0_0 mv1_0)) <|
   reg <| cnd (decide (v1_0.2 < (((List.map idA (a0.fArgs)).length : Nat) : Int)))
    (z6w n rF_tidegateref08_Count a1 a0 v1_0 k1_0_0 (z6v n rF_tidegateref08_Count a1 a0 k1_0_0 mv1_0) (decide (v1_0.1 ≤ a1)))
   <| z6w n rF_tidegateref08_Count a1 a0 v1_0 k1_0_0 (z6v n rF_tidegateref08_Count a1 a0 k1_0_0 mv1_0) false
def zbh : Nat → z0f → Int → Option (Int)
 | 0, _, _ => none
 | n + 1, a0, a1 =>
 z6v n (zbh n) a1 a0
  (fun k1_0_0y => some k1_0_0y) n (1, 0)
def zec (n : Nat) (rF_tidegateref08_Depth : z0f → Option (Int)) (a0 : z0f) (k1_0_0 : Int → Option (Int)) : Nat → Int × Int → Option (Int)
 | 0, _ => none
 | mv1_0 + 1, v1_0 =>
   cnd (decide (v1_0.2 < (((List.map idA (a0.fArgs)).length : Nat) : Int)))
    (idxD z4y a0.fArgs v1_0.2 fun x42 =>
    bnd (rF_tidegateref08_Depth x42) fun x43 =>
    (zec n rF_tidegateref08_Depth a0 k1_0_0 mv1_0) ((max v1_0.1 x43), (IntKind.wrap .i64 (v1_0.2 + 1))))
   <| k1_0_0 v1_0.1
def zbg : Nat → z0f → Option (Int)
 | 0, _ => none
 | n + 1, a0 =>
 zec n (zbg n) a0
  (fun k1_0_0y => some (IntKind.wrap .i64 (k1_0_0y + 1))) n (0, 0)
def z1l (n : Nat) (w2_1 : Bool) : Option (Int) :=
 cnd (w2_1)
  (some 2)
 <| some (-1)
attribute [irreducible] z1l
def z32 (n : Nat) (a0 : Int) (w1_0 : Bool) : Option (Int) :=
 cnd (w1_0)
  (some 0)
 <| cnd (decide (a0 = 12))
  (some 1)
 <| jon (z1l n) <|
 reg <| cnd (decide (a0 = 5))
  (z1l n (decide (a0 = 5)))
 <| reg <| cnd (decide (a0 = 6))
  (z1l n (decide (a0 = 6)))
 <| reg <| cnd (decide (a0 = 7))
  (z1l n (decide (a0 = 7)))
 <| reg <| cnd (decide (a0 = 8))
  (z1l n (decide (a0 = 8)))
 <| reg <| cnd (decide (a0 = 9))
  (z1l n (decide (a0 = 9)))
 <| reg <| cnd (decide (a0 = 10))
  (z1l n (decide (a0 = 10)))
 <| z1l n (decide (a0 = 11))
attribute [irreducible] z32
def zpo (n : Nat) (a0 : Int) : Option (Int) :=
 jon (z32 n a0) <|
 reg <| cnd (decide (a0 = 0))
  (z32 n a0 (decide (a0 = 0)))
 <| reg <| cnd (decide (a0 = 1))
  (z32 n a0 (decide (a0 = 1)))
 <| reg <| cnd (decide (a0 = 2))
  (z32 n a0 (decide (a0 = 2)))
 <| reg <| cnd (decide (a0 = 3))
  (z32 n a0 (decide (a0 = 3)))
 <| z32 n a0 (decide (a0 = 4))
def z52 (n : Nat) (w1_0 : Bool) (w2_1 : Bool) : Option (Bool × Bool) :=
 some (w2_1, w1_0)
attribute [irreducible] z52
def z7h (n : Nat) (a0 : Int) (w1_0 : Bool) : Option (Bool × Bool) :=
 jon (z52 n w1_0) <|
 reg <| cnd (w1_0)
  (z52 n w1_0 true)
 <| cnd (decide (a0 = 2))
  (z52 n w1_0 true)
 <| z52 n w1_0 (decide (a0 = 3))
attribute [irreducible] z7h
def zqo (n : Nat) (a0 : Int) : Option (Bool × Bool) :=
 jon (z7h n a0) <|
 reg <| cnd (decide (a0 = 1))
  (z7h n a0 true)
 <| z7h n a0 (decide (a0 = 4))
def z91 (n : Nat) (a0 : z01) : Option (Int) :=
 cnd (decide (a0.fKind < 0))
  (some 1)
 <| cnd (decide (2 < a0.fKind))
  (some 1)
 <| cnd (decide (a0.fKind = 2))
  (cnd (!decide (a0.fNum = 0))
    (some 3)
  <| cnd (decide (64 < ((a0.fText.size : Nat) : Int)))
   (some 13)
  <| some 0)
 <| cnd (!(a0.fText.toList == ByteArray.empty.toList))
  (some 3)
 <| cnd (decide (a0.fKind = 1))
  (cnd (decide (a0.fNum < 0))
    (some 2)
  <| cnd (decide (1 < a0.fNum))
   (some 2)
  <| cnd (decide (a0.fNum < (-1099511627776)))
   (some 2)
  <| cnd (decide (1099511627776 < a0.fNum))
   (some 2)
  <| some 0)
 <| cnd (decide (a0.fNum < (-1099511627776)))
  (some 2)
 <| cnd (decide (1099511627776 < a0.fNum))
  (some 2)
 <| some 0
def z3o (n : Nat) (w1_0 : Bool) : Option (Bool) :=
 some w1_0
attribute [irreducible] z3o
def zbi (n : Nat) (a0 : Int) (a1 : z01) : Option (Bool) :=
 jon (z3o n) <|
 reg <| cnd (decide (a1.fKind = 0))
  (z3o n true)
 <| cnd (decide (a0 = 0))
  (z3o n true)
 <| cnd (decide (a0 = 4))
  (z3o n true)
 <| z3o n (decide (a0 = 5))
def z0k (n : Nat) (w6_5 : Bool) : Option (Int) :=
 cnd (w6_5)
  (some 3)
 <| some 0
attribute [irreducible] z0k
def z40 (n : Nat) (a0 : z0f) (x2 : Bool × Bool) (w3_2 : Bool) (w5_4 : Bool) : Option (Int) :=
 cnd (w5_4)
  (some 9)
 <| jon (z0k n) <|
 reg <| cnd (!(x2.1))
  (cnd (!decide (a0.fVar = 0))
    (z0k n true)
  <| cnd (!(x2.2))
   (cnd (!decide (a0.fField = 0))
     (z0k n true)
   <| cnd (!(decide (a0.fOp = 4)))
    (cnd (!decide (a0.fKind = 0))
      (z0k n true)
    <| cnd (!(w3_2))
     (z0k n (!(decide (a0.fValue.fKind = 0) && (decide (a0.fValue.fNum = 0) && ((a0.fValue.fText.toList == ByteArray.empty.toList) && true)))))
    <| z0k n false)
   <| cnd (!(w3_2))
    (z0k n (!(decide (a0.fValue.fKind = 0) && (decide (a0.fValue.fNum = 0) && ((a0.fValue.fText.toList == ByteArray.empty.toList) && true)))))
   <| z0k n false)
  <| cnd (!(decide (a0.fOp = 4)))
   (cnd (!decide (a0.fKind = 0))
     (z0k n true)
   <| cnd (!(w3_2))
    (z0k n (!(decide (a0.fValue.fKind = 0) && (decide (a0.fValue.fNum = 0) && ((a0.fValue.fText.toList == ByteArray.empty.toList) && true)))))
   <| z0k n false)
  <| cnd (!(w3_2))
   (z0k n (!(decide (a0.fValue.fKind = 0) && (decide (a0.fValue.fNum = 0) && ((a0.fValue.fText.toList == ByteArray.empty.toList) && true)))))
  <| z0k n false)
 <| cnd (!(x2.2))
  (cnd (!decide (a0.fField = 0))
    (z0k n true)
  <| cnd (!(decide (a0.fOp = 4)))
   (cnd (!decide (a0.fKind = 0))
     (z0k n true)
   <| cnd (!(w3_2))
    (z0k n (!(decide (a0.fValue.fKind = 0) && (decide (a0.fValue.fNum = 0) && ((a0.fValue.fText.toList == ByteArray.empty.toList) && true)))))
   <| z0k n false)
  <| cnd (!(w3_2))
   (z0k n (!(decide (a0.fValue.fKind = 0) && (decide (a0.fValue.fNum = 0) && ((a0.fValue.fText.toList == ByteArray.empty.toList) && true)))))
  <| z0k n false)
 <| cnd (!(decide (a0.fOp = 4)))
  (cnd (!decide (a0.fKind = 0))
    (z0k n true)
  <| cnd (!(w3_2))
   (z0k n (!(decide (a0.fValue.fKind = 0) && (decide (a0.fValue.fNum = 0) && ((a0.fValue.fText.toList == ByteArray.empty.toList) && true)))))
  <| z0k n false)
 <| cnd (!(w3_2))
  (z0k n (!(decide (a0.fValue.fKind = 0) && (decide (a0.fValue.fNum = 0) && ((a0.fValue.fText.toList == ByteArray.empty.toList) && true)))))
 <| z0k n false
attribute [irreducible] z40
def z7i (n : Nat) (a0 : z0f) (x2 : Bool × Bool) (w3_2 : Bool) (_ : Unit) : Option (Int) :=
 jon (z40 n a0 x2 w3_2) <|
 reg <| cnd (decide (a0.fOp = 4))
  (bnd (zbi n a0.fKind a0.fValue) fun x10 =>
  cnd (!(x10))
   (z40 n a0 x2 w3_2 true)
  <| cnd (decide (a0.fKind = 1))
   (z40 n a0 x2 w3_2 (!(decide (a0.fValue.fKind = 0) && (decide (a0.fValue.fNum = 0) && ((a0.fValue.fText.toList == ByteArray.empty.toList) && true)))))
  <| z40 n a0 x2 w3_2 false)
 <| z40 n a0 x2 w3_2 false
attribute [irreducible] z7i
def z7j (n : Nat) (a0 : z0f) (x2 : Bool × Bool) (w3_2 : Bool) : Option (Int) :=
 jon (z7i n a0 x2 w3_2) <|
 reg <| cnd (w3_2)
  (bnd (z91 n a0.fValue) fun x11 =>
  cnd (!decide (x11 = 0))
   (some x11)
  <| z7i n a0 x2 w3_2 ())
 <| z7i n a0 x2 w3_2 ()
attribute [irreducible] z7j
def z54 (n : Nat) (a0 : z0f) (x2 : Bool × Bool) (w2_1 : Bool) : Option (Int) :=
 cnd (w2_1)
  (some 1)
 <| jon (z7j n a0 x2) <|
 reg <| cnd (decide (a0.fOp = 4))
  (z7j n a0 x2 true)
 <| z7j n a0 x2 (decide (a0.fOp = 0))
attribute [irreducible] z54
def z1g (n : Nat) (a0 : z0f) (x2 : Bool × Bool) (w1_0 : Bool) : Option (Int) :=
 cnd (w1_0)
  (some 2)
 <| jon (z54 n a0 x2) <|
 reg <| cnd (decide (a0.fOp = 4))
  (cnd (decide (a0.fKind < 1))
    (z54 n a0 x2 true)
  <| z54 n a0 x2 (decide (5 < a0.fKind)))
 <| z54 n a0 x2 false
attribute [irreducible] z1g
def zqq (n : Nat) (a0 : z0f) : Option (Int) :=
 bnd (zpo n a0.fOp) fun x1 =>
 cnd (decide (x1 < 0))
  (some 1)
 <| cnd (!decide ((((List.map idA (a0.fArgs)).length : Nat) : Int) = x1))
  (some 15)
 <| bnd (zqo n a0.fOp) fun x2 =>
 jon (z1g n a0 x2) <|
 reg <| cnd (x2.1)
  (cnd (decide (a0.fVar < 0))
    (z1g n a0 x2 true)
  <| cnd (decide (16 ≤ a0.fVar))
   (z1g n a0 x2 true)
  <| cnd (x2.2)
   (cnd (decide (a0.fField < 0))
     (z1g n a0 x2 true)
   <| z1g n a0 x2 (decide (8 ≤ a0.fField)))
  <| z1g n a0 x2 false)
 <| cnd (x2.2)
  (cnd (decide (a0.fField < 0))
    (z1g n a0 x2 true)
  <| z1g n a0 x2 (decide (8 ≤ a0.fField)))
 <| z1g n a0 x2 false
def zeb (n : Nat) (rF_tidegateref08_nodes : z0f → Option (Int)) (a0 : z0f) (k1_0_0 : Option (Int)) : Nat → Int → Option (Int)
 | 0, _ => none
 | mv1_0 + 1, v1_0 =>
   cnd (decide (v1_0 < (((List.map idA (a0.fArgs)).length : Nat) : Int)))
    (idxD z4y a0.fArgs v1_0 fun x42 =>
    bnd (rF_tidegateref08_nodes x42) fun x43 =>
    cnd (!decide (x43 = 0))
     (some x43)
    <| (zeb n rF_tidegateref08_nodes a0 k1_0_0 mv1_0) (IntKind.wrap .i64 (v1_0 + 1)))
   <| k1_0_0
def zhc : Nat → z0f → Option (Int)
 | 0, _ => none
 | n + 1, a0 =>
 bnd (zqq n a0) fun x1 =>
 cnd (!decide (x1 = 0))
  (some x1)
 <| zeb n (zhc n) a0
  (some 0) n 0
def z90 (n : Nat) (a0 : z0f) : Option (Int) :=
 bnd (zbh n a0 64) fun x1 =>
 cnd (decide (64 < x1))
  (some 5)
 <| bnd (zbg n a0) fun x2 =>
 cnd (decide (12 < x2))
  (some 12)
 <| bnd (zhc n a0) fun x3 =>
 some x3
structure z0l where
 fScope : Int
 fType : Int
 fVar : Int
 fCond : z0f
deriving Inhabited
def z0t (x : z0l) : AV := .agg [aI (x.fScope), aI (x.fType), aI (x.fVar), aI (x.fCond.fOp), .sl 8 (List.map idA (x.fCond.fArgs)), aI (x.fCond.fVar), aI (x.fCond.fField), aI (x.fCond.fKind), aI (x.fCond.fValue.fKind), aI (x.fCond.fValue.fNum), .str (x.fCond.fValue.fText)]
structure z74 where
 fGuards : (List z0l)
deriving Inhabited
def z0m (x : z74) : AV := .agg [.sl 11 (List.map z0t (x.fGuards))]
structure z0x where
 fScope : Int
 fSpan : Int
deriving DecidableEq, Inhabited
def z0s (x : z0x) : AV := .agg [aI (x.fScope), aI (x.fSpan)]
structure z0i where
 fFrom : Int
 fTo : Int
 fVar : Int
 fType : Int
 fCond : z0f
 fOpens : (List Int)
 fCloses : (List Int)
 fChecks : (List AV)
 fLimits : (List z0x)
 fInside : (List Int)
deriving Inhabited
def z0n (x : z0i) : AV := .agg [aI (x.fFrom), aI (x.fTo), aI (x.fVar), aI (x.fType), aI (x.fCond.fOp), .sl 8 (List.map idA (x.fCond.fArgs)), aI (x.fCond.fVar), aI (x.fCond.fField), aI (x.fCond.fKind), aI (x.fCond.fValue.fKind), aI (x.fCond.fValue.fNum), .str (x.fCond.fValue.fText), .sl 1 (List.map aI (x.fOpens)), .sl 1 (List.map aI (x.fCloses)), .sl 8 (List.map idA (x.fChecks)), .sl 2 (List.map z0s (x.fLimits)), .sl 1 (List.map aI (x.fInside))]
structure z05 where
 fVars : Int
 fScopes : Int
 fStates : (List z74)
 fEdges : (List z0i)
deriving Inhabited
def z8a (n : Nat) (w1_0 : Bool) : Option (Bool) :=
 some w1_0
attribute [irreducible] z8a
def z1f (n : Nat) (a0 : Int) (a1 : Int) : Option (Bool) :=
 jon (z8a n) <|
 reg <| cnd (decide (a0 < 0))
  (z8a n true)
 <| z8a n (decide (a1 < a0))
def zd9 (n : Nat) (a1 : (List z0l)) (a0 : z05) (v1_0 : Int) (k2_2_0 : Option (Int)) : Nat → Int → Option (Int)
 | 0, _ => none
 | mv2_2 + 1, v2_2 =>
   cnd (decide (v2_2 < v1_0))
    (idx a1 v2_2 fun x90 =>
    idx a1 v1_0 fun x91 =>
    cnd (decide (x90.fScope = x91.fScope))
     (some 7)
    <| (zd9 n a1 a0 v1_0 k2_2_0 mv2_2) (IntKind.wrap .i64 (v2_2 + 1)))
   <| k2_2_0
def z4d (n : Nat) (a1 : (List z0l)) (a0 : z05) (v1_0 : Int) (cv1_0 : Int → Option (Int)) (w3_1 : Bool) : Option (Int) :=
 cnd (w3_1)
  (some 2)
 <| zd9 n a1 a0 v1_0
  (idx a1 v1_0 fun x88 =>
 bnd (z90 n x88.fCond) fun x89 =>
 cnd (!decide (x89 = 0))
  (some x89)
 <| cv1_0 (IntKind.wrap .i64 (v1_0 + 1))) n 0
attribute [irreducible] z4d
def z4c (n : Nat) (a1 : (List z0l)) (a0 : z05) (k1_0_0 : Option (Int)) : Nat → Int → Option (Int)
 | 0, _ => none
 | mv1_0 + 1, v1_0 =>
   cnd (decide (v1_0 < (((List.map z0t (a1)).length : Nat) : Int)))
    (jon (z4d n a1 a0 v1_0 (z4c n a1 a0 k1_0_0 mv1_0)) <|
    reg <| idx a1 v1_0 fun x92 =>
    bnd (z1f n x92.fScope (IntKind.wrap .i64 (a0.fScopes - 1))) fun x93 =>
    cnd (x93)
     (z4d n a1 a0 v1_0 (z4c n a1 a0 k1_0_0 mv1_0) true)
    <| idx a1 v1_0 fun x94 =>
    bnd (z1f n x94.fType 15) fun x95 =>
    cnd (x95)
     (z4d n a1 a0 v1_0 (z4c n a1 a0 k1_0_0 mv1_0) true)
    <| idx a1 v1_0 fun x96 =>
    bnd (z1f n x96.fVar (IntKind.wrap .i64 (a0.fVars - 1))) fun x97 =>
    z4d n a1 a0 v1_0 (z4c n a1 a0 k1_0_0 mv1_0) x97)
   <| k1_0_0
def znq (n : Nat) (a0 : z05) (a1 : (List z0l)) : Option (Int) :=
 cnd (decide (64 < (((List.map z0t (a1)).length : Nat) : Int)))
  (some 5)
 <| z4c n a1 a0
  (some 0) n 0
def zd7 (n : Nat) (a1 : Int) (a0 : (List Int)) (v1_0 : Int) (k2_1_0 : Option (Int)) : Nat → Int → Option (Int)
 | 0, _ => none
 | mv2_1 + 1, v2_1 =>
   cnd (decide (v2_1 < v1_0))
    (idx a0 v2_1 fun x83 =>
    idx a0 v1_0 fun x84 =>
    cnd (decide (x83 = x84))
     (some 7)
    <| (zd7 n a1 a0 v1_0 k2_1_0 mv2_1) (IntKind.wrap .i64 (v2_1 + 1)))
   <| k2_1_0
def zd8 (n : Nat) (a1 : Int) (a0 : (List Int)) (k1_0_0 : Option (Int)) : Nat → Int → Option (Int)
 | 0, _ => none
 | mv1_0 + 1, v1_0 =>
   cnd (decide (v1_0 < (((List.map aI (a0)).length : Nat) : Int)))
    (idx a0 v1_0 fun x41 =>
    bnd (z1f n x41 (IntKind.wrap .i64 (a1 - 1))) fun x42 =>
    cnd (x42)
     (some 2)
    <| zd7 n a1 a0 v1_0
     ((zd8 n a1 a0 k1_0_0 mv1_0) (IntKind.wrap .i64 (v1_0 + 1))) n 0)
   <| k1_0_0
def znp (n : Nat) (a0 : (List Int)) (a1 : Int) : Option (Int) :=
 zd8 n a1 a0
  (some 0) n 0
def ze5 (n : Nat) (a1 : z0i) (k3_2_0 : Option (Int)) : Nat → Int → Option (Int)
 | 0, _ => none
 | mv3_2 + 1, v3_2 =>
   cnd (decide (v3_2 < (((List.map z0s (a1.fLimits)).length : Nat) : Int)))
    (idx a1.fLimits v3_2 fun x122 =>
    bnd (z1f n x122.fSpan 1099511627776) fun x123 =>
    cnd (x123)
     (some 2)
    <| (ze5 n a1 k3_2_0 mv3_2) (IntKind.wrap .i64 (v3_2 + 1)))
   <| k3_2_0
def ze6 (n : Nat) (a1 : z0i) (a0 : z05) (k1_0_0y : (List Int)) (k2_1_0 : Option (Int)) : Nat → Int → Option (Int)
 | 0, _ => none
 | mv2_1 + 1, v2_1 =>
   cnd (decide (v2_1 < 4))
    (idx ([a1.fOpens, a1.fCloses, a1.fInside, k1_0_0y] : List (List Int)) v2_1 fun x124 =>
    bnd (znp n x124 a0.fScopes) fun x125 =>
    cnd (!decide (x125 = 0))
     (some x125)
    <| (ze6 n a1 a0 k1_0_0y k2_1_0 mv2_1) (IntKind.wrap .i64 (v2_1 + 1)))
   <| k2_1_0
def ze7 (n : Nat) (a1 : z0i) (a0 : z05) (k1_0_0 : (List Int) → Option (Int)) : Nat → Int × (List Int) → Option (Int)
 | 0, _ => none
 | mv1_0 + 1, v1_0 =>
   cnd (decide (v1_0.1 < (((List.map z0s (a1.fLimits)).length : Nat) : Int)))
    (idx a1.fLimits v1_0.1 fun x126 =>
    app v1_0.2 [x126.fScope] 8 fun x127 =>
    (ze7 n a1 a0 k1_0_0 mv1_0) ((IntKind.wrap .i64 (v1_0.1 + 1)), x127))
   <| k1_0_0 v1_0.2
def zpk (n : Nat) (a0 : z05) (a1 : z0i) : Option (Int) :=
 ze7 n a1 a0
  (fun k1_0_0y => frz 7026 <| reg <| ze6 n a1 a0 k1_0_0y
  (ze5 n a1
  (some 0) n 0) n 0) n (0, [])
def zf8 (n : Nat) (a1 : z0i) (a0 : z05) (k1_1_0 : Option (Int)) : Nat → Int → Option (Int)
 | 0, _ => none
 | mv1_1 + 1, v1_1 =>
   cnd (decide (v1_1 < (((List.map idA (a1.fChecks)).length : Nat) : Int)))
    (idxD z4y a1.fChecks v1_1 fun x50 =>
    bnd (z90 n x50) fun x51 =>
    cnd (!decide (x51 = 0))
     (some x51)
    <| (zf8 n a1 a0 k1_1_0 mv1_1) (IntKind.wrap .i64 (v1_1 + 1)))
   <| k1_1_0
def z2l (n : Nat) (a2 : Int) (a1 : z0i) (a0 : z05) (w1_0 : Bool) : Option (Int) :=
 cnd (w1_0)
  (some 2)
 <| cnd (decide (a1.fFrom < a2))
  (some 14)
 <| bnd (z90 n a1.fCond) fun x8 =>
 cnd (!decide (x8 = 0))
  (some x8)
 <| cnd (decide (64 < (((List.map idA (a1.fChecks)).length : Nat) : Int)))
  (some 5)
 <| zf8 n a1 a0
  (bnd (zpk n a0 a1) fun x49 =>
 some x49) n 0
attribute [irreducible] z2l
def zqm (n : Nat) (a0 : z05) (a1 : z0i) (a2 : Int) : Option (Int) :=
 jon (z2l n a2 a1 a0) <|
 reg <| bnd (z1f n a1.fFrom (IntKind.wrap .i64 ((((List.map z0m (a0.fStates)).length : Nat) : Int) - 1))) fun x52 =>
 cnd (x52)
  (z2l n a2 a1 a0 true)
 <| cnd (!decide (a1.fTo = (-1)))
  (bnd (z1f n a1.fTo (IntKind.wrap .i64 ((((List.map z0m (a0.fStates)).length : Nat) : Int) - 1))) fun x53 =>
  cnd (x53)
   (z2l n a2 a1 a0 true)
  <| bnd (z1f n a1.fVar (IntKind.wrap .i64 (a0.fVars - 1))) fun x54 =>
  cnd (x54)
   (z2l n a2 a1 a0 true)
  <| bnd (z1f n a1.fType 15) fun x55 =>
  z2l n a2 a1 a0 x55)
 <| bnd (z1f n a1.fVar (IntKind.wrap .i64 (a0.fVars - 1))) fun x56 =>
 cnd (x56)
  (z2l n a2 a1 a0 true)
 <| bnd (z1f n a1.fType 15) fun x57 =>
 z2l n a2 a1 a0 x57
def ze8 (n : Nat) (a0 : z05) (k2_3_0 : Option (Int)) : Nat → Int × Int → Option (Int)
 | 0, _ => none
 | mv2_3 + 1, v2_3 =>
   cnd (decide (v2_3.2 < (((List.map z0n (a0.fEdges)).length : Nat) : Int)))
    (idx a0.fEdges v2_3.2 fun x85 =>
    bnd (zqm n a0 x85 v2_3.1) fun x86 =>
    cnd (!decide (x86 = 0))
     (some x86)
    <| idx a0.fEdges v2_3.2 fun x87 =>
    (ze8 n a0 k2_3_0 mv2_3) (x87.fFrom, (IntKind.wrap .i64 (v2_3.2 + 1))))
   <| k2_3_0
def ze9 (n : Nat) (a0 : z05) (k1_2_0 : Option (Int)) : Nat → Int → Option (Int)
 | 0, _ => none
 | mv1_2 + 1, v1_2 =>
   cnd (decide (v1_2 < (((List.map z0m (a0.fStates)).length : Nat) : Int)))
    (idx a0.fStates v1_2 fun x88 =>
    bnd (znq n a0 x88.fGuards) fun x89 =>
    cnd (!decide (x89 = 0))
     (some x89)
    <| (ze9 n a0 k1_2_0 mv1_2) (IntKind.wrap .i64 (v1_2 + 1)))
   <| k1_2_0
def z4i (n : Nat) (a0 : z05) (w2_1 : Bool) : Option (Int) :=
 cnd (w2_1)
  (some 5)
 <| ze9 n a0
  (ze8 n a0
  (some 0) n (0, 0)) n 0
attribute [irreducible] z4i
def z6r (n : Nat) (a0 : z05) (w1_0 : Bool) : Option (Int) :=
 cnd (w1_0)
  (some 2)
 <| jon (z4i n a0) <|
 reg <| cnd (decide ((((List.map z0m (a0.fStates)).length : Nat) : Int) < 1))
  (z4i n a0 true)
 <| cnd (decide (256 < (((List.map z0m (a0.fStates)).length : Nat) : Int)))
  (z4i n a0 true)
 <| z4i n a0 (decide (2048 < (((List.map z0n (a0.fEdges)).length : Nat) : Int)))
attribute [irreducible] z6r
def zpl (n : Nat) (a0 : z05) : Option (Int) :=
 jon (z6r n a0) <|
 reg <| bnd (z1f n a0.fVars 16) fun x90 =>
 cnd (x90)
  (z6r n a0 true)
 <| bnd (z1f n a0.fScopes 64) fun x91 =>
 z6r n a0 x91
def zam (n : Nat) (rF_expr_Size : z0f → Option (Int × Int)) (a0 : z0f) (k1_0_0 : Int → Int → Option (Int × Int)) : Nat → Int × Int × Int → Option (Int × Int)
 | 0, _ => none
 | mv1_0 + 1, v1_0 =>
   cnd (decide (v1_0.2.2 < (((List.map idA (a0.fArgs)).length : Nat) : Int)))
    (idxD z4y a0.fArgs v1_0.2.2 fun x43 =>
    bnd (rF_expr_Size x43) fun x44 =>
    (zam n rF_expr_Size a0 k1_0_0 mv1_0) ((IntKind.wrap .i64 (v1_0.1 + x44.1)), (max v1_0.2.1 x44.2), (IntKind.wrap .i64 (v1_0.2.2 + 1))))
   <| k1_0_0 v1_0.1 v1_0.2.1
def zn3 : Nat → z0f → Option (Int × Int)
 | 0, _ => none
 | n + 1, a0 =>
 zam n (zn3 n) a0
  (fun k1_0_0y0 k1_0_0y1 => some (k1_0_0y0, (IntKind.wrap .i64 (k1_0_0y1 + 1)))) n (1, 0, 0)
def z58 (n : Nat) (a0 : Int) (w1_0 : Bool) : Option (Int × Bool) :=
 cnd (w1_0)
  (some (0, false))
 <| cnd (decide (a0 < 5))
  (some (0, true))
 <| cnd (decide (a0 = 12))
  (some (1, true))
 <| some (2, true)
attribute [irreducible] z58
def zpv (n : Nat) (a0 : Int) : Option (Int × Bool) :=
 jon (z58 n a0) <|
 reg <| cnd (decide (a0 < 0))
  (z58 n a0 true)
 <| z58 n a0 (decide (12 < a0))
def z6a (n : Nat) (w2_1 : Bool) : Option (Bool × Bool) :=
 cnd (w2_1)
  (some (true, false))
 <| some (false, false)
attribute [irreducible] z6a
def z6b (n : Nat) (a0 : Int) (w1_0 : Bool) : Option (Bool × Bool) :=
 cnd (w1_0)
  (some (true, true))
 <| jon (z6a n) <|
 reg <| cnd (decide (a0 = 2))
  (z6a n (decide (a0 = 2)))
 <| z6a n (decide (a0 = 3))
attribute [irreducible] z6b
def zrz (n : Nat) (a0 : Int) : Option (Bool × Bool) :=
 jon (z6b n a0) <|
 reg <| cnd (decide (a0 = 1))
  (z6b n a0 (decide (a0 = 1)))
 <| z6b n a0 (decide (a0 = 4))
def ze2 (n : Nat) (a0 : z01) : Option (Int) :=
 cnd (decide (a0.fKind = 0))
  (cnd (decide (a0.fNum < (-1099511627776)))
    (some 2)
  <| cnd (decide (1099511627776 < a0.fNum))
   (some 2)
  <| cnd (decide (a0.fKind = 1))
   (cnd (!decide (a0.fNum = 0))
     (cnd (!decide (a0.fNum = 1))
       (some 2)
     <| cnd (decide (64 < ((a0.fText.size : Nat) : Int)))
      (some 13)
     <| some 0)
   <| cnd (decide (64 < ((a0.fText.size : Nat) : Int)))
    (some 13)
   <| some 0)
  <| cnd (decide (64 < ((a0.fText.size : Nat) : Int)))
   (some 13)
  <| some 0)
 <| cnd (decide (a0.fKind = 1))
  (cnd (!decide (a0.fNum = 0))
    (cnd (!decide (a0.fNum = 1))
      (some 2)
    <| cnd (decide (64 < ((a0.fText.size : Nat) : Int)))
     (some 13)
    <| some 0)
  <| cnd (decide (64 < ((a0.fText.size : Nat) : Int)))
   (some 13)
  <| some 0)
 <| cnd (decide (64 < ((a0.fText.size : Nat) : Int)))
  (some 13)
 <| some 0
def zby (n : Nat) (a0 : z01) : Option (Int) :=
 cnd (decide (a0.fKind = 0))
  (cnd (decide (a0.fKind = 0))
    (cnd (!(a0.fText.toList == ByteArray.empty.toList))
      (some 3)
    <| bnd (ze2 n a0) fun x1 =>
    some x1)
  <| cnd (decide (a0.fKind = 2))
   (cnd (!decide (a0.fNum = 0))
     (some 3)
   <| bnd (ze2 n a0) fun x2 =>
   some x2)
  <| some 1)
 <| cnd (decide (a0.fKind = 1))
  (cnd (!(a0.fText.toList == ByteArray.empty.toList))
    (some 3)
  <| bnd (ze2 n a0) fun x3 =>
  some x3)
 <| cnd (decide (a0.fKind = 2))
  (cnd (!decide (a0.fNum = 0))
    (some 3)
  <| bnd (ze2 n a0) fun x4 =>
  some x4)
 <| some 1
def z4f (n : Nat) (w1_0 : Bool) : Option (Bool) :=
 some w1_0
attribute [irreducible] z4f
def zpu (n : Nat) (a0 : Int) (a1 : z01) : Option (Bool) :=
 jon (z4f n) <|
 reg <| cnd (decide (a1.fKind = 0))
  (z4f n true)
 <| cnd (decide (a0 = 4))
  (z4f n true)
 <| z4f n (decide (a0 = 5))
def z2d (n : Nat) (w1_0 : Bool) : Option (Int) :=
 cnd (w1_0)
  (some 9)
 <| some 0
attribute [irreducible] z2d
def zhn (n : Nat) (a0 : z0f) : Option (Int) :=
 bnd (zby n a0.fValue) fun x1 =>
 cnd (!decide (x1 = 0))
  (some x1)
 <| jon (z2d n) <|
 reg <| cnd (decide (a0.fOp = 4))
  (bnd (zpu n a0.fKind a0.fValue) fun x4 =>
  cnd (!(x4))
   (z2d n true)
  <| cnd (decide (a0.fKind = 1))
   (z2d n (!(decide (a0.fValue.fKind = 0) && (decide (a0.fValue.fNum = 0) && ((a0.fValue.fText.toList == ByteArray.empty.toList) && true)))))
  <| z2d n false)
 <| z2d n false
def z0r (n : Nat) (w5_4 : Bool) : Option (Int) :=
 cnd (w5_4)
  (some 3)
 <| some 0
attribute [irreducible] z0r
def z6c (n : Nat) (a0 : z0f) (x2 : Bool × Bool) (w3_2 : Bool) (_ : Unit) : Option (Int) :=
 jon (z0r n) <|
 reg <| cnd (!(x2.1))
  (cnd (!decide (a0.fVar = 0))
    (z0r n true)
  <| cnd (!(x2.2))
   (cnd (!decide (a0.fField = 0))
     (z0r n true)
   <| cnd (!(decide (a0.fOp = 4)))
    (cnd (!decide (a0.fKind = 0))
      (z0r n true)
    <| cnd (!(w3_2))
     (z0r n (!(decide (a0.fValue.fKind = 0) && (decide (a0.fValue.fNum = 0) && ((a0.fValue.fText.toList == ByteArray.empty.toList) && true)))))
    <| z0r n false)
   <| cnd (!(w3_2))
    (z0r n (!(decide (a0.fValue.fKind = 0) && (decide (a0.fValue.fNum = 0) && ((a0.fValue.fText.toList == ByteArray.empty.toList) && true)))))
   <| z0r n false)
  <| cnd (!(decide (a0.fOp = 4)))
   (cnd (!decide (a0.fKind = 0))
     (z0r n true)
   <| cnd (!(w3_2))
    (z0r n (!(decide (a0.fValue.fKind = 0) && (decide (a0.fValue.fNum = 0) && ((a0.fValue.fText.toList == ByteArray.empty.toList) && true)))))
   <| z0r n false)
  <| cnd (!(w3_2))
   (z0r n (!(decide (a0.fValue.fKind = 0) && (decide (a0.fValue.fNum = 0) && ((a0.fValue.fText.toList == ByteArray.empty.toList) && true)))))
  <| z0r n false)
 <| cnd (!(x2.2))
  (cnd (!decide (a0.fField = 0))
    (z0r n true)
  <| cnd (!(decide (a0.fOp = 4)))
   (cnd (!decide (a0.fKind = 0))
     (z0r n true)
   <| cnd (!(w3_2))
    (z0r n (!(decide (a0.fValue.fKind = 0) && (decide (a0.fValue.fNum = 0) && ((a0.fValue.fText.toList == ByteArray.empty.toList) && true)))))
   <| z0r n false)
  <| cnd (!(w3_2))
   (z0r n (!(decide (a0.fValue.fKind = 0) && (decide (a0.fValue.fNum = 0) && ((a0.fValue.fText.toList == ByteArray.empty.toList) && true)))))
  <| z0r n false)
 <| cnd (!(decide (a0.fOp = 4)))
  (cnd (!decide (a0.fKind = 0))
    (z0r n true)
  <| cnd (!(w3_2))
   (z0r n (!(decide (a0.fValue.fKind = 0) && (decide (a0.fValue.fNum = 0) && ((a0.fValue.fText.toList == ByteArray.empty.toList) && true)))))
  <| z0r n false)
 <| cnd (!(w3_2))
  (z0r n (!(decide (a0.fValue.fKind = 0) && (decide (a0.fValue.fNum = 0) && ((a0.fValue.fText.toList == ByteArray.empty.toList) && true)))))
 <| z0r n false
attribute [irreducible] z6c
def z6d (n : Nat) (a0 : z0f) (x2 : Bool × Bool) (w3_2 : Bool) : Option (Int) :=
 jon (z6c n a0 x2 w3_2) <|
 reg <| cnd (w3_2)
  (bnd (zhn n a0) fun x8 =>
  cnd (!decide (x8 = 0))
   (some x8)
  <| z6c n a0 x2 w3_2 ())
 <| z6c n a0 x2 w3_2 ()
attribute [irreducible] z6d
def z4x (n : Nat) (a0 : z0f) (x2 : Bool × Bool) (w2_1 : Bool) : Option (Int) :=
 cnd (w2_1)
  (some 1)
 <| jon (z6d n a0 x2) <|
 reg <| cnd (decide (a0.fOp = 4))
  (z6d n a0 x2 true)
 <| z6d n a0 x2 (decide (a0.fOp = 0))
attribute [irreducible] z4x
def z2v (n : Nat) (a0 : z0f) (x2 : Bool × Bool) (w1_0 : Bool) : Option (Int) :=
 cnd (w1_0)
  (some 2)
 <| jon (z4x n a0 x2) <|
 reg <| cnd (decide (a0.fOp = 4))
  (cnd (decide (a0.fKind < 1))
    (z4x n a0 x2 true)
  <| z4x n a0 x2 (decide (5 < a0.fKind)))
 <| z4x n a0 x2 false
attribute [irreducible] z2v
def zs0 (n : Nat) (a0 : z0f) : Option (Int) :=
 bnd (zpv n a0.fOp) fun x1 =>
 cnd (!(x1.2))
  (some 1)
 <| cnd (!decide ((((List.map idA (a0.fArgs)).length : Nat) : Int) = x1.1))
  (some 15)
 <| bnd (zrz n a0.fOp) fun x2 =>
 jon (z2v n a0 x2) <|
 reg <| cnd (x2.1)
  (cnd (decide (a0.fVar < 0))
    (z2v n a0 x2 true)
  <| cnd (decide (16 ≤ a0.fVar))
   (z2v n a0 x2 true)
  <| cnd (x2.2)
   (cnd (decide (a0.fField < 0))
     (z2v n a0 x2 true)
   <| z2v n a0 x2 (decide (8 ≤ a0.fField)))
  <| z2v n a0 x2 false)
 <| cnd (x2.2)
  (cnd (decide (a0.fField < 0))
    (z2v n a0 x2 true)
  <| z2v n a0 x2 (decide (8 ≤ a0.fField)))
 <| z2v n a0 x2 false
def z9t (n : Nat) (rF_expr_visit : z0f → Option (Int)) (a0 : z0f) (k1_0_0 : Option (Int)) : Nat → Int → Option (Int)
 | 0, _ => none
 | mv1_0 + 1, v1_0 =>
   cnd (decide (v1_0 < (((List.map idA (a0.fArgs)).length : Nat) : Int)))
    (idxD z4y a0.fArgs v1_0 fun x42 =>
    bnd (rF_expr_visit x42) fun x43 =>
    cnd (!decide (x43 = 0))
     (some x43)
    <| (z9t n rF_expr_visit a0 k1_0_0 mv1_0) (IntKind.wrap .i64 (v1_0 + 1)))
   <| k1_0_0
def zkk : Nat → z0f → Option (Int)
 | 0, _ => none
 | n + 1, a0 =>
 bnd (zs0 n a0) fun x1 =>
 cnd (!decide (x1 = 0))
  (some x1)
 <| z9t n (zkk n) a0
  (some 0) n 0
def zeg (n : Nat) (a0 : z0f) : Option (Int) :=
 bnd (zn3 n a0) fun x1 =>
 cnd (decide (64 < x1.1))
  (some 5)
 <| cnd (decide (12 < x1.2))
  (some 12)
 <| bnd (zkk n a0) fun x2 =>
 some x2
def z2r (n : Nat) (w1_0 : Bool) : Option (Bool) :=
 some w1_0
attribute [irreducible] z2r
def z3m (n : Nat) (a0 : Int) (a1 : Int) : Option (Bool) :=
 jon (z2r n) <|
 reg <| cnd (decide (0 ≤ a0))
  (z2r n (decide (a0 < a1)))
 <| z2r n false
def zct (n : Nat) (a0 : z0l) (a1 : z0l) : Option (Bool) :=
 some (decide (a0.fScope = a1.fScope))
def z4k (n : Nat) (a1c0 : z0l) (a0 : (List z0l)) (k1_0_0 : Option (Int)) : Nat → Int → Option (Int)
 | 0, _ => none
 | mv1_0 + 1, v1_0 =>
   cnd (decide (v1_0 < (((List.map z0t (a0)).length : Nat) : Int)))
    (idx a0 v1_0 fun x41 =>
    bnd (zct n x41 a1c0) fun x42 =>
    cnd (x42)
     (some v1_0)
    <| (z4k n a1c0 a0 k1_0_0 mv1_0) (IntKind.wrap .i64 (v1_0 + 1)))
   <| k1_0_0
def zfc (n : Nat) (a0 : (List z0l)) (a1c0 : z0l) : Option (Int) :=
 z4k n a1c0 a0
  (some (-1)) n 0
def zbj (n : Nat) (a0 : (List z0l)) (a1c0 : z0l) : Option (Bool) :=
 bnd (zfc n a0 a1c0) fun x1 =>
 some (decide (0 ≤ x1))
def z28 (n : Nat) (a1 : (List z0l)) (a0 : z05) (v1_0 : Int) (cv1_0 : Int → Option (Int)) (x41 : z0l) (w3_1 : Bool) : Option (Int) :=
 cnd (w3_1)
  (some 2)
 <| sls a1 0 v1_0 fun x46 =>
 bnd (zbj n x46 x41) fun x47 =>
 cnd (x47)
  (some 7)
 <| bnd (zeg n x41.fCond) fun x48 =>
 cnd (!decide (x48 = 0))
  (some x48)
 <| cv1_0 (IntKind.wrap .i64 (v1_0 + 1))
attribute [irreducible] z28
def z2s (n : Nat) (a1 : (List z0l)) (a0 : z05) (k1_0_0 : Option (Int)) : Nat → Int → Option (Int)
 | 0, _ => none
 | mv1_0 + 1, v1_0 =>
   cnd (decide (v1_0 < (((List.map z0t (a1)).length : Nat) : Int)))
    (idx a1 v1_0 fun x41 =>
    jon (z28 n a1 a0 v1_0 (z2s n a1 a0 k1_0_0 mv1_0) x41) <|
    reg <| bnd (z3m n x41.fScope a0.fScopes) fun x49 =>
    cnd (!(x49))
     (z28 n a1 a0 v1_0 (z2s n a1 a0 k1_0_0 mv1_0) x41 true)
    <| bnd (z3m n x41.fType 16) fun x50 =>
    cnd (!(x50))
     (z28 n a1 a0 v1_0 (z2s n a1 a0 k1_0_0 mv1_0) x41 true)
    <| bnd (z3m n x41.fVar a0.fVars) fun x51 =>
    z28 n a1 a0 v1_0 (z2s n a1 a0 k1_0_0 mv1_0) x41 !(x51))
   <| k1_0_0
def zfh (n : Nat) (a0 : z05) (a1 : (List z0l)) : Option (Int) :=
 cnd (decide (64 < (((List.map z0t (a1)).length : Nat) : Int)))
  (some 5)
 <| z2s n a1 a0
  (some 0) n 0
def z4a (n : Nat) (a0 : (List z0x)) (k1_0_0 : (List Int) → Option ((List Int))) : Nat → Int × (List Int) → Option ((List Int))
 | 0, _ => none
 | mv1_0 + 1, v1_0 =>
   cnd (decide (v1_0.1 < (((List.map z0s (a0)).length : Nat) : Int)))
    (idx a0 v1_0.1 fun x42 =>
    app v1_0.2 [x42.fScope] 8 fun x43 =>
    (z4a n a0 k1_0_0 mv1_0) ((IntKind.wrap .i64 (v1_0.1 + 1)), x43))
   <| k1_0_0 v1_0.2
def zdu (n : Nat) (a0 : (List z0x)) : Option ((List Int)) :=
 z4a n a0
  (fun k1_0_0y => some k1_0_0y) n (0, [])
def z7t (n : Nat) (a1 : Int) (a0 : (List Int)) (k1_0_0 : Option (Int)) : Nat → Int → Option (Int)
 | 0, _ => none
 | mv1_0 + 1, v1_0 =>
   cnd (decide (v1_0 < (((List.map aI (a0)).length : Nat) : Int)))
    (idx a0 v1_0 fun x41 =>
    cnd (decide (a1 = x41))
     (some v1_0)
    <| (z7t n a1 a0 k1_0_0 mv1_0) (IntKind.wrap .i64 (v1_0 + 1)))
   <| k1_0_0
def zlb (n : Nat) (a0 : (List Int)) (a1 : Int) : Option (Int) :=
 z7t n a1 a0
  (some (-1)) n 0
def z7u (n : Nat) (a0 : (List Int)) (a1 : Int) : Option (Bool) :=
 bnd (zlb n a0 a1) fun x1 =>
 some (decide (0 ≤ x1))
def z4m (n : Nat) (a1 : (List (List Int))) (a0 : z05) (v1_0 : Int) (x41 : (List Int)) (k2_1_0 : Option (Int)) : Nat → Int → Option (Int)
 | 0, _ => none
 | mv2_1 + 1, v2_1 =>
   cnd (decide (v2_1 < (((List.map aI (x41)).length : Nat) : Int)))
    (idx x41 v2_1 fun x82 =>
    bnd (z3m n x82 a0.fScopes) fun x83 =>
    cnd (!(x83))
     (some 2)
    <| sls x41 0 v2_1 fun x84 =>
    bnd (z7u n x84 x82) fun x85 =>
    cnd (x85)
     (some 7)
    <| (z4m n a1 a0 v1_0 x41 k2_1_0 mv2_1) (IntKind.wrap .i64 (v2_1 + 1)))
   <| k2_1_0
def z4n (n : Nat) (a1 : (List (List Int))) (a0 : z05) (k1_0_0 : Option (Int)) : Nat → Int → Option (Int)
 | 0, _ => none
 | mv1_0 + 1, v1_0 =>
   cnd (decide (v1_0 < (((List.map (fun q => AV.sl 1 (List.map aI q)) (a1)).length : Nat) : Int)))
    (idx a1 v1_0 fun x41 =>
    z4m n a1 a0 v1_0 x41
     ((z4n n a1 a0 k1_0_0 mv1_0) (IntKind.wrap .i64 (v1_0 + 1))) n 0)
   <| k1_0_0
def zfg (n : Nat) (a0 : z05) (a1 : (List (List Int))) : Option (Int) :=
 z4n n a1 a0
  (some 0) n 0
def z2t (n : Nat) (w1_0 : Bool) : Option (Bool) :=
 some w1_0
attribute [irreducible] z2t
def zfi (n : Nat) (a0 : z0x) : Option (Bool) :=
 jon (z2t n) <|
 reg <| cnd (decide (a0.fSpan < 0))
  (z2t n true)
 <| z2t n (decide (1099511627776 < a0.fSpan))
def z3f (n : Nat) (a0 : (List z0x)) (k1_0_0 : Option (Int)) : Nat → Int → Option (Int)
 | 0, _ => none
 | mv1_0 + 1, v1_0 =>
   cnd (decide (v1_0 < (((List.map z0s (a0)).length : Nat) : Int)))
    (idx a0 v1_0 fun x41 =>
    bnd (zfi n x41) fun x42 =>
    cnd (x42)
     (some v1_0)
    <| (z3f n a0 k1_0_0 mv1_0) (IntKind.wrap .i64 (v1_0 + 1)))
   <| k1_0_0
def zaw (n : Nat) (a0 : (List z0x)) : Option (Int) :=
 z3f n a0
  (some (-1)) n 0
def z99 (n : Nat) (a0 : (List z0x)) : Option (Bool) :=
 bnd (zaw n a0) fun x1 =>
 some (decide (0 ≤ x1))
def z5x (n : Nat) (a1 : z0i) (a0 : z05) (k1_1_0 : Option (Int)) : Nat → Int → Option (Int)
 | 0, _ => none
 | mv1_1 + 1, v1_1 =>
   cnd (decide (v1_1 < (((List.map idA (a1.fChecks)).length : Nat) : Int)))
    (idxD z4y a1.fChecks v1_1 fun x49 =>
    bnd (zeg n x49) fun x50 =>
    cnd (!decide (x50 = 0))
     (some x50)
    <| (z5x n a1 a0 k1_1_0 mv1_1) (IntKind.wrap .i64 (v1_1 + 1)))
   <| k1_1_0
def z1v (n : Nat) (a2 : Int) (a1 : z0i) (a0 : z05) (w1_0 : Bool) : Option (Int) :=
 cnd (w1_0)
  (some 2)
 <| cnd (decide (a1.fFrom < a2))
  (some 14)
 <| bnd (zeg n a1.fCond) fun x5 =>
 cnd (!decide (x5 = 0))
  (some x5)
 <| cnd (decide (64 < (((List.map idA (a1.fChecks)).length : Nat) : Int)))
  (some 5)
 <| z5x n a1 a0
  (bnd (zdu n a1.fLimits) fun x46 =>
 bnd (zfg n a0 ([a1.fOpens, a1.fCloses, a1.fInside, x46])) fun x47 =>
 cnd (!decide (x47 = 0))
  (some x47)
 <| bnd (z99 n a1.fLimits) fun x48 =>
 cnd (x48)
  (some 2)
 <| some 0) n 0
attribute [irreducible] z1v
def zho (n : Nat) (a0 : z05) (a1 : z0i) (a2 : Int) : Option (Int) :=
 jon (z1v n a2 a1 a0) <|
 reg <| bnd (z3m n a1.fFrom (((List.map z0m (a0.fStates)).length : Nat) : Int)) fun x51 =>
 cnd (!(x51))
  (z1v n a2 a1 a0 true)
 <| cnd (decide (a1.fTo < (-1)))
  (z1v n a2 a1 a0 true)
 <| cnd (decide ((((List.map z0m (a0.fStates)).length : Nat) : Int) ≤ a1.fTo))
  (z1v n a2 a1 a0 true)
 <| bnd (z3m n a1.fVar a0.fVars) fun x52 =>
 cnd (!(x52))
  (z1v n a2 a1 a0 true)
 <| bnd (z3m n a1.fType 16) fun x53 =>
 z1v n a2 a1 a0 !(x53)
def z5d (n : Nat) (a0 : z05) (k2_3_0 : Option (Int)) : Nat → Int × Int → Option (Int)
 | 0, _ => none
 | mv2_3 + 1, v2_3 =>
   cnd (decide (v2_3.2 < (((List.map z0n (a0.fEdges)).length : Nat) : Int)))
    (idx a0.fEdges v2_3.2 fun x83 =>
    bnd (zho n a0 x83 v2_3.1) fun x84 =>
    cnd (!decide (x84 = 0))
     (some x84)
    <| (z5d n a0 k2_3_0 mv2_3) (x83.fFrom, (IntKind.wrap .i64 (v2_3.2 + 1))))
   <| k2_3_0
def z5e (n : Nat) (a0 : z05) (k1_2_0 : Option (Int)) : Nat → Int → Option (Int)
 | 0, _ => none
 | mv1_2 + 1, v1_2 =>
   cnd (decide (v1_2 < (((List.map z0m (a0.fStates)).length : Nat) : Int)))
    (idx a0.fStates v1_2 fun x85 =>
    bnd (zfh n a0 x85.fGuards) fun x86 =>
    cnd (!decide (x86 = 0))
     (some x86)
    <| (z5e n a0 k1_2_0 mv1_2) (IntKind.wrap .i64 (v1_2 + 1)))
   <| k1_2_0
def z2h (n : Nat) (a0 : z05) (w2_1 : Bool) : Option (Int) :=
 cnd (w2_1)
  (some 5)
 <| z5e n a0
  (z5d n a0
  (some 0) n (0, 0)) n 0
attribute [irreducible] z2h
def z1w (n : Nat) (a0 : z05) (w1_0 : Bool) : Option (Int) :=
 cnd (w1_0)
  (some 2)
 <| jon (z2h n a0) <|
 reg <| cnd (decide ((((List.map z0m (a0.fStates)).length : Nat) : Int) < 1))
  (z2h n a0 true)
 <| cnd (decide (256 < (((List.map z0m (a0.fStates)).length : Nat) : Int)))
  (z2h n a0 true)
 <| z2h n a0 (decide (2048 < (((List.map z0n (a0.fEdges)).length : Nat) : Int)))
attribute [irreducible] z1w
def zgm (n : Nat) (a0 : z05) : Option (Int) :=
 jon (z1w n a0) <|
 reg <| cnd (decide (a0.fVars < 0))
  (z1w n a0 true)
 <| cnd (decide (16 < a0.fVars))
  (z1w n a0 true)
 <| cnd (decide (a0.fScopes < 0))
  (z1w n a0 true)
 <| z1w n a0 (decide (64 < a0.fScopes))
def z7k (n : Nat) (w1_0 : Bool) : Option (Bool) :=
 some w1_0
attribute [irreducible] z7k
def zi3 (n : Nat) (a0 : Int) : Option (Bool) :=
 jon (z7k n) <|
 reg <| cnd (decide (0 ≤ a0))
  (z7k n (decide (a0 ≤ 5)))
 <| z7k n false
structure z0e where
 fKind : Int
 fCount : Int
 fValue : z01
deriving DecidableEq, Inhabited
def z3p (n : Nat) (w3_2 : Bool) : Option (Int) :=
 cnd (w3_2)
  (some 3)
 <| some 0
attribute [irreducible] z3p
def z6x (n : Nat) (w4_3 : Bool) : Option (Int) :=
 cnd (w4_3)
  (some 3)
 <| some 0
attribute [irreducible] z6x
def z6y (n : Nat) (a0 : z0e) (w2_1 : Bool) : Option (Int) :=
 cnd (w2_1)
  (cnd (!(decide (a0.fValue.fKind = 0) && (decide (a0.fValue.fNum = 0) && ((a0.fValue.fText.toList == ByteArray.empty.toList) && true))))
    (some 3)
  <| some 0)
 <| cnd (decide (a0.fKind = 1))
  (jon (z3p n) <|
  reg <| cnd (!decide (a0.fValue.fKind = 0))
   (z3p n true)
  <| cnd (!(a0.fValue.fText.toList == ByteArray.empty.toList))
   (z3p n true)
  <| cnd (decide (a0.fValue.fNum < (IntKind.wrap .i64 (0 - (IntKind.wrap .i64 (a0.fCount * 1099511627776))))))
   (z3p n true)
  <| z3p n (decide ((IntKind.wrap .i64 (a0.fCount * 1099511627776)) < a0.fValue.fNum)))
 <| jon (z6x n) <|
 reg <| bnd (z91 n a0.fValue) fun x8 =>
 cnd (!decide (x8 = 0))
  (z6x n true)
 <| bnd (zbi n a0.fKind a0.fValue) fun x9 =>
 z6x n !(x9)
attribute [irreducible] z6y
def z6z (n : Nat) (a0 : z0e) (w1_0 : Bool) : Option (Int) :=
 cnd (w1_0)
  (some 2)
 <| jon (z6y n a0) <|
 reg <| cnd (decide (a0.fCount = 0))
  (z6y n a0 true)
 <| z6y n a0 (decide (a0.fKind = 0))
attribute [irreducible] z6z
def zhf (n : Nat) (a0 : z0e) : Option (Int) :=
 bnd (zi3 n a0.fKind) fun x1 =>
 cnd (!(x1))
  (some 1)
 <| jon (z6z n a0) <|
 reg <| cnd (decide (a0.fCount < 0))
  (z6z n a0 true)
 <| z6z n a0 (decide (4096 < a0.fCount))
def zhd (n : Nat) (a0 : Int) (a1 : z01) : Option (Int) :=
 bnd (z91 n a1) fun x1 =>
 cnd (!decide (x1 = 0))
  (some x1)
 <| bnd (zbi n a0 a1) fun x2 =>
 cnd (!(x2))
  (some 9)
 <| some 0
def zmy (n : Nat) (a0 : Int) (a1 : z01) (a2 : z01) : Option (z01) :=
 cnd (decide (a0 = 1))
  (some (⟨0, (IntKind.wrap .i64 (a1.fNum + a2.fNum)), ByteArray.empty⟩))
 <| cnd (decide (a0 = 2))
  (some (⟨0, (min a1.fNum a2.fNum), ByteArray.empty⟩))
 <| cnd (decide (a0 = 3))
  (some (⟨0, (max a1.fNum a2.fNum), ByteArray.empty⟩))
 <| cnd (decide (a0 = 4))
  (some a1)
 <| cnd (decide (a0 = 5))
  (some a2)
 <| some (⟨0, 0, ByteArray.empty⟩)
def z5r (n : Nat) (a0 : z0e) (w1_0 : Int × Int × ByteArray) : Option (z0e × Int) :=
 some (⟨a0.fKind, (IntKind.wrap .i64 (a0.fCount + 1)), ⟨w1_0.1, w1_0.2.1, w1_0.2.2⟩⟩, 0)
attribute [irreducible] z5r
def zrw (n : Nat) (a0 : z0e) (a1 : z01) : Option (z0e × Int) :=
 bnd (zhf n a0) fun x1 =>
 cnd (!decide (x1 = 0))
  (some (⟨0, 0, ⟨0, 0, ByteArray.empty⟩⟩, x1))
 <| bnd (zhd n a0.fKind a1) fun x2 =>
 cnd (!decide (x2 = 0))
  (some (⟨0, 0, ⟨0, 0, ByteArray.empty⟩⟩, x2))
 <| cnd (decide (a0.fCount = 4096))
  (some (⟨0, 0, ⟨0, 0, ByteArray.empty⟩⟩, 5))
 <| jon (z5r n a0) <|
 reg <| cnd (decide (a0.fKind = 0))
  (z5r n a0 (0, 0, ByteArray.empty))
 <| reg <| cnd (decide (0 < a0.fCount))
  (bnd (zmy n a0.fKind a0.fValue a1) fun x7 =>
  z5r n a0 (x7.fKind, x7.fNum, x7.fText))
 <| z5r n a0 (a1.fKind, a1.fNum, a1.fText)
def z69 (n : Nat) (a1 : z01) (a0 : z0e) (w1_0 : Bool) : Option (z01 × Int) :=
 cnd (w1_0)
  (some (a1, 0))
 <| some (a0.fValue, 0)
attribute [irreducible] z69
def znt (n : Nat) (a0 : z0e) (a1 : z01) : Option (z01 × Int) :=
 bnd (zhf n a0) fun x1 =>
 cnd (!decide (x1 = 0))
  (some (⟨0, 0, ByteArray.empty⟩, x1))
 <| bnd (zhd n a0.fKind a1) fun x2 =>
 cnd (!decide (x2 = 0))
  (some (⟨0, 0, ByteArray.empty⟩, x2))
 <| cnd (decide (a0.fKind = 0))
  (some (⟨0, a0.fCount, ByteArray.empty⟩, 0))
 <| jon (z69 n a1 a0) <|
 reg <| cnd (decide (a0.fCount = 0))
  (z69 n a1 a0 (!decide (a0.fKind = 1)))
 <| z69 n a1 a0 false
def zhe (n : Nat) (a2 : z01) (a1 : (List z01)) (k1_0_0 : Int → Int → Int → Int → ByteArray → Option (z01 × Int)) : Nat → Int × Int × Int × Int × Int × ByteArray → Option (z01 × Int)
 | 0, _ => none
 | mv1_0 + 1, v1_0 =>
   cnd (decide (v1_0.1 < (((List.map z0c (a1)).length : Nat) : Int)))
    (idx a1 v1_0.1 fun x48 =>
    bnd (zrw n (⟨v1_0.2.1, v1_0.2.2.1, ⟨v1_0.2.2.2.1, v1_0.2.2.2.2.1, v1_0.2.2.2.2.2⟩⟩ : z0e) x48) fun x49 =>
    cnd (!decide (x49.2 = 0))
     (some (⟨0, 0, ByteArray.empty⟩, x49.2))
    <| (zhe n a2 a1 k1_0_0 mv1_0) ((IntKind.wrap .i64 (v1_0.1 + 1)), x49.1.fKind, x49.1.fCount, x49.1.fValue.fKind, x49.1.fValue.fNum, x49.1.fValue.fText))
   <| k1_0_0 v1_0.2.1 v1_0.2.2.1 v1_0.2.2.2.1 v1_0.2.2.2.2.1 v1_0.2.2.2.2.2
def zsx (n : Nat) (a0 : Int) (a1 : (List z01)) (a2 : z01) : Option (z01 × Int) :=
 bnd (zi3 n a0) fun x1 =>
 cnd (!(x1))
  (some (⟨0, 0, ByteArray.empty⟩, 1))
 <| cnd (decide (4096 < (((List.map z0c (a1)).length : Nat) : Int)))
  (some (⟨0, 0, ByteArray.empty⟩, 5))
 <| zhe n a2 a1
  (fun k1_0_0y0 k1_0_0y1 k1_0_0y2 k1_0_0y3 k1_0_0y4 => bnd (znt n (⟨k1_0_0y0, k1_0_0y1, ⟨k1_0_0y2, k1_0_0y3, k1_0_0y4⟩⟩ : z0e) a2) fun x47 =>
 some (x47.1, x47.2)) n (0, a0, 0, 0, 0, ByteArray.empty)
structure z02 where
 fSource : Int
 fSeq : Int
 fType : Int
 fTime : Int
 fValues : (List z01)
deriving DecidableEq, Inhabited
def z0a (x : z02) : AV := .agg [aI (x.fSource), aI (x.fSeq), aI (x.fType), aI (x.fTime), .sl 3 (List.map z0c (x.fValues))]
structure z0d where
 fVars : (List (List z02))
deriving DecidableEq, Inhabited
def z68 (n : Nat) (a1 : Int) (a0 : z0d) (w1_0 : Bool) : Option ((List z02)) :=
 cnd (w1_0)
  (some [])
 <| idx a0.fVars a1 fun x2 =>
 some x2
attribute [irreducible] z68
def zav (n : Nat) (a0 : z0d) (a1 : Int) : Option ((List z02)) :=
 jon (z68 n a1 a0) <|
 reg <| cnd (decide (a1 < 0))
  (z68 n a1 a0 true)
 <| z68 n a1 a0 (decide ((((List.map (fun q => AV.sl 5 (List.map z0a q)) (a0.fVars)).length : Nat) : Int) ≤ a1))
def zqr (n : Nat) (a0 : z0d) (a1 : Int) (a2 : Int) (a3 : z02) : Option (z02 × Bool) :=
 cnd (decide (a1 = a2))
  (some (a3, true))
 <| bnd (zav n (⟨a0.fVars⟩ : z0d) a1) fun x1 =>
 cnd (decide ((((List.map z0a (x1)).length : Nat) : Int) = 0))
  (some (⟨0, 0, 0, 0, []⟩, false))
 <| idx x1 (IntKind.wrap .i64 ((((List.map z0a (x1)).length : Nat) : Int) - 1)) fun x2 =>
 some (x2, true)
def zf9 (n : Nat) (a0 : z0f) (x2 : (List z02)) (k1_0_0 : (List z01) → Option (z01 × Int)) : Nat → Int × (List z01) → Option (z01 × Int)
 | 0, _ => none
 | mv1_0 + 1, v1_0 =>
   cnd (decide (v1_0.1 < (((List.map z0a (x2)).length : Nat) : Int)))
    (idx x2 v1_0.1 fun x45 =>
    cnd (decide ((((List.map z0c (x45.fValues)).length : Nat) : Int) ≤ a0.fField))
     (some (⟨0, 0, ByteArray.empty⟩, 6))
    <| idx x2 v1_0.1 fun x46 =>
    idx x46.fValues a0.fField fun x47 =>
    app v1_0.2 [x47] 32 fun x48 =>
    (zf9 n a0 x2 k1_0_0 mv1_0) ((IntKind.wrap .i64 (v1_0.1 + 1)), x48))
   <| k1_0_0 v1_0.2
def zqp (n : Nat) (a0 : z0f) (a1 : z0d) (a2 : Int) (a3 : z02) : Option (z01 × Int) :=
 cnd (decide (a0.fOp = 0))
  (some (a0.fValue, 0))
 <| cnd (decide (a0.fOp = 3))
  (bnd (zav n (⟨a1.fVars⟩ : z0d) a0.fVar) fun x1 =>
  some (⟨0, (((List.map z0a (x1)).length : Nat) : Int), ByteArray.empty⟩, 0))
 <| cnd (decide (a0.fOp = 4))
  (bnd (zav n (⟨a1.fVars⟩ : z0d) a0.fVar) fun x2 =>
  zf9 n a0 x2
   (fun k1_0_0y => bnd (zsx n a0.fKind k1_0_0y a0.fValue) fun x44 =>
  some (x44.1, x44.2)) n (0, []))
 <| bnd (zqr n (⟨a1.fVars⟩ : z0d) a0.fVar a2 a3) fun x49 =>
 cnd (!(x49.2))
  (some (⟨0, 0, ByteArray.empty⟩, 10))
 <| cnd (decide (a0.fOp = 2))
  (some (⟨0, x49.1.fTime, ByteArray.empty⟩, 0))
 <| cnd (decide ((((List.map z0c (x49.1.fValues)).length : Nat) : Int) ≤ a0.fField))
  (some (⟨0, 0, ByteArray.empty⟩, 6))
 <| idx x49.1.fValues a0.fField fun x50 =>
 bnd (z91 n x50) fun x51 =>
 cnd (!decide (x51 = 0))
  (some (⟨0, 0, ByteArray.empty⟩, x51))
 <| idx x49.1.fValues a0.fField fun x52 =>
 some (x52, 0)
def z3t (n : Nat) (w2_1 : Bool) : Option (Int) :=
 cnd (w2_1)
  (some 1)
 <| some (-1)
attribute [irreducible] z3t
def z31 (n : Nat) (a0 : Int) (w1_0 : Bool) : Option (Int) :=
 cnd (w1_0)
  (some 0)
 <| jon (z3t n) <|
 reg <| cnd (decide (a0 = 10))
  (z3t n (decide (a0 = 10)))
 <| reg <| cnd (decide (a0 = 11))
  (z3t n (decide (a0 = 11)))
 <| z3t n (decide (a0 = 12))
attribute [irreducible] z31
def zm9 (n : Nat) (a0 : Int) : Option (Int) :=
 jon (z31 n a0) <|
 reg <| cnd (decide (a0 = 5))
  (z31 n a0 (decide (a0 = 5)))
 <| reg <| cnd (decide (a0 = 6))
  (z31 n a0 (decide (a0 = 6)))
 <| reg <| cnd (decide (a0 = 7))
  (z31 n a0 (decide (a0 = 7)))
 <| z31 n a0 (decide (a0 = 8))
def z2c (n : Nat) (a1 : (List Int)) (a0 : Int) (v1_0 : Int) (cv1_0 : Int → Option (Int)) (w3_1 : Bool) : Option (Int) :=
 cnd (w3_1)
  (some 9)
 <| cv1_0 (IntKind.wrap .i64 (v1_0 + 1))
attribute [irreducible] z2c
def z2b (n : Nat) (a1 : (List Int)) (a0 : Int) (k1_0_0 : Option (Int)) : Nat → Int → Option (Int)
 | 0, _ => none
 | mv1_0 + 1, v1_0 =>
   cnd (decide (v1_0 < (((List.map aI (a1)).length : Nat) : Int)))
    (bnd (zm9 n a0) fun x41 =>
    jon (z2c n a1 a0 v1_0 (z2b n a1 a0 k1_0_0 mv1_0)) <|
    reg <| cnd (decide (0 ≤ x41))
     (idx a1 v1_0 fun x48 =>
     cnd (!decide (x48 = x41))
      (z2c n a1 a0 v1_0 (z2b n a1 a0 k1_0_0 mv1_0) true)
     <| cnd (decide (a0 = 9))
      (idx a1 v1_0 fun x49 =>
      idx a1 0 fun x50 =>
      z2c n a1 a0 v1_0 (z2b n a1 a0 k1_0_0 mv1_0) (!decide (x49 = x50)))
     <| z2c n a1 a0 v1_0 (z2b n a1 a0 k1_0_0 mv1_0) false)
    <| cnd (decide (a0 = 9))
     (idx a1 v1_0 fun x51 =>
     idx a1 0 fun x52 =>
     z2c n a1 a0 v1_0 (z2b n a1 a0 k1_0_0 mv1_0) (!decide (x51 = x52)))
    <| z2c n a1 a0 v1_0 (z2b n a1 a0 k1_0_0 mv1_0) false)
   <| k1_0_0
def zm8 (n : Nat) (a0 : Int) (a1 : (List Int)) : Option (Int) :=
 z2b n a1 a0
  (some 0) n 0
def z1a (n : Nat) (a0 : Bool) : Option (z01) :=
 cnd (a0)
  (some (⟨1, 1, ByteArray.empty⟩))
 <| some (⟨1, 0, ByteArray.empty⟩)
def z6t (n : Nat) (w1_0 : Int × Int × ByteArray) : Option (z01) :=
 some (⟨w1_0.1, w1_0.2.1, w1_0.2.2⟩)
attribute [irreducible] z6t
def z6s (n : Nat) (w2_1 : Int × Int × ByteArray) : Option (z01) :=
 some (⟨w2_1.1, w2_1.2.1, w2_1.2.2⟩)
attribute [irreducible] z6s
def zpp (n : Nat) (a0 : Int) (a1 : (List z01)) : Option (z01) :=
 cnd (decide (a0 = 5))
  (idx a1 0 fun x1 =>
  idx a1 1 fun x2 =>
  some (⟨0, (IntKind.wrap .i64 (x1.fNum + x2.fNum)), ByteArray.empty⟩))
 <| cnd (decide (a0 = 6))
  (idx a1 0 fun x3 =>
  idx a1 1 fun x4 =>
  some (⟨0, (IntKind.wrap .i64 (x3.fNum - x4.fNum)), ByteArray.empty⟩))
 <| cnd (decide (a0 = 7))
  (idx a1 0 fun x5 =>
  idx a1 1 fun x6 =>
  bnd (z1a n (decide (x5.fNum < x6.fNum))) fun x7 =>
  some x7)
 <| cnd (decide (a0 = 8))
  (idx a1 0 fun x8 =>
  idx a1 1 fun x9 =>
  bnd (z1a n (decide (x8.fNum ≤ x9.fNum))) fun x10 =>
  some x10)
 <| cnd (decide (a0 = 9))
  (idx a1 0 fun x11 =>
  idx a1 1 fun x12 =>
  bnd (z1a n (decide (x11.fKind = x12.fKind) && (decide (x11.fNum = x12.fNum) && ((x11.fText.toList == x12.fText.toList) && true)))) fun x13 =>
  some x13)
 <| cnd (decide (a0 = 10))
  (jon (z6t n) <|
  reg <| idx a1 0 fun x21 =>
  cnd (decide (x21.fNum = 1))
   (idx a1 1 fun x22 =>
   bnd (z1a n (decide (x22.fNum = 1))) fun x23 =>
   z6t n (x23.fKind, x23.fNum, x23.fText))
  <| bnd (z1a n false) fun x24 =>
  z6t n (x24.fKind, x24.fNum, x24.fText))
 <| cnd (decide (a0 = 11))
  (jon (z6s n) <|
  reg <| idx a1 0 fun x32 =>
  cnd (decide (x32.fNum = 1))
   (bnd (z1a n true) fun x33 =>
   z6s n (x33.fKind, x33.fNum, x33.fText))
  <| idx a1 1 fun x34 =>
  bnd (z1a n (decide (x34.fNum = 1))) fun x35 =>
  z6s n (x35.fKind, x35.fNum, x35.fText))
 <| idx a1 0 fun x36 =>
 bnd (z1a n (!decide (x36.fNum = 1))) fun x37 =>
 some x37
def zfa (n : Nat) (rF_tidegateref08_eval : z0f → z0d → Int → z02 → Option (z01 × Int)) (a3 : z02) (a2 : Int) (a1 : z0d) (a0 : z0f) (k1_0_0 : (List z01) → (List Int) → Option (z01 × Int)) : Nat → Int × (List z01) × (List Int) → Option (z01 × Int)
 | 0, _ => none
 | mv1_0 + 1, v1_0 =>
   cnd (decide (v1_0.1 < (((List.map idA (a0.fArgs)).length : Nat) : Int)))
    (idxD z4y a0.fArgs v1_0.1 fun x46 =>
    bnd (rF_tidegateref08_eval x46 (⟨a1.fVars⟩ : z0d) a2 a3) fun x47 =>
    cnd (!decide (x47.2 = 0))
     (some (⟨0, 0, ByteArray.empty⟩, x47.2))
    <| app v1_0.2.1 [x47.1] 32 fun x48 =>
    app v1_0.2.2 [x47.1.fKind] 8 fun x49 =>
    (zfa n rF_tidegateref08_eval a3 a2 a1 a0 k1_0_0 mv1_0) ((IntKind.wrap .i64 (v1_0.1 + 1)), x48, x49))
   <| k1_0_0 v1_0.2.1 v1_0.2.2
def zi2 : Nat → z0f → z0d → Int → z02 → Option (z01 × Int)
 | 0, _, _, _, _ => none
 | n + 1, a0, a1, a2, a3 =>
 cnd (decide ((((List.map idA (a0.fArgs)).length : Nat) : Int) = 0))
  (bnd (zqp n a0 (⟨a1.fVars⟩ : z0d) a2 a3) fun x1 =>
  some (x1.1, x1.2))
 <| zfa n (zi2 n) a3 a2 a1 a0
  (fun k1_0_0y0 k1_0_0y1 => bnd (zm8 n a0.fOp k1_0_0y1) fun x44 =>
 cnd (!decide (x44 = 0))
  (some (⟨0, 0, ByteArray.empty⟩, x44))
 <| bnd (zpp n a0.fOp k1_0_0y0) fun x45 =>
 some (x45, 0)) n (0, [], [])
def zqs (n : Nat) (a0 : z0f) (a1 : z0d) (a2 : Int) (a3 : z02) : Option (z01 × Int) :=
 bnd (z90 n a0) fun x1 =>
 cnd (!decide (x1 = 0))
  (some (⟨0, 0, ByteArray.empty⟩, x1))
 <| bnd (zi2 n a0 (⟨a1.fVars⟩ : z0d) a2 a3) fun x2 =>
 some (x2.1, x2.2)
def z6u (n : Nat) (w1_0 : Bool) : Option (Bool) :=
 some w1_0
attribute [irreducible] z6u
def zbf (n : Nat) (a0 : z0f) (a1 : z0d) (a2 : Int) (a3 : z02) : Option (Bool) :=
 bnd (zqs n a0 (⟨a1.fVars⟩ : z0d) a2 a3) fun x1 =>
 jon (z6u n) <|
 reg <| cnd (decide (x1.2 = 0))
  (bnd (z1a n true) fun x4 =>
  z6u n (decide (x1.1.fKind = x4.fKind) && (decide (x1.1.fNum = x4.fNum) && ((x1.1.fText.toList == x4.fText.toList) && true))))
 <| z6u n false
structure z0q where
 fTime : Int
 fSource : Int
 fSeq : Int
deriving DecidableEq, Inhabited
def z43 (x : z0q) : AV := .agg [aI (x.fTime), aI (x.fSource), aI (x.fSeq)]
structure z0g where
 fVar : Int
 fRef : z0q
deriving DecidableEq, Inhabited
def z09 (x : z0g) : AV := .agg [aI (x.fVar), aI (x.fRef.fTime), aI (x.fRef.fSource), aI (x.fRef.fSeq)]
structure z03 where
 fBindings : (List z0g)
deriving DecidableEq, Inhabited
def z0j (x : z03) : AV := .agg [.sl 4 (List.map z09 (x.fBindings))]
def z3u (n : Nat) (a0 : z0q) (a1 : z0q) : Option (Int) :=
 cnd (!decide (a0.fTime = a1.fTime))
  (cnd (decide (a0.fTime < a1.fTime))
    (some (-1))
  <| some 1)
 <| cnd (!decide (a0.fSource = a1.fSource))
  (cnd (decide (a0.fSource < a1.fSource))
    (some (-1))
  <| some 1)
 <| cnd (decide (a0.fSeq < a1.fSeq))
  (some (-1))
 <| cnd (decide (a1.fSeq < a0.fSeq))
  (some 1)
 <| some 0
def z6k (n : Nat) (a0 : z0g) (a1 : z0g) : Option (Int) :=
 bnd (z3u n (⟨a0.fRef.fTime, a0.fRef.fSource, a0.fRef.fSeq⟩ : z0q) (⟨a1.fRef.fTime, a1.fRef.fSource, a1.fRef.fSeq⟩ : z0q)) fun x1 =>
 cnd (!decide (x1 = 0))
  (some x1)
 <| cnd (decide (a0.fVar < a1.fVar))
  (some (-1))
 <| cnd (decide (a1.fVar < a0.fVar))
  (some 1)
 <| some 0
def z15 (n : Nat) (a1 : z03) (a0 : z03) (v1_0 : Int) (k1_0_0 : Option (Int)) (cv1_0 : Int → Option (Int)) (w3_1 : Bool) : Option (Int) :=
 cnd (w3_1)
  (idx a0.fBindings v1_0 fun x42 =>
  idx a1.fBindings v1_0 fun x43 =>
  bnd (z6k n (⟨x42.fVar, ⟨x42.fRef.fTime, x42.fRef.fSource, x42.fRef.fSeq⟩⟩ : z0g) (⟨x43.fVar, ⟨x43.fRef.fTime, x43.fRef.fSource, x43.fRef.fSeq⟩⟩ : z0g)) fun x44 =>
  cnd (!decide (x44 = 0))
   (some x44)
  <| cv1_0 (IntKind.wrap .i64 (v1_0 + 1)))
 <| k1_0_0
attribute [irreducible] z15
def z14 (n : Nat) (a1 : z03) (a0 : z03) (k1_0_0 : Option (Int)) : Nat → Int → Option (Int)
 | 0, _ => none
 | mv1_0 + 1, v1_0 =>
   jon (z15 n a1 a0 v1_0 k1_0_0 (z14 n a1 a0 k1_0_0 mv1_0)) <|
   reg <| cnd (decide (v1_0 < (((List.map z09 (a0.fBindings)).length : Nat) : Int)))
    (z15 n a1 a0 v1_0 k1_0_0 (z14 n a1 a0 k1_0_0 mv1_0) (decide (v1_0 < (((List.map z09 (a1.fBindings)).length : Nat) : Int))))
   <| z15 n a1 a0 v1_0 k1_0_0 (z14 n a1 a0 k1_0_0 mv1_0) false
def z2n (n : Nat) (a0 : z03) (a1 : z03) : Option (Int) :=
 z14 n a1 a0
  (cnd (decide ((((List.map z09 (a0.fBindings)).length : Nat) : Int) < (((List.map z09 (a1.fBindings)).length : Nat) : Int)))
  (some (-1))
 <| cnd (decide ((((List.map z09 (a1.fBindings)).length : Nat) : Int) < (((List.map z09 (a0.fBindings)).length : Nat) : Int)))
  (some 1)
 <| some 0) n 0
structure z04 where
 fScope : Int
 fTime : Int
deriving DecidableEq, Inhabited
def z07 (x : z04) : AV := .agg [aI (x.fScope), aI (x.fTime)]
structure z00 where
 fState : Int
 fBindings : (List z0g)
 fStarts : (List z04)
deriving DecidableEq, Inhabited
def z08 (x : z00) : AV := .agg [aI (x.fState), .sl 4 (List.map z09 (x.fBindings)), .sl 2 (List.map z07 (x.fStarts))]
def z11 (n : Nat) (a1 : z00) (a0 : z00) (v1_0 : Int) (cv1_0 : Int → Option (Int)) (x43 : z04) (x44 : z04) (w6_2 : Bool) : Option (Int) :=
 cnd (w6_2)
  (some (-1))
 <| cnd (!(decide (x43.fScope = x44.fScope) && (decide (x43.fTime = x44.fTime) && true)))
  (some 1)
 <| cv1_0 (IntKind.wrap .i64 (v1_0 + 1))
attribute [irreducible] z11
def z13 (n : Nat) (a1 : z00) (a0 : z00) (v1_0 : Int) (k1_0_0 : Option (Int)) (cv1_0 : Int → Option (Int)) (w5_1 : Bool) : Option (Int) :=
 cnd (w5_1)
  (idx a0.fStarts v1_0 fun x43 =>
  idx a1.fStarts v1_0 fun x44 =>
  jon (z11 n a1 a0 v1_0 cv1_0 x43 x44) <|
  reg <| cnd (decide (x43.fScope < x44.fScope))
   (z11 n a1 a0 v1_0 cv1_0 x43 x44 true)
  <| cnd (decide (x43.fScope = x44.fScope))
   (z11 n a1 a0 v1_0 cv1_0 x43 x44 (decide (x43.fTime < x44.fTime)))
  <| z11 n a1 a0 v1_0 cv1_0 x43 x44 false)
 <| k1_0_0
attribute [irreducible] z13
def z12 (n : Nat) (a1 : z00) (a0 : z00) (k1_0_0 : Option (Int)) : Nat → Int → Option (Int)
 | 0, _ => none
 | mv1_0 + 1, v1_0 =>
   jon (z13 n a1 a0 v1_0 k1_0_0 (z12 n a1 a0 k1_0_0 mv1_0)) <|
   reg <| cnd (decide (v1_0 < (((List.map z07 (a0.fStarts)).length : Nat) : Int)))
    (z13 n a1 a0 v1_0 k1_0_0 (z12 n a1 a0 k1_0_0 mv1_0) (decide (v1_0 < (((List.map z07 (a1.fStarts)).length : Nat) : Int))))
   <| z13 n a1 a0 v1_0 k1_0_0 (z12 n a1 a0 k1_0_0 mv1_0) false
def z2k (n : Nat) (a0 : z00) (a1 : z00) : Option (Int) :=
 cnd (!decide (a0.fState = a1.fState))
  (cnd (decide (a0.fState < a1.fState))
    (some (-1))
  <| some 1)
 <| bnd (z2n n (⟨a0.fBindings⟩ : z03) (⟨a1.fBindings⟩ : z03)) fun x1 =>
 cnd (!decide (x1 = 0))
  (some x1)
 <| z12 n a1 a0
  (cnd (decide ((((List.map z07 (a0.fStarts)).length : Nat) : Int) < (((List.map z07 (a1.fStarts)).length : Nat) : Int)))
  (some (-1))
 <| cnd (decide ((((List.map z07 (a1.fStarts)).length : Nat) : Int) < (((List.map z07 (a0.fStarts)).length : Nat) : Int)))
  (some 1)
 <| some 0) n 0
def z1p (n : Nat) (a1 : z00) (a0 : (List z00)) (k1_0_0y : Int) (w3_1 : Bool) : Option ((List z00)) :=
 cnd (w3_1)
  (some a0)
 <| sls a0 0 k1_0_0y fun x45 =>
 app ([] : List z00) x45 56 fun x46 =>
 app x46 [a1] 56 fun x47 =>
 sls a0 k1_0_0y (((List.map z08 (a0)).length : Nat) : Int) fun x48 =>
 app x47 x48 56 fun x49 =>
 some x49
attribute [irreducible] z1p
def z1o (n : Nat) (a1 : z00) (a0 : (List z00)) (v1_0 : Int) (k1_0_0 : Int → Option ((List z00))) (cv1_0 : Int → Option ((List z00))) (w4_2 : Bool) : Option ((List z00)) :=
 cnd (w4_2)
  (cv1_0 (IntKind.wrap .i64 (v1_0 + 1)))
 <| k1_0_0 v1_0
attribute [irreducible] z1o
def z1n (n : Nat) (a1 : z00) (a0 : (List z00)) (k1_0_0 : Int → Option ((List z00))) : Nat → Int → Option ((List z00))
 | 0, _ => none
 | mv1_0 + 1, v1_0 =>
   jon (z1o n a1 a0 v1_0 k1_0_0 (z1n n a1 a0 k1_0_0 mv1_0)) <|
   reg <| cnd (decide (v1_0 < (((List.map z08 (a0)).length : Nat) : Int)))
    (idx a0 v1_0 fun x55 =>
    bnd (z2k n x55 a1) fun x56 =>
    z1o n a1 a0 v1_0 k1_0_0 (z1n n a1 a0 k1_0_0 mv1_0) (decide (x56 < 0)))
   <| z1o n a1 a0 v1_0 k1_0_0 (z1n n a1 a0 k1_0_0 mv1_0) false
def z3s (n : Nat) (a0 : (List z00)) (a1 : z00) : Option ((List z00)) :=
 z1n n a1 a0
  (fun k1_0_0y => jon (z1p n a1 a0 k1_0_0y) <|
 reg <| cnd (decide (k1_0_0y < (((List.map z08 (a0)).length : Nat) : Int)))
  (idx a0 k1_0_0y fun x50 =>
  bnd (z2k n x50 a1) fun x51 =>
  z1p n a1 a0 k1_0_0y (decide (x51 = 0)))
 <| z1p n a1 a0 k1_0_0y false) n 0
def z2y (n : Nat) (w1_0 : Bool) : Option (Bool) :=
 some w1_0
attribute [irreducible] z2y
def zc3 (n : Nat) (a0 : Int) : Option (Bool) :=
 jon (z2y n) <|
 reg <| cnd (decide (0 ≤ a0))
  (z2y n (decide (a0 ≤ 5)))
 <| z2y n false
def z1x (n : Nat) (w1_0 : Bool) : Option (Bool) :=
 some w1_0
attribute [irreducible] z1x
def zc2 (n : Nat) (a0 : Int) (a1 : z01) : Option (Bool) :=
 jon (z1x n) <|
 reg <| cnd (decide (a1.fKind = 0))
  (z1x n true)
 <| cnd (!decide (a0 = 1))
  (cnd (!decide (a0 = 2))
    (z1x n (!decide (a0 = 3)))
  <| z1x n false)
 <| z1x n false
def zc1 (n : Nat) (a0 : Int) (a1 : z01) : Option (Int) :=
 bnd (zby n a1) fun x1 =>
 cnd (!decide (x1 = 0))
  (some x1)
 <| bnd (zc2 n a0 a1) fun x2 =>
 cnd (!(x2))
  (some 9)
 <| some 0
def zfj (n : Nat) (a0 : Int) (a1 : z01) : Option (z01) :=
 cnd (decide (a0 = 0))
  (some (⟨0, 0, ByteArray.empty⟩))
 <| some a1
def zbs (n : Nat) : Option (z01) :=
 some (⟨0, 0, ByteArray.empty⟩)
def zbr (n : Nat) (m0 : z01) (m1 : z01) : Option (z01 × z01 × z01) :=
 some (⟨0, (IntKind.wrap .i64 (m0.fNum + m1.fNum)), ByteArray.empty⟩, m0, m1)
def zbq (n : Nat) (m0 : z01) (m1 : z01) : Option (z01 × z01 × z01) :=
 some (⟨0, (min m0.fNum m1.fNum), ByteArray.empty⟩, m0, m1)
def zbp (n : Nat) (m0 : z01) (m1 : z01) : Option (z01 × z01 × z01) :=
 some (⟨0, (max m0.fNum m1.fNum), ByteArray.empty⟩, m0, m1)
def zbo (n : Nat) (m0 : z01) : Option (z01 × z01) :=
 some (m0, m0)
def zbn (n : Nat) (m0 : z01) : Option (z01 × z01) :=
 some (m0, m0)
def zdv (n : Nat) (a0 : Int) (a1 : z01) (a2 : z01) : Option (z01) :=
 natc a0 0
  (bnd (zbs n) fun x1 =>
 some x1)
 <| natc a0 1
  (bndM 15 (zbr n a1 a2) fun x2 =>
 some x2.1)
 <| natc a0 2
  (bndM 15 (zbq n a1 a2) fun x3 =>
 some x3.1)
 <| natc a0 3
  (bndM 15 (zbp n a1 a2) fun x4 =>
 some x4.1)
 <| natc a0 4
  (bndM 15 (zbo n a1) fun x5 =>
 some x5.1)
 <| natc a0 5
  (bndM 15 (zbn n a2) fun x6 =>
 some x6.1)
 <| none
def zfk (n : Nat) (a0 : z0e) (a1 : z0e) : Option (z0e) :=
 cnd (decide (a0.fCount = 0))
  (some a1)
 <| cnd (decide (a1.fCount = 0))
  (some a0)
 <| bnd (zdv n a0.fKind a0.fValue a1.fValue) fun x1 =>
 some (⟨a0.fKind, (IntKind.wrap .i64 (a0.fCount + a1.fCount)), x1⟩)
def zhp (n : Nat) (a0 : z0e) (a1 : z01) (a2 : Int) : Option (z0e) :=
 bnd (zfj n a2 a1) fun x1 =>
 bnd (zfk n a0 (⟨a2, 1, x1⟩ : z0e)) fun x2 =>
 some x2
def z4o (n : Nat) (a2c0 : Int) (a1 : (List z01)) (k1_0_0 : Int → Int → Int → Int → ByteArray → Option (z0e)) : Nat → Int × Int × Int × Int × Int × ByteArray → Option (z0e)
 | 0, _ => none
 | mv1_0 + 1, v1_0 =>
   cnd (decide (v1_0.1 < (((List.map z0c (a1)).length : Nat) : Int)))
    (idx a1 v1_0.1 fun x46 =>
    bnd (zhp n (⟨v1_0.2.1, v1_0.2.2.1, ⟨v1_0.2.2.2.1, v1_0.2.2.2.2.1, v1_0.2.2.2.2.2⟩⟩ : z0e) x46 a2c0) fun x47 =>
    (z4o n a2c0 a1 k1_0_0 mv1_0) ((IntKind.wrap .i64 (v1_0.1 + 1)), x47.fKind, x47.fCount, x47.fValue.fKind, x47.fValue.fNum, x47.fValue.fText))
   <| k1_0_0 v1_0.2.1 v1_0.2.2.1 v1_0.2.2.2.1 v1_0.2.2.2.2.1 v1_0.2.2.2.2.2
def zfl (n : Nat) (a0 : z0e) (a1 : (List z01)) (a2c0 : Int) : Option (z0e) :=
 z4o n a2c0 a1
  (fun k1_0_0y0 k1_0_0y1 k1_0_0y2 k1_0_0y3 k1_0_0y4 => some (⟨k1_0_0y0, k1_0_0y1, ⟨k1_0_0y2, k1_0_0y3, k1_0_0y4⟩⟩)) n (0, a0.fKind, a0.fCount, a0.fValue.fKind, a0.fValue.fNum, a0.fValue.fText)
def z2z (n : Nat) (a0 : z0e) (w1_0 : Bool) : Option (Int) :=
 cnd (w1_0)
  (some 2)
 <| reg <| cnd (decide (a0.fCount = 0))
  (cnd (!((decide (a0.fValue.fKind = 0) && (decide (a0.fValue.fNum = 0) && ((a0.fValue.fText.toList == ByteArray.empty.toList) && true)))))
    (some 3)
  <| some 0)
 <| cnd (decide (a0.fKind = 0))
  (cnd (!((decide (a0.fValue.fKind = 0) && (decide (a0.fValue.fNum = 0) && ((a0.fValue.fText.toList == ByteArray.empty.toList) && true)))))
    (some 3)
  <| some 0)
 <| reg <| cnd (decide (a0.fKind = 1))
  (reg <| cnd (decide (a0.fValue.fKind = 0))
    (cnd ((a0.fValue.fText.toList == ByteArray.empty.toList))
      (cnd (decide ((IntKind.wrap .i64 (0 - (IntKind.wrap .i64 (a0.fCount * 1099511627776)))) ≤ a0.fValue.fNum))
        (cnd (!(decide (a0.fValue.fNum ≤ (IntKind.wrap .i64 (a0.fCount * 1099511627776)))))
          (some 3)
        <| some 0)
      <| some 3)
    <| some 3)
  <| some 3)
 <| reg <| bnd (zby n a0.fValue) fun x3 =>
 cnd (decide (x3 = 0))
  (bnd (zc2 n a0.fKind a0.fValue) fun x4 =>
  cnd (!(x4))
   (some 3)
  <| some 0)
 <| some 3
attribute [irreducible] z2z
def zgn (n : Nat) (a0 : z0e) : Option (Int) :=
 bnd (zc3 n a0.fKind) fun x1 =>
 cnd (!(x1))
  (some 1)
 <| jon (z2z n a0) <|
 reg <| cnd (decide (a0.fCount < 0))
  (z2z n a0 true)
 <| z2z n a0 (decide (4096 < a0.fCount))
def z2u (n : Nat) (a1 : z01) (a0 : z0e) (w1_0 : Bool) : Option (z01 × Int) :=
 cnd (w1_0)
  (some (a1, 0))
 <| some (a0.fValue, 0)
attribute [irreducible] z2u
def zfm (n : Nat) (a0 : z0e) (a1 : z01) : Option (z01 × Int) :=
 bnd (zgn n a0) fun x1 =>
 cnd (!decide (x1 = 0))
  (some (⟨0, 0, ByteArray.empty⟩, x1))
 <| bnd (zc1 n a0.fKind a1) fun x2 =>
 cnd (!decide (x2 = 0))
  (some (⟨0, 0, ByteArray.empty⟩, x2))
 <| cnd (decide (a0.fKind = 0))
  (some (⟨0, a0.fCount, ByteArray.empty⟩, 0))
 <| jon (z2u n a1 a0) <|
 reg <| cnd (decide (a0.fCount = 0))
  (z2u n a1 a0 (!decide (a0.fKind = 1)))
 <| z2u n a1 a0 false
def z7w (n : Nat) (a2 : z01) (a1 : (List z01)) (a0 : Int) (k1_0_0 : Option (z01 × Int)) : Nat → Int → Option (z01 × Int)
 | 0, _ => none
 | mv1_0 + 1, v1_0 =>
   cnd (decide (v1_0 < (((List.map z0c (a1)).length : Nat) : Int)))
    (idx a1 v1_0 fun x44 =>
    bnd (zc1 n a0 x44) fun x45 =>
    cnd (!decide (x45 = 0))
     (some (⟨0, 0, ByteArray.empty⟩, x45))
    <| (z7w n a2 a1 a0 k1_0_0 mv1_0) (IntKind.wrap .i64 (v1_0 + 1)))
   <| k1_0_0
def zlf (n : Nat) (a0 : Int) (a1 : (List z01)) (a2 : z01) : Option (z01 × Int) :=
 bnd (zc3 n a0) fun x1 =>
 cnd (!(x1))
  (some (⟨0, 0, ByteArray.empty⟩, 1))
 <| cnd (decide (4096 < (((List.map z0c (a1)).length : Nat) : Int)))
  (some (⟨0, 0, ByteArray.empty⟩, 5))
 <| z7w n a2 a1 a0
  (bnd (zfl n (⟨a0, 0, ⟨0, 0, ByteArray.empty⟩⟩ : z0e) a1 a0) fun x42 =>
 bnd (zfm n x42 a2) fun x43 =>
 some (x43.1, x43.2)) n 0
def zjs (n : Nat) (a0 : Int) : Option (Bool) :=
 some (!decide (a0 = a0))
def z2g (n : Nat) (a0 : Int) (a1 : Int) : Option (Int) :=
 bnd (zjs n a0) fun x1 =>
 bnd (zjs n a1) fun x2 =>
 cnd (x1)
  (cnd (x2)
    (some 0)
  <| some (-1))
 <| cnd (x2)
  (some 1)
 <| cnd (decide (a0 < a1))
  (some (-1))
 <| cnd (decide (a1 < a0))
  (some 1)
 <| some 0
def zbm (n : Nat) (a0 : (List Int)) (k1_0_0 : Option (Int)) : Nat → Int → Option (Int)
 | 0, _ => none
 | mv1_0 + 1, v1_0 =>
   cnd (decide (v1_0 < (((List.map aI (a0)).length : Nat) : Int)))
    (idx a0 v1_0 fun x41 =>
    cnd (!decide (x41 = 0))
     (some x41)
    <| (zbm n a0 k1_0_0 mv1_0) (IntKind.wrap .i64 (v1_0 + 1)))
   <| k1_0_0
def zdg (n : Nat) (a0 : (List Int)) : Option (Int) :=
 zbm n a0
  (some 0) n 0
def zhk (n : Nat) (a0 : z0q) (a1 : z0q) : Option (Int) :=
 bnd (z2g n a0.fTime a1.fTime) fun x1 =>
 bnd (z2g n a0.fSource a1.fSource) fun x2 =>
 bnd (z2g n a0.fSeq a1.fSeq) fun x3 =>
 bnd (zdg n ([x1, x2, x3])) fun x4 =>
 some x4
def z9r (n : Nat) (a0 : z0g) (a1 : z0g) : Option (Int) :=
 bnd (zhk n (⟨a0.fRef.fTime, a0.fRef.fSource, a0.fRef.fSeq⟩ : z0q) (⟨a1.fRef.fTime, a1.fRef.fSource, a1.fRef.fSeq⟩ : z0q)) fun x1 =>
 bnd (z2g n a0.fVar a1.fVar) fun x2 =>
 bnd (zdg n ([x1, x2])) fun x3 =>
 some x3
def z2o (n : Nat) (a1 : (List z0g)) (a0 : (List z0g)) (k1_0_0 : Option (Int)) : Nat → Int → Option (Int)
 | 0, _ => none
 | mv1_0 + 1, v1_0 =>
   cnd (decide (v1_0 < (((List.map z09 (a0)).length : Nat) : Int)))
    (idx a0 v1_0 fun x41 =>
    cnd (decide ((((List.map z09 (a1)).length : Nat) : Int) ≤ v1_0))
     (some 1)
    <| idx a1 v1_0 fun x42 =>
    bnd (z9r n (⟨x41.fVar, ⟨x41.fRef.fTime, x41.fRef.fSource, x41.fRef.fSeq⟩⟩ : z0g) (⟨x42.fVar, ⟨x42.fRef.fTime, x42.fRef.fSource, x42.fRef.fSeq⟩⟩ : z0g)) fun x43 =>
    cnd (!decide (x43 = 0))
     (some x43)
    <| (z2o n a1 a0 k1_0_0 mv1_0) (IntKind.wrap .i64 (v1_0 + 1)))
   <| k1_0_0
def z79 (n : Nat) (a0 : (List z0g)) (a1 : (List z0g)) : Option (Int) :=
 z2o n a1 a0
  (cnd (decide ((((List.map z09 (a0)).length : Nat) : Int) < (((List.map z09 (a1)).length : Nat) : Int)))
  (some (-1))
 <| some 0) n 0
def z9s (n : Nat) (a0 : z03) (a1 : z03) : Option (Int) :=
 bnd (z79 n a0.fBindings a1.fBindings) fun x1 =>
 some x1
def zbl (n : Nat) (a0 : z04) (a1 : z04) : Option (Int) :=
 bnd (z2g n a0.fScope a1.fScope) fun x1 =>
 bnd (z2g n a0.fTime a1.fTime) fun x2 =>
 bnd (zdg n ([x1, x2])) fun x3 =>
 some x3
def z1k (n : Nat) (a1 : (List z04)) (a0 : (List z04)) (k1_0_0 : Option (Int)) : Nat → Int → Option (Int)
 | 0, _ => none
 | mv1_0 + 1, v1_0 =>
   cnd (decide (v1_0 < (((List.map z07 (a0)).length : Nat) : Int)))
    (idx a0 v1_0 fun x41 =>
    cnd (decide ((((List.map z07 (a1)).length : Nat) : Int) ≤ v1_0))
     (some 1)
    <| idx a1 v1_0 fun x42 =>
    bnd (zbl n x41 x42) fun x43 =>
    cnd (!decide (x43 = 0))
     (some x43)
    <| (z1k n a1 a0 k1_0_0 mv1_0) (IntKind.wrap .i64 (v1_0 + 1)))
   <| k1_0_0
def z4l (n : Nat) (a0 : (List z04)) (a1 : (List z04)) : Option (Int) :=
 z1k n a1 a0
  (cnd (decide ((((List.map z07 (a0)).length : Nat) : Int) < (((List.map z07 (a1)).length : Nat) : Int)))
  (some (-1))
 <| some 0) n 0
def zfe (n : Nat) (a0 : z00) (a1 : z00) : Option (Int) :=
 bnd (z2g n a0.fState a1.fState) fun x1 =>
 bnd (z9s n (⟨a0.fBindings⟩ : z03) (⟨a1.fBindings⟩ : z03)) fun x2 =>
 bnd (z4l n a0.fStarts a1.fStarts) fun x3 =>
 bnd (zdg n ([x1, x2, x3])) fun x4 =>
 some x4
def z6l (n : Nat) (w1_0 : Bool) : Option (Bool) :=
 some w1_0
attribute [irreducible] z6l
def F_run_placed (n : Nat) (a0 : z02) : Option (Bool) :=
 jon (z6l n) <|
 reg <| cnd (decide (0 ≤ a0.fTime))
  (cnd (decide (a0.fTime ≤ 1099511627776))
    (cnd (decide (0 ≤ a0.fSource))
      (cnd (decide (a0.fSource < 8))
        (cnd (decide (0 ≤ a0.fSeq))
          (z6l n (decide (a0.fSeq ≤ 1099511627776)))
        <| z6l n false)
      <| z6l n false)
    <| z6l n false)
  <| z6l n false)
 <| z6l n false
def zpr (n : Nat) (a0 : z02) : Option (z0q) :=
 some (⟨a0.fTime, a0.fSource, a0.fSeq⟩)
def F_run_refs (n : Nat) (a0 : z0q) (a1 : z0q) : Option (Int) :=
 bnd (z2g n a0.fTime a1.fTime) fun x1 =>
 bnd (z2g n a0.fSource a1.fSource) fun x2 =>
 bnd (z2g n a0.fSeq a1.fSeq) fun x3 =>
 bnd (zdg n ([x1, x2, x3])) fun x4 =>
 some x4
def F_run_late_1 (n : Nat) (a0 : z0g) (a1 : z02) : Option (Bool) :=
 bnd (zpr n a1) fun x1 =>
 bnd (F_run_refs n (⟨a0.fRef.fTime, a0.fRef.fSource, a0.fRef.fSeq⟩ : z0q) (⟨x1.fTime, x1.fSource, x1.fSeq⟩ : z0q)) fun x2 =>
 some (decide (0 ≤ x2))
def zdb (n : Nat) (a1c0 : z02) (a0 : (List z0g)) (k1_0_0 : Option (Int)) : Nat → Int → Option (Int)
 | 0, _ => none
 | mv1_0 + 1, v1_0 =>
   cnd (decide (v1_0 < (((List.map z09 (a0)).length : Nat) : Int)))
    (idx a0 v1_0 fun x41 =>
    bnd (F_run_late_1 n (⟨x41.fVar, ⟨x41.fRef.fTime, x41.fRef.fSource, x41.fRef.fSeq⟩⟩ : z0g) a1c0) fun x42 =>
    cnd (x42)
     (some v1_0)
    <| (zdb n a1c0 a0 k1_0_0 mv1_0) (IntKind.wrap .i64 (v1_0 + 1)))
   <| k1_0_0
def znv (n : Nat) (a0 : (List z0g)) (a1c0 : z02) : Option (Int) :=
 zdb n a1c0 a0
  (some (-1)) n 0
def zlc (n : Nat) (a0 : (List z0g)) (a1c0 : z02) : Option (Bool) :=
 bnd (znv n a0 a1c0) fun x1 =>
 some (decide (0 ≤ x1))
def F_run_late (n : Nat) (a0 : z00) (a1 : z02) : Option (Bool) :=
 bnd (zlc n a0.fBindings a1) fun x1 =>
 some x1
def F_run_fits_1 (n : Nat) (a0 : z00) (a1 : z02) : Option (Bool) :=
 bnd (F_run_late n a0 a1) fun x1 =>
 some x1
def zdc (n : Nat) (a1c0 : z02) (a0 : (List z00)) (k1_0_0 : Option (Int)) : Nat → Int → Option (Int)
 | 0, _ => none
 | mv1_0 + 1, v1_0 =>
   cnd (decide (v1_0 < (((List.map z08 (a0)).length : Nat) : Int)))
    (idx a0 v1_0 fun x41 =>
    bnd (F_run_fits_1 n x41 a1c0) fun x42 =>
    cnd (x42)
     (some v1_0)
    <| (zdc n a1c0 a0 k1_0_0 mv1_0) (IntKind.wrap .i64 (v1_0 + 1)))
   <| k1_0_0
def znw (n : Nat) (a0 : (List z00)) (a1c0 : z02) : Option (Int) :=
 zdc n a1c0 a0
  (some (-1)) n 0
def zld (n : Nat) (a0 : (List z00)) (a1c0 : z02) : Option (Bool) :=
 bnd (znw n a0 a1c0) fun x1 =>
 some (decide (0 ≤ x1))
def F_run_fits (n : Nat) (a0 : (List z00)) (a1 : z02) : Option (Int) :=
 bnd (F_run_placed n a1) fun x1 =>
 cnd (!(x1))
  (some 2)
 <| bnd (zld n a0 a1) fun x2 =>
 cnd (x2)
  (some 14)
 <| some 0
end Go.Proofs.YtjpknpjjcddnnaaGreat
namespace Go.Proofs.YtjpknpjjcddnnaaGreat
open Go.RowKit
def zff (n : Nat) (a0 : Int) : Option (Bool) :=
 some (!decide (a0 = a0))
def z3v (n : Nat) (a0 : Int) (a1 : Int) : Option (Int) :=
 bnd (zff n a0) fun x1 =>
 bnd (zff n a1) fun x2 =>
 cnd (x1)
  (cnd (x2)
    (some 0)
  <| some (-1))
 <| cnd (x2)
  (some 1)
 <| cnd (decide (a0 < a1))
  (some (-1))
 <| cnd (decide (a1 < a0))
  (some 1)
 <| some 0
def z95 (n : Nat) (a0 : (List Int)) (k1_0_0 : Option (Int)) : Nat → Int → Option (Int)
 | 0, _ => none
 | mv1_0 + 1, v1_0 =>
   cnd (decide (v1_0 < (((List.map aI (a0)).length : Nat) : Int)))
    (idx a0 v1_0 fun x41 =>
    cnd (!decide (x41 = 0))
     (some x41)
    <| (z95 n a0 k1_0_0 mv1_0) (IntKind.wrap .i64 (v1_0 + 1)))
   <| k1_0_0
def zan (n : Nat) (a0 : (List Int)) : Option (Int) :=
 z95 n a0
  (some 0) n 0
def zdd (n : Nat) (a0 : z0q) (a1 : z0q) : Option (Int) :=
 bnd (z3v n a0.fTime a1.fTime) fun x1 =>
 bnd (z3v n a0.fSource a1.fSource) fun x2 =>
 bnd (z3v n a0.fSeq a1.fSeq) fun x3 =>
 bnd (zan n ([x1, x2, x3])) fun x4 =>
 some x4
def z82 (n : Nat) (a0 : z0g) (a1 : z0g) : Option (Int) :=
 bnd (zdd n a0.fRef a1.fRef) fun x1 =>
 bnd (z3v n a0.fVar a1.fVar) fun x2 =>
 bnd (zan n ([x1, x2])) fun x3 =>
 some x3
def z27 (n : Nat) (a1 : (List z0g)) (a0 : (List z0g)) (k1_0_0 : Option (Int)) : Nat → Int → Option (Int)
 | 0, _ => none
 | mv1_0 + 1, v1_0 =>
   cnd (decide (v1_0 < (((List.map z09 (a0)).length : Nat) : Int)))
    (idx a0 v1_0 fun x41 =>
    cnd (decide ((((List.map z09 (a1)).length : Nat) : Int) ≤ v1_0))
     (some 1)
    <| idx a1 v1_0 fun x42 =>
    bnd (z82 n x41 x42) fun x43 =>
    cnd (!decide (x43 = 0))
     (some x43)
    <| (z27 n a1 a0 k1_0_0 mv1_0) (IntKind.wrap .i64 (v1_0 + 1)))
   <| k1_0_0
def z5s (n : Nat) (a0 : (List z0g)) (a1 : (List z0g)) : Option (Int) :=
 z27 n a1 a0
  (cnd (decide ((((List.map z09 (a0)).length : Nat) : Int) < (((List.map z09 (a1)).length : Nat) : Int)))
  (some (-1))
 <| some 0) n 0
def z9q (n : Nat) (a0 : z03) (a1 : z03) : Option (Int) :=
 bnd (z5s n a0.fBindings a1.fBindings) fun x1 =>
 some x1
def z9p (n : Nat) (a0 : z04) (a1 : z04) : Option (Int) :=
 bnd (z3v n a0.fScope a1.fScope) fun x1 =>
 bnd (z3v n a0.fTime a1.fTime) fun x2 =>
 bnd (zan n ([x1, x2])) fun x3 =>
 some x3
def z1e (n : Nat) (a1 : (List z04)) (a0 : (List z04)) (k1_0_0 : Option (Int)) : Nat → Int → Option (Int)
 | 0, _ => none
 | mv1_0 + 1, v1_0 =>
   cnd (decide (v1_0 < (((List.map z07 (a0)).length : Nat) : Int)))
    (idx a0 v1_0 fun x41 =>
    cnd (decide ((((List.map z07 (a1)).length : Nat) : Int) ≤ v1_0))
     (some 1)
    <| idx a1 v1_0 fun x42 =>
    bnd (z9p n x41 x42) fun x43 =>
    cnd (!decide (x43 = 0))
     (some x43)
    <| (z1e n a1 a0 k1_0_0 mv1_0) (IntKind.wrap .i64 (v1_0 + 1)))
   <| k1_0_0
def z4e (n : Nat) (a0 : (List z04)) (a1 : (List z04)) : Option (Int) :=
 z1e n a1 a0
  (cnd (decide ((((List.map z07 (a0)).length : Nat) : Int) < (((List.map z07 (a1)).length : Nat) : Int)))
  (some (-1))
 <| some 0) n 0
def zfd (n : Nat) (a0 : z00) (a1 : z00) : Option (Int) :=
 bnd (z3v n a0.fState a1.fState) fun x1 =>
 bnd (z9q n (⟨a0.fBindings⟩ : z03) (⟨a1.fBindings⟩ : z03)) fun x2 =>
 bnd (z4e n a0.fStarts a1.fStarts) fun x3 =>
 bnd (zan n ([x1, x2, x3])) fun x4 =>
 some x4
end Go.Proofs.YtjpknpjjcddnnaaGreat
