/- What some functions compute, over plain values. Printed by a program of mine (gen_fun.lean). -/
import Derived.Test.YtjpknpjjcddnnaaGreatK17
set_option linter.unusedVariables false
set_option linter.unusedSimpArgs false
set_option maxRecDepth 100000
set_option maxHeartbeats 8000000
namespace Go.Proofs.YtjpknpjjcddnnaaGreat
open Go.RowKit
structure z02 where
 fKind:Int
 fNum:Int
 fText:ByteArray
deriving DecidableEq,Inhabited
def z06 (x:z02):AV:=.agg [aI (x.fKind),aI (x.fNum),.str (x.fText)]
structure z0k where
 fOp:Int
 fArgs:(List AV)
 fVar:Int
 fField:Int
 fKind:Int
 fValue:z02
deriving Inhabited
def z1t (x:z0k):AV:=.agg [aI (x.fOp),.sl 8 (x.fArgs.map idA),aI (x.fVar),aI (x.fField),aI (x.fKind),aI (x.fValue.fKind),aI (x.fValue.fNum),.str (x.fValue.fText)]
def z37:AV->Option z0k
 |.agg [.int .i64 c0,.sl 8 c1,.int .i64 c2,.int .i64 c3,.int .i64 c4,.int .i64 c5,.int .i64 c6,.str c7]=>some ⟨c0,c1,c2,c3,c4,⟨c5,c6,c7⟩⟩
 |_=>none
theorem z6r (a:AV)(y:z0k)(h:z37 a=some y):a=z1t y:=by
 unfold z37 at h
 split at h
 ·injection h with h;subst h;simp [z1t,aI,map_idA]
 ·cases h
theorem zki (y:z0k):z37 (z1t y)=some y:=by simp [z37,z1t,aI,map_idA]
def z41 (n:Nat)(rF_tidegateref08_Count:z0k->Int->Option (Int))(a1:Int)(a0:z0k)(v1_0:Int×Int)(k1_0_0:Int->Option (Int))(cv1_0:(Int×Int)->Option (Int))(w3_1:Bool):Option (Int) :=
 cnd (w3_1)
  (idxD z37 a0.fArgs v1_0.2 fun x43 =>
  bnd (rF_tidegateref08_Count x43 a1) fun x44 =>
  cv1_0 ((IntKind.wrap .i64 (v1_0.1+x44)),(IntKind.wrap .i64 (v1_0.2+1))))
 <| k1_0_0 v1_0.1
attribute [irreducible] z41
def z2o (n:Nat)(rF_tidegateref08_Count:z0k->Int->Option (Int))(a1:Int)(a0:z0k)(k1_0_0:Int->Option (Int)):Nat->Int×Int->Option (Int)
 |0,_=>none
 |mv1_0+1,v1_0 =>
  jon (z41 n rF_tidegateref08_Count a1 a0 v1_0 k1_0_0 (z2o n rF_tidegateref08_Count a1 a0 k1_0_0 mv1_0)) <|
  reg <| cnd (decide (v1_0.2<((a0.fArgs.map idA).length:Int)))
   (z41 n rF_tidegateref08_Count a1 a0 v1_0 k1_0_0 (z2o n rF_tidegateref08_Count a1 a0 k1_0_0 mv1_0) (decide (v1_0.1<=a1)))
  <| z41 n rF_tidegateref08_Count a1 a0 v1_0 k1_0_0 (z2o n rF_tidegateref08_Count a1 a0 k1_0_0 mv1_0) false
def z31:Nat->z0k->Int->Option (Int)
 |0,_,_=>none
 |n+1,a0,a1 =>
 z2o n (z31 n) a1 a0
  (fun k1_0_0y=>some k1_0_0y) n (1,0)
def z68 (n:Nat)(rF_tidegateref08_Depth:z0k->Option (Int))(a0:z0k)(k1_0_0:Int->Option (Int)):Nat->Int×Int->Option (Int)
 |0,_=>none
 |mv1_0+1,v1_0 =>
  cnd (decide (v1_0.2<((a0.fArgs.map idA).length:Int)))
   (idxD z37 a0.fArgs v1_0.2 fun x42 =>
   bnd (rF_tidegateref08_Depth x42) fun x43 =>
   (z68 n rF_tidegateref08_Depth a0 k1_0_0 mv1_0) ((max v1_0.1 x43),(IntKind.wrap .i64 (v1_0.2+1))))
  <| k1_0_0 v1_0.1
def z30:Nat->z0k->Option (Int)
 |0,_=>none
 |n+1,a0 =>
 z68 n (z30 n) a0
  (fun k1_0_0y=>some (IntKind.wrap .i64 (k1_0_0y+1))) n (0,0)
def z19 (n:Nat)(w2_1:Bool):Option (Int) :=
 cnd (w2_1)
  (some 2)
 <| some (-1)
attribute [irreducible] z19
def z1n (n:Nat)(a0:Int)(w1_0:Bool):Option (Int) :=
 cnd (w1_0)
  (some 0)
 <| cnd (decide (a0=12))
  (some 1)
 <| jon (z19 n) <|
 reg <| cnd (decide (a0=5))
  (z19 n (decide (a0=5)))
 <| reg <| cnd (decide (a0=6))
  (z19 n (decide (a0=6)))
 <| reg <| cnd (decide (a0=7))
  (z19 n (decide (a0=7)))
 <| reg <| cnd (decide (a0=8))
  (z19 n (decide (a0=8)))
 <| reg <| cnd (decide (a0=9))
  (z19 n (decide (a0=9)))
 <| reg <| cnd (decide (a0=10))
  (z19 n (decide (a0=10)))
 <| z19 n (decide (a0=11))
attribute [irreducible] z1n
def z9p (n:Nat)(a0:Int):Option (Int) :=
 jon (z1n n a0) <|
 reg <| cnd (decide (a0=0))
  (z1n n a0 (decide (a0=0)))
 <| reg <| cnd (decide (a0=1))
  (z1n n a0 (decide (a0=1)))
 <| reg <| cnd (decide (a0=2))
  (z1n n a0 (decide (a0=2)))
 <| reg <| cnd (decide (a0=3))
  (z1n n a0 (decide (a0=3)))
 <| z1n n a0 (decide (a0=4))
def z2y (n:Nat)(w1_0:Bool)(w2_1:Bool):Option (Bool×Bool) :=
 some (w2_1,w1_0)
attribute [irreducible] z2y
def z4w (n:Nat)(a0:Int)(w1_0:Bool):Option (Bool×Bool) :=
 jon (z2y n w1_0) <|
 reg <| cnd (w1_0)
  (z2y n w1_0 true)
 <| cnd (decide (a0=2))
  (z2y n w1_0 true)
 <| z2y n w1_0 (decide (a0=3))
attribute [irreducible] z4w
def za4 (n:Nat)(a0:Int):Option (Bool×Bool) :=
 jon (z4w n a0) <|
 reg <| cnd (decide (a0=1))
  (z4w n a0 true)
 <| z4w n a0 (decide (a0=4))
def z33 (n:Nat)(a0:z02):Option (Int) :=
 cnd (decide (a0.fKind<0))
  (some 1)
 <| cnd (decide (2<a0.fKind))
  (some 1)
 <| cnd (decide (a0.fKind=2))
  (cnd (!decide (a0.fNum=0))
    (some 3)
  <| cnd (decide (64<((a0.fText.size:Nat):Int)))
   (some 13)
  <| some 0)
 <| cnd (!(a0.fText.toList == ByteArray.empty.toList))
  (some 3)
 <| cnd (decide (a0.fKind=1))
  (cnd (decide (a0.fNum<0))
    (some 2)
  <| cnd (decide (1<a0.fNum))
   (some 2)
  <| cnd (decide (a0.fNum<(-1099511627776)))
   (some 2)
  <| cnd (decide (1099511627776<a0.fNum))
   (some 2)
  <| some 0)
 <| cnd (decide (a0.fNum<(-1099511627776)))
  (some 2)
 <| cnd (decide (1099511627776<a0.fNum))
  (some 2)
 <| some 0
def z1w (n:Nat)(w1_0:Bool):Option (Bool) :=
 some w1_0
attribute [irreducible] z1w
def z6k (n:Nat)(a0:Int)(a1:z02):Option (Bool) :=
 jon (z1w n) <|
 reg <| cnd (decide (a1.fKind=0))
  (z1w n true)
 <| cnd (decide (a0=0))
  (z1w n true)
 <| cnd (decide (a0=4))
  (z1w n true)
 <| z1w n (decide (a0=5))
def z0n (n:Nat)(w6_5:Bool):Option (Int) :=
 cnd (w6_5)
  (some 3)
 <| some 0
attribute [irreducible] z0n
def z28 (n:Nat)(a0:z0k)(x2:Bool×Bool)(w3_2:Bool)(w5_4:Bool):Option (Int) :=
 cnd (w5_4)
  (some 9)
 <| jon (z0n n) <|
 reg <| cnd (!(x2.1))
  (cnd (!decide (a0.fVar=0))
    (z0n n true)
  <| cnd (!(x2.2))
   (cnd (!decide (a0.fField=0))
     (z0n n true)
   <| cnd (!(decide (a0.fOp=4)))
    (cnd (!decide (a0.fKind=0))
      (z0n n true)
    <| cnd (!(w3_2))
     (z0n n (!(decide (a0.fValue.fKind=0) && (decide (a0.fValue.fNum=0) && ((a0.fValue.fText.toList == ByteArray.empty.toList) && true)))))
    <| z0n n false)
   <| cnd (!(w3_2))
    (z0n n (!(decide (a0.fValue.fKind=0) && (decide (a0.fValue.fNum=0) && ((a0.fValue.fText.toList == ByteArray.empty.toList) && true)))))
   <| z0n n false)
  <| cnd (!(decide (a0.fOp=4)))
   (cnd (!decide (a0.fKind=0))
     (z0n n true)
   <| cnd (!(w3_2))
    (z0n n (!(decide (a0.fValue.fKind=0) && (decide (a0.fValue.fNum=0) && ((a0.fValue.fText.toList == ByteArray.empty.toList) && true)))))
   <| z0n n false)
  <| cnd (!(w3_2))
   (z0n n (!(decide (a0.fValue.fKind=0) && (decide (a0.fValue.fNum=0) && ((a0.fValue.fText.toList == ByteArray.empty.toList) && true)))))
  <| z0n n false)
 <| cnd (!(x2.2))
  (cnd (!decide (a0.fField=0))
    (z0n n true)
  <| cnd (!(decide (a0.fOp=4)))
   (cnd (!decide (a0.fKind=0))
     (z0n n true)
   <| cnd (!(w3_2))
    (z0n n (!(decide (a0.fValue.fKind=0) && (decide (a0.fValue.fNum=0) && ((a0.fValue.fText.toList == ByteArray.empty.toList) && true)))))
   <| z0n n false)
  <| cnd (!(w3_2))
   (z0n n (!(decide (a0.fValue.fKind=0) && (decide (a0.fValue.fNum=0) && ((a0.fValue.fText.toList == ByteArray.empty.toList) && true)))))
  <| z0n n false)
 <| cnd (!(decide (a0.fOp=4)))
  (cnd (!decide (a0.fKind=0))
    (z0n n true)
  <| cnd (!(w3_2))
   (z0n n (!(decide (a0.fValue.fKind=0) && (decide (a0.fValue.fNum=0) && ((a0.fValue.fText.toList == ByteArray.empty.toList) && true)))))
  <| z0n n false)
 <| cnd (!(w3_2))
  (z0n n (!(decide (a0.fValue.fKind=0) && (decide (a0.fValue.fNum=0) && ((a0.fValue.fText.toList == ByteArray.empty.toList) && true)))))
 <| z0n n false
attribute [irreducible] z28
def z4x (n:Nat)(a0:z0k)(x2:Bool×Bool)(w3_2:Bool)(_:Unit):Option (Int) :=
 jon (z28 n a0 x2 w3_2) <|
 reg <| cnd (decide (a0.fOp=4))
  (bnd (z6k n a0.fKind a0.fValue) fun x10 =>
  cnd (!(x10))
   (z28 n a0 x2 w3_2 true)
  <| cnd (decide (a0.fKind=1))
   (z28 n a0 x2 w3_2 (!(decide (a0.fValue.fKind=0) && (decide (a0.fValue.fNum=0) && ((a0.fValue.fText.toList == ByteArray.empty.toList) && true)))))
  <| z28 n a0 x2 w3_2 false)
 <| z28 n a0 x2 w3_2 false
attribute [irreducible] z4x
def z4y (n:Nat)(a0:z0k)(x2:Bool×Bool)(w3_2:Bool):Option (Int) :=
 jon (z4x n a0 x2 w3_2) <|
 reg <| cnd (w3_2)
  (bnd (z33 n a0.fValue) fun x11 =>
  cnd (!decide (x11=0))
   (some x11)
  <| z4x n a0 x2 w3_2 ())
 <| z4x n a0 x2 w3_2 ()
attribute [irreducible] z4y
def z2z (n:Nat)(a0:z0k)(x2:Bool×Bool)(w2_1:Bool):Option (Int) :=
 cnd (w2_1)
  (some 1)
 <| jon (z4y n a0 x2) <|
 reg <| cnd (decide (a0.fOp=4))
  (z4y n a0 x2 true)
 <| z4y n a0 x2 (decide (a0.fOp=0))
attribute [irreducible] z2z
def z18 (n:Nat)(a0:z0k)(x2:Bool×Bool)(w1_0:Bool):Option (Int) :=
 cnd (w1_0)
  (some 2)
 <| jon (z2z n a0 x2) <|
 reg <| cnd (decide (a0.fOp=4))
  (cnd (decide (a0.fKind<1))
    (z2z n a0 x2 true)
  <| z2z n a0 x2 (decide (5<a0.fKind)))
 <| z2z n a0 x2 false
attribute [irreducible] z18
def za6 (n:Nat)(a0:z0k):Option (Int) :=
 bnd (z9p n a0.fOp) fun x1 =>
 cnd (decide (x1<0))
  (some 1)
 <| cnd (!decide (((a0.fArgs.map idA).length:Int)=x1))
  (some 15)
 <| bnd (za4 n a0.fOp) fun x2 =>
 jon (z18 n a0 x2) <|
 reg <| cnd (x2.1)
  (cnd (decide (a0.fVar<0))
    (z18 n a0 x2 true)
  <| cnd (decide (16<=a0.fVar))
   (z18 n a0 x2 true)
  <| cnd (x2.2)
   (cnd (decide (a0.fField<0))
     (z18 n a0 x2 true)
   <| z18 n a0 x2 (decide (8<=a0.fField)))
  <| z18 n a0 x2 false)
 <| cnd (x2.2)
  (cnd (decide (a0.fField<0))
    (z18 n a0 x2 true)
  <| z18 n a0 x2 (decide (8<=a0.fField)))
 <| z18 n a0 x2 false
def z67 (n:Nat)(rF_tidegateref08_nodes:z0k->Option (Int))(a0:z0k)(k1_0_0:Option (Int)):Nat->Int->Option (Int)
 |0,_=>none
 |mv1_0+1,v1_0 =>
  cnd (decide (v1_0<((a0.fArgs.map idA).length:Int)))
   (idxD z37 a0.fArgs v1_0 fun x42 =>
   bnd (rF_tidegateref08_nodes x42) fun x43 =>
   cnd (!decide (x43=0))
    (some x43)
   <| (z67 n rF_tidegateref08_nodes a0 k1_0_0 mv1_0) (IntKind.wrap .i64 (v1_0+1)))
  <| k1_0_0
def z49:Nat->z0k->Option (Int)
 |0,_=>none
 |n+1,a0 =>
 bnd (za6 n a0) fun x1 =>
 cnd (!decide (x1=0))
  (some x1)
 <| z67 n (z49 n) a0
  (some 0) n 0
def z2g (n:Nat)(a0:z0k):Option (Int) :=
 bnd (z31 n a0 64) fun x1 =>
 cnd (decide (64<x1))
  (some 5)
 <| bnd (z30 n a0) fun x2 =>
 cnd (decide (12<x2))
  (some 12)
 <| bnd (z49 n a0) fun x3 =>
 some x3
structure z0j where
 fScope:Int
 fType:Int
 fVar:Int
 fCond:z0k
deriving Inhabited
def z0q (x:z0j):AV:=.agg [aI (x.fScope),aI (x.fType),aI (x.fVar),aI (x.fCond.fOp),.sl 8 (x.fCond.fArgs.map idA),aI (x.fCond.fVar),aI (x.fCond.fField),aI (x.fCond.fKind),aI (x.fCond.fValue.fKind),aI (x.fCond.fValue.fNum),.str (x.fCond.fValue.fText)]
structure z2r where
 fGuards:(List z0j)
deriving Inhabited
def z0c (x:z2r):AV:=.agg [.sl 11 (x.fGuards.map z0q)]
structure z0y where
 fScope:Int
 fSpan:Int
deriving DecidableEq,Inhabited
def z0p (x:z0y):AV:=.agg [aI (x.fScope),aI (x.fSpan)]
structure z0h where
 fFrom:Int
 fTo:Int
 fVar:Int
 fType:Int
 fCond:z0k
 fOpens:(List Int)
 fCloses:(List Int)
 fChecks:(List AV)
 fLimits:(List z0y)
 fInside:(List Int)
deriving Inhabited
def z0d (x:z0h):AV:=.agg [aI (x.fFrom),aI (x.fTo),aI (x.fVar),aI (x.fType),aI (x.fCond.fOp),.sl 8 (x.fCond.fArgs.map idA),aI (x.fCond.fVar),aI (x.fCond.fField),aI (x.fCond.fKind),aI (x.fCond.fValue.fKind),aI (x.fCond.fValue.fNum),.str (x.fCond.fValue.fText),.sl 1 (x.fOpens.map aI),.sl 1 (x.fCloses.map aI),.sl 8 (x.fChecks.map idA),.sl 2 (x.fLimits.map z0p),.sl 1 (x.fInside.map aI)]
structure z05 where
 fVars:Int
 fScopes:Int
 fStates:(List z2r)
 fEdges:(List z0h)
deriving Inhabited
def zge (x:z05):AV:=.agg [aI (x.fVars),aI (x.fScopes),.sl 1 (x.fStates.map z0c),.sl 17 (x.fEdges.map z0d)]
def z5n (n:Nat)(w1_0:Bool):Option (Bool) :=
 some w1_0
attribute [irreducible] z5n
def z12 (n:Nat)(a0:Int)(a1:Int):Option (Bool) :=
 jon (z5n n) <|
 reg <| cnd (decide (a0<0))
  (z5n n true)
 <| z5n n (decide (a1<a0))
def z5a (n:Nat)(a1:(List z0j))(a0:z05)(v1_0:Int)(k2_2_0:Option (Int)):Nat->Int->Option (Int)
 |0,_=>none
 |mv2_2+1,v2_2 =>
  cnd (decide (v2_2<v1_0))
   (idx a1 v2_2 fun x90 =>
   idx a1 v1_0 fun x91 =>
   cnd (decide (x90.fScope=x91.fScope))
    (some 7)
   <| (z5a n a1 a0 v1_0 k2_2_0 mv2_2) (IntKind.wrap .i64 (v2_2+1)))
  <| k2_2_0
def z2e (n:Nat)(a1:(List z0j))(a0:z05)(v1_0:Int)(cv1_0:Int->Option (Int))(w3_1:Bool):Option (Int) :=
 cnd (w3_1)
  (some 2)
 <| z5a n a1 a0 v1_0
  (idx a1 v1_0 fun x88 =>
 bnd (z2g n x88.fCond) fun x89 =>
 cnd (!decide (x89=0))
  (some x89)
 <| cv1_0 (IntKind.wrap .i64 (v1_0+1))) n 0
attribute [irreducible] z2e
def z1h (n:Nat)(a1:(List z0j))(a0:z05)(k1_0_0:Option (Int)):Nat->Int->Option (Int)
 |0,_=>none
 |mv1_0+1,v1_0 =>
  cnd (decide (v1_0<((a1.map z0q).length:Int)))
   (jon (z2e n a1 a0 v1_0 (z1h n a1 a0 k1_0_0 mv1_0)) <|
   reg <| idx a1 v1_0 fun x92 =>
   bnd (z12 n x92.fScope (IntKind.wrap .i64 (a0.fScopes-1))) fun x93 =>
   cnd (x93)
    (z2e n a1 a0 v1_0 (z1h n a1 a0 k1_0_0 mv1_0) true)
   <| idx a1 v1_0 fun x94 =>
   bnd (z12 n x94.fType 15) fun x95 =>
   cnd (x95)
    (z2e n a1 a0 v1_0 (z1h n a1 a0 k1_0_0 mv1_0) true)
   <| idx a1 v1_0 fun x96 =>
   bnd (z12 n x96.fVar (IntKind.wrap .i64 (a0.fVars-1))) fun x97 =>
   z2e n a1 a0 v1_0 (z1h n a1 a0 k1_0_0 mv1_0) x97)
  <| k1_0_0
def z97 (n:Nat)(a0:z05)(a1:(List z0j)):Option (Int) :=
 cnd (decide (64<((a1.map z0q).length:Int)))
  (some 5)
 <| z1h n a1 a0
  (some 0) n 0
def z59 (n:Nat)(a1:Int)(a0:(List Int))(v1_0:Int)(k2_1_0:Option (Int)):Nat->Int->Option (Int)
 |0,_=>none
 |mv2_1+1,v2_1 =>
  cnd (decide (v2_1<v1_0))
   (idx a0 v2_1 fun x83 =>
   idx a0 v1_0 fun x84 =>
   cnd (decide (x83=x84))
    (some 7)
   <| (z59 n a1 a0 v1_0 k2_1_0 mv2_1) (IntKind.wrap .i64 (v2_1+1)))
  <| k2_1_0
def z3c (n:Nat)(a1:Int)(a0:(List Int))(k1_0_0:Option (Int)):Nat->Int->Option (Int)
 |0,_=>none
 |mv1_0+1,v1_0 =>
  cnd (decide (v1_0<((a0.map aI).length:Int)))
   (idx a0 v1_0 fun x41 =>
   bnd (z12 n x41 (IntKind.wrap .i64 (a1-1))) fun x42 =>
   cnd (x42)
    (some 2)
   <| z59 n a1 a0 v1_0
    ((z3c n a1 a0 k1_0_0 mv1_0) (IntKind.wrap .i64 (v1_0+1))) n 0)
  <| k1_0_0
def z7l (n:Nat)(a0:(List Int))(a1:Int):Option (Int) :=
 z3c n a1 a0
  (some 0) n 0
def z3x (n:Nat)(a1:z0h)(k3_2_0:Option (Int)):Nat->Int->Option (Int)
 |0,_=>none
 |mv3_2+1,v3_2 =>
  cnd (decide (v3_2<((a1.fLimits.map z0p).length:Int)))
   (idx a1.fLimits v3_2 fun x122 =>
   bnd (z12 n x122.fSpan 1099511627776) fun x123 =>
   cnd (x123)
    (some 2)
   <| (z3x n a1 k3_2_0 mv3_2) (IntKind.wrap .i64 (v3_2+1)))
  <| k3_2_0
def z1u (n:Nat)(a1:z0h)(a0:z05)(k1_0_0y:(List Int))(k2_1_0:Option (Int)):Nat->Int->Option (Int)
 |0,_=>none
 |mv2_1+1,v2_1 =>
  cnd (decide (v2_1<4))
   (idx ([a1.fOpens,a1.fCloses,a1.fInside,k1_0_0y]:List (List Int)) v2_1 fun x124 =>
   bnd (z7l n x124 a0.fScopes) fun x125 =>
   cnd (!decide (x125=0))
    (some x125)
   <| (z1u n a1 a0 k1_0_0y k2_1_0 mv2_1) (IntKind.wrap .i64 (v2_1+1)))
  <| k2_1_0
def z62 (n:Nat)(a1:z0h)(a0:z05)(k1_0_0:(List Int)->Option (Int)):Nat->Int×(List Int)->Option (Int)
 |0,_=>none
 |mv1_0+1,v1_0 =>
  cnd (decide (v1_0.1<((a1.fLimits.map z0p).length:Int)))
   (idx a1.fLimits v1_0.1 fun x126 =>
   app v1_0.2 [x126.fScope] 8 fun x127 =>
   (z62 n a1 a0 k1_0_0 mv1_0) ((IntKind.wrap .i64 (v1_0.1+1)),x127))
  <| k1_0_0 v1_0.2
def z86 (n:Nat)(a0:z05)(a1:z0h):Option (Int) :=
 z62 n a1 a0
  (fun k1_0_0y=>frz 7026 <| reg <| z1u n a1 a0 k1_0_0y
  (z3x n a1
  (some 0) n 0) n 0) n (0,[])
def z6w (n:Nat)(a1:z0h)(a0:z05)(k1_1_0:Option (Int)):Nat->Int->Option (Int)
 |0,_=>none
 |mv1_1+1,v1_1 =>
  cnd (decide (v1_1<((a1.fChecks.map idA).length:Int)))
   (idxD z37 a1.fChecks v1_1 fun x50 =>
   bnd (z2g n x50) fun x51 =>
   cnd (!decide (x51=0))
    (some x51)
   <| (z6w n a1 a0 k1_1_0 mv1_1) (IntKind.wrap .i64 (v1_1+1)))
  <| k1_1_0
def z10 (n:Nat)(a2:Int)(a1:z0h)(a0:z05)(w1_0:Bool):Option (Int) :=
 cnd (w1_0)
  (some 2)
 <| cnd (decide (a1.fFrom<a2))
  (some 14)
 <| bnd (z2g n a1.fCond) fun x8 =>
 cnd (!decide (x8=0))
  (some x8)
 <| cnd (decide (64<((a1.fChecks.map idA).length:Int)))
  (some 5)
 <| z6w n a1 a0
  (bnd (z86 n a0 a1) fun x49 =>
 some x49) n 0
attribute [irreducible] z10
def za2 (n:Nat)(a0:z05)(a1:z0h)(a2:Int):Option (Int) :=
 jon (z10 n a2 a1 a0) <|
 reg <| bnd (z12 n a1.fFrom (IntKind.wrap .i64 (((a0.fStates.map z0c).length:Int)-1))) fun x52 =>
 cnd (x52)
  (z10 n a2 a1 a0 true)
 <| cnd (!decide (a1.fTo=(-1)))
  (bnd (z12 n a1.fTo (IntKind.wrap .i64 (((a0.fStates.map z0c).length:Int)-1))) fun x53 =>
  cnd (x53)
   (z10 n a2 a1 a0 true)
  <| bnd (z12 n a1.fVar (IntKind.wrap .i64 (a0.fVars-1))) fun x54 =>
  cnd (x54)
   (z10 n a2 a1 a0 true)
  <| bnd (z12 n a1.fType 15) fun x55 =>
  z10 n a2 a1 a0 x55)
 <| bnd (z12 n a1.fVar (IntKind.wrap .i64 (a0.fVars-1))) fun x56 =>
 cnd (x56)
  (z10 n a2 a1 a0 true)
 <| bnd (z12 n a1.fType 15) fun x57 =>
 z10 n a2 a1 a0 x57
def z63 (n:Nat)(a0:z05)(k2_3_0:Option (Int)):Nat->Int×Int->Option (Int)
 |0,_=>none
 |mv2_3+1,v2_3 =>
  cnd (decide (v2_3.2<((a0.fEdges.map z0d).length:Int)))
   (idx a0.fEdges v2_3.2 fun x85 =>
   bnd (za2 n a0 x85 v2_3.1) fun x86 =>
   cnd (!decide (x86=0))
    (some x86)
   <| idx a0.fEdges v2_3.2 fun x87 =>
   (z63 n a0 k2_3_0 mv2_3) (x87.fFrom,(IntKind.wrap .i64 (v2_3.2+1))))
  <| k2_3_0
def z64 (n:Nat)(a0:z05)(k1_2_0:Option (Int)):Nat->Int->Option (Int)
 |0,_=>none
 |mv1_2+1,v1_2 =>
  cnd (decide (v1_2<((a0.fStates.map z0c).length:Int)))
   (idx a0.fStates v1_2 fun x88 =>
   bnd (z97 n a0 x88.fGuards) fun x89 =>
   cnd (!decide (x89=0))
    (some x89)
   <| (z64 n a0 k1_2_0 mv1_2) (IntKind.wrap .i64 (v1_2+1)))
  <| k1_2_0
def z1l (n:Nat)(a0:z05)(w2_1:Bool):Option (Int) :=
 cnd (w2_1)
  (some 5)
 <| z64 n a0
  (z63 n a0
  (some 0) n (0,0)) n 0
attribute [irreducible] z1l
def z1v (n:Nat)(a0:z05)(w1_0:Bool):Option (Int) :=
 cnd (w1_0)
  (some 2)
 <| jon (z1l n a0) <|
 reg <| cnd (decide (((a0.fStates.map z0c).length:Int)<1))
  (z1l n a0 true)
 <| cnd (decide (256<((a0.fStates.map z0c).length:Int)))
  (z1l n a0 true)
 <| z1l n a0 (decide (2048<((a0.fEdges.map z0d).length:Int)))
attribute [irreducible] z1v
def z6i (n:Nat)(a0:z05):Option (Int) :=
 jon (z1v n a0) <|
 reg <| bnd (z12 n a0.fVars 16) fun x90 =>
 cnd (x90)
  (z1v n a0 true)
 <| bnd (z12 n a0.fScopes 64) fun x91 =>
 z1v n a0 x91
def zdz (n:Nat)(rF_expr_Size:z0k->Option (Int×Int))(a0:z0k)(k1_0_0:Int->Int->Option (Int×Int)):Nat->Int×Int×Int->Option (Int×Int)
 |0,_=>none
 |mv1_0+1,v1_0 =>
  cnd (decide (v1_0.2.2<((a0.fArgs.map idA).length:Int)))
   (idxD z37 a0.fArgs v1_0.2.2 fun x43 =>
   bnd (rF_expr_Size x43) fun x44 =>
   (zdz n rF_expr_Size a0 k1_0_0 mv1_0) ((IntKind.wrap .i64 (v1_0.1+x44.1)),(max v1_0.2.1 x44.2),(IntKind.wrap .i64 (v1_0.2.2+1))))
  <| k1_0_0 v1_0.1 v1_0.2.1
def zf0:Nat->z0k->Option (Int×Int)
 |0,_=>none
 |n+1,a0 =>
 zdz n (zf0 n) a0
  (fun k1_0_0y0 k1_0_0y1=>some (k1_0_0y0,(IntKind.wrap .i64 (k1_0_0y1+1)))) n (1,0,0)
def zbc (n:Nat)(a0:Int)(w1_0:Bool):Option (Int×Bool) :=
 cnd (w1_0)
  (some (0,false))
 <| cnd (decide (a0<5))
  (some (0,true))
 <| cnd (decide (a0=12))
  (some (1,true))
 <| some (2,true)
attribute [irreducible] zbc
def ziv (n:Nat)(a0:Int):Option (Int×Bool) :=
 jon (zbc n a0) <|
 reg <| cnd (decide (a0<0))
  (zbc n a0 true)
 <| zbc n a0 (decide (12<a0))
def zcd (n:Nat)(w2_1:Bool):Option (Bool×Bool) :=
 cnd (w2_1)
  (some (true,false))
 <| some (false,false)
attribute [irreducible] zcd
def zce (n:Nat)(a0:Int)(w1_0:Bool):Option (Bool×Bool) :=
 cnd (w1_0)
  (some (true,true))
 <| jon (zcd n) <|
 reg <| cnd (decide (a0=2))
  (zcd n (decide (a0=2)))
 <| zcd n (decide (a0=3))
attribute [irreducible] zce
def zlq (n:Nat)(a0:Int):Option (Bool×Bool) :=
 jon (zce n a0) <|
 reg <| cnd (decide (a0=1))
  (zce n a0 (decide (a0=1)))
 <| zce n a0 (decide (a0=4))
def zew (n:Nat)(a0:z02):Option (Int) :=
 cnd (decide (a0.fKind=0))
  (cnd (decide (a0.fNum<(-1099511627776)))
    (some 2)
  <| cnd (decide (1099511627776<a0.fNum))
   (some 2)
  <| cnd (decide (a0.fKind=1))
   (cnd (!decide (a0.fNum=0))
     (cnd (!decide (a0.fNum=1))
       (some 2)
     <| cnd (decide (64<((a0.fText.size:Nat):Int)))
      (some 13)
     <| some 0)
   <| cnd (decide (64<((a0.fText.size:Nat):Int)))
    (some 13)
   <| some 0)
  <| cnd (decide (64<((a0.fText.size:Nat):Int)))
   (some 13)
  <| some 0)
 <| cnd (decide (a0.fKind=1))
  (cnd (!decide (a0.fNum=0))
    (cnd (!decide (a0.fNum=1))
      (some 2)
    <| cnd (decide (64<((a0.fText.size:Nat):Int)))
     (some 13)
    <| some 0)
  <| cnd (decide (64<((a0.fText.size:Nat):Int)))
   (some 13)
  <| some 0)
 <| cnd (decide (64<((a0.fText.size:Nat):Int)))
  (some 13)
 <| some 0
def zae (n:Nat)(a0:z02):Option (Int) :=
 cnd (decide (a0.fKind=0))
  (cnd (decide (a0.fKind=0))
    (cnd (!(a0.fText.toList == ByteArray.empty.toList))
      (some 3)
    <| bnd (zew n a0) fun x1 =>
    some x1)
  <| cnd (decide (a0.fKind=2))
   (cnd (!decide (a0.fNum=0))
     (some 3)
   <| bnd (zew n a0) fun x2 =>
   some x2)
  <| some 1)
 <| cnd (decide (a0.fKind=1))
  (cnd (!(a0.fText.toList == ByteArray.empty.toList))
    (some 3)
  <| bnd (zew n a0) fun x3 =>
  some x3)
 <| cnd (decide (a0.fKind=2))
  (cnd (!decide (a0.fNum=0))
    (some 3)
  <| bnd (zew n a0) fun x4 =>
  some x4)
 <| some 1
def z9t (n:Nat)(w1_0:Bool):Option (Bool) :=
 some w1_0
attribute [irreducible] z9t
def ziu (n:Nat)(a0:Int)(a1:z02):Option (Bool) :=
 jon (z9t n) <|
 reg <| cnd (decide (a1.fKind=0))
  (z9t n true)
 <| cnd (decide (a0=4))
  (z9t n true)
 <| z9t n (decide (a0=5))
def z52 (n:Nat)(w1_0:Bool):Option (Int) :=
 cnd (w1_0)
  (some 9)
 <| some 0
attribute [irreducible] z52
def zdt (n:Nat)(a0:z0k):Option (Int) :=
 bnd (zae n a0.fValue) fun x1 =>
 cnd (!decide (x1=0))
  (some x1)
 <| jon (z52 n) <|
 reg <| cnd (decide (a0.fOp=4))
  (bnd (ziu n a0.fKind a0.fValue) fun x4 =>
  cnd (!(x4))
   (z52 n true)
  <| cnd (decide (a0.fKind=1))
   (z52 n (!(decide (a0.fValue.fKind=0) && (decide (a0.fValue.fNum=0) && ((a0.fValue.fText.toList == ByteArray.empty.toList) && true)))))
  <| z52 n false)
 <| z52 n false
def z0x (n:Nat)(w5_4:Bool):Option (Int) :=
 cnd (w5_4)
  (some 3)
 <| some 0
attribute [irreducible] z0x
def zcf (n:Nat)(a0:z0k)(x2:Bool×Bool)(w3_2:Bool)(_:Unit):Option (Int) :=
 jon (z0x n) <|
 reg <| cnd (!(x2.1))
  (cnd (!decide (a0.fVar=0))
    (z0x n true)
  <| cnd (!(x2.2))
   (cnd (!decide (a0.fField=0))
     (z0x n true)
   <| cnd (!(decide (a0.fOp=4)))
    (cnd (!decide (a0.fKind=0))
      (z0x n true)
    <| cnd (!(w3_2))
     (z0x n (!(decide (a0.fValue.fKind=0) && (decide (a0.fValue.fNum=0) && ((a0.fValue.fText.toList == ByteArray.empty.toList) && true)))))
    <| z0x n false)
   <| cnd (!(w3_2))
    (z0x n (!(decide (a0.fValue.fKind=0) && (decide (a0.fValue.fNum=0) && ((a0.fValue.fText.toList == ByteArray.empty.toList) && true)))))
   <| z0x n false)
  <| cnd (!(decide (a0.fOp=4)))
   (cnd (!decide (a0.fKind=0))
     (z0x n true)
   <| cnd (!(w3_2))
    (z0x n (!(decide (a0.fValue.fKind=0) && (decide (a0.fValue.fNum=0) && ((a0.fValue.fText.toList == ByteArray.empty.toList) && true)))))
   <| z0x n false)
  <| cnd (!(w3_2))
   (z0x n (!(decide (a0.fValue.fKind=0) && (decide (a0.fValue.fNum=0) && ((a0.fValue.fText.toList == ByteArray.empty.toList) && true)))))
  <| z0x n false)
 <| cnd (!(x2.2))
  (cnd (!decide (a0.fField=0))
    (z0x n true)
  <| cnd (!(decide (a0.fOp=4)))
   (cnd (!decide (a0.fKind=0))
     (z0x n true)
   <| cnd (!(w3_2))
    (z0x n (!(decide (a0.fValue.fKind=0) && (decide (a0.fValue.fNum=0) && ((a0.fValue.fText.toList == ByteArray.empty.toList) && true)))))
   <| z0x n false)
  <| cnd (!(w3_2))
   (z0x n (!(decide (a0.fValue.fKind=0) && (decide (a0.fValue.fNum=0) && ((a0.fValue.fText.toList == ByteArray.empty.toList) && true)))))
  <| z0x n false)
 <| cnd (!(decide (a0.fOp=4)))
  (cnd (!decide (a0.fKind=0))
    (z0x n true)
  <| cnd (!(w3_2))
   (z0x n (!(decide (a0.fValue.fKind=0) && (decide (a0.fValue.fNum=0) && ((a0.fValue.fText.toList == ByteArray.empty.toList) && true)))))
  <| z0x n false)
 <| cnd (!(w3_2))
  (z0x n (!(decide (a0.fValue.fKind=0) && (decide (a0.fValue.fNum=0) && ((a0.fValue.fText.toList == ByteArray.empty.toList) && true)))))
 <| z0x n false
attribute [irreducible] zcf
def zcg (n:Nat)(a0:z0k)(x2:Bool×Bool)(w3_2:Bool):Option (Int) :=
 jon (zcf n a0 x2 w3_2) <|
 reg <| cnd (w3_2)
  (bnd (zdt n a0) fun x8 =>
  cnd (!decide (x8=0))
   (some x8)
  <| zcf n a0 x2 w3_2 ())
 <| zcf n a0 x2 w3_2 ()
attribute [irreducible] zcg
def zah (n:Nat)(a0:z0k)(x2:Bool×Bool)(w2_1:Bool):Option (Int) :=
 cnd (w2_1)
  (some 1)
 <| jon (zcg n a0 x2) <|
 reg <| cnd (decide (a0.fOp=4))
  (zcg n a0 x2 true)
 <| zcg n a0 x2 (decide (a0.fOp=0))
attribute [irreducible] zah
def z5f (n:Nat)(a0:z0k)(x2:Bool×Bool)(w1_0:Bool):Option (Int) :=
 cnd (w1_0)
  (some 2)
 <| jon (zah n a0 x2) <|
 reg <| cnd (decide (a0.fOp=4))
  (cnd (decide (a0.fKind<1))
    (zah n a0 x2 true)
  <| zah n a0 x2 (decide (5<a0.fKind)))
 <| zah n a0 x2 false
attribute [irreducible] z5f
def zlr (n:Nat)(a0:z0k):Option (Int) :=
 bnd (ziv n a0.fOp) fun x1 =>
 cnd (!(x1.2))
  (some 1)
 <| cnd (!decide (((a0.fArgs.map idA).length:Int)=x1.1))
  (some 15)
 <| bnd (zlq n a0.fOp) fun x2 =>
 jon (z5f n a0 x2) <|
 reg <| cnd (x2.1)
  (cnd (decide (a0.fVar<0))
    (z5f n a0 x2 true)
  <| cnd (decide (16<=a0.fVar))
   (z5f n a0 x2 true)
  <| cnd (x2.2)
   (cnd (decide (a0.fField<0))
     (z5f n a0 x2 true)
   <| z5f n a0 x2 (decide (8<=a0.fField)))
  <| z5f n a0 x2 false)
 <| cnd (x2.2)
  (cnd (decide (a0.fField<0))
    (z5f n a0 x2 true)
  <| z5f n a0 x2 (decide (8<=a0.fField)))
 <| z5f n a0 x2 false
def zcy (n:Nat)(rF_expr_visit:z0k->Option (Int))(a0:z0k)(k1_0_0:Option (Int)):Nat->Int->Option (Int)
 |0,_=>none
 |mv1_0+1,v1_0 =>
  cnd (decide (v1_0<((a0.fArgs.map idA).length:Int)))
   (idxD z37 a0.fArgs v1_0 fun x42 =>
   bnd (rF_expr_visit x42) fun x43 =>
   cnd (!decide (x43=0))
    (some x43)
   <| (zcy n rF_expr_visit a0 k1_0_0 mv1_0) (IntKind.wrap .i64 (v1_0+1)))
  <| k1_0_0
def zd6:Nat->z0k->Option (Int)
 |0,_=>none
 |n+1,a0 =>
 bnd (zlr n a0) fun x1 =>
 cnd (!decide (x1=0))
  (some x1)
 <| zcy n (zd6 n) a0
  (some 0) n 0
def zc0 (n:Nat)(a0:z0k):Option (Int) :=
 bnd (zf0 n a0) fun x1 =>
 cnd (decide (64<x1.1))
  (some 5)
 <| cnd (decide (12<x1.2))
  (some 12)
 <| bnd (zd6 n a0) fun x2 =>
 some x2
def z6o (n:Nat)(w1_0:Bool):Option (Bool) :=
 some w1_0
attribute [irreducible] z6o
def z35 (n:Nat)(a0:Int)(a1:Int):Option (Bool) :=
 jon (z6o n) <|
 reg <| cnd (decide (0<=a0))
  (z6o n (decide (a0<a1)))
 <| z6o n false
def z90 (n:Nat)(a0:z0j)(a1:z0j):Option (Bool) :=
 some (decide (a0.fScope=a1.fScope))
def z8d (n:Nat)(a1c0:z0j)(a0:(List z0j))(k1_0_0:Option (Int)):Nat->Int->Option (Int)
 |0,_=>none
 |mv1_0+1,v1_0 =>
  cnd (decide (v1_0<((a0.map z0q).length:Int)))
   (idx a0 v1_0 fun x41 =>
   bnd (z90 n x41 a1c0) fun x42 =>
   cnd (x42)
    (some v1_0)
   <| (z8d n a1c0 a0 k1_0_0 mv1_0) (IntKind.wrap .i64 (v1_0+1)))
  <| k1_0_0
def zbx (n:Nat)(a0:(List z0j))(a1c0:z0j):Option (Int) :=
 z8d n a1c0 a0
  (some (-1)) n 0
def z8e (n:Nat)(a0:(List z0j))(a1c0:z0j):Option (Bool) :=
 bnd (zbx n a0 a1c0) fun x1 =>
 some (decide (0<=x1))
def z4c (n:Nat)(a1:(List z0j))(a0:z05)(v1_0:Int)(cv1_0:Int->Option (Int))(x41:z0j)(w3_1:Bool):Option (Int) :=
 cnd (w3_1)
  (some 2)
 <| sls a1 0 v1_0 fun x46 =>
 bnd (z8e n x46 x41) fun x47 =>
 cnd (x47)
  (some 7)
 <| bnd (zc0 n x41.fCond) fun x48 =>
 cnd (!decide (x48=0))
  (some x48)
 <| cv1_0 (IntKind.wrap .i64 (v1_0+1))
attribute [irreducible] z4c
def z2i (n:Nat)(a1:(List z0j))(a0:z05)(k1_0_0:Option (Int)):Nat->Int->Option (Int)
 |0,_=>none
 |mv1_0+1,v1_0 =>
  cnd (decide (v1_0<((a1.map z0q).length:Int)))
   (idx a1 v1_0 fun x41 =>
   jon (z4c n a1 a0 v1_0 (z2i n a1 a0 k1_0_0 mv1_0) x41) <|
   reg <| bnd (z35 n x41.fScope a0.fScopes) fun x49 =>
   cnd (!(x49))
    (z4c n a1 a0 v1_0 (z2i n a1 a0 k1_0_0 mv1_0) x41 true)
   <| bnd (z35 n x41.fType 16) fun x50 =>
   cnd (!(x50))
    (z4c n a1 a0 v1_0 (z2i n a1 a0 k1_0_0 mv1_0) x41 true)
   <| bnd (z35 n x41.fVar a0.fVars) fun x51 =>
   z4c n a1 a0 v1_0 (z2i n a1 a0 k1_0_0 mv1_0) x41 !(x51))
  <| k1_0_0
def zc2 (n:Nat)(a0:z05)(a1:(List z0j)):Option (Int) :=
 cnd (decide (64<((a1.map z0q).length:Int)))
  (some 5)
 <| z2i n a1 a0
  (some 0) n 0
def z7u (n:Nat)(a0:(List z0y))(k1_0_0:(List Int)->Option ((List Int))):Nat->Int×(List Int)->Option ((List Int))
 |0,_=>none
 |mv1_0+1,v1_0 =>
  cnd (decide (v1_0.1<((a0.map z0p).length:Int)))
   (idx a0 v1_0.1 fun x42 =>
   app v1_0.2 [x42.fScope] 8 fun x43 =>
   (z7u n a0 k1_0_0 mv1_0) ((IntKind.wrap .i64 (v1_0.1+1)),x43))
  <| k1_0_0 v1_0.2
def z9g (n:Nat)(a0:(List z0y)):Option ((List Int)) :=
 z7u n a0
  (fun k1_0_0y=>some k1_0_0y) n (0,[])
def zak (n:Nat)(a1:Int)(a0:(List Int))(k1_0_0:Option (Int)):Nat->Int->Option (Int)
 |0,_=>none
 |mv1_0+1,v1_0 =>
  cnd (decide (v1_0<((a0.map aI).length:Int)))
   (idx a0 v1_0 fun x41 =>
   cnd (decide (a1=x41))
    (some v1_0)
   <| (zak n a1 a0 k1_0_0 mv1_0) (IntKind.wrap .i64 (v1_0+1)))
  <| k1_0_0
def zi0 (n:Nat)(a0:(List Int))(a1:Int):Option (Int) :=
 zak n a1 a0
  (some (-1)) n 0
def z72 (n:Nat)(a0:(List Int))(a1:Int):Option (Bool) :=
 bnd (zi0 n a0 a1) fun x1 =>
 some (decide (0<=x1))
def z36 (n:Nat)(a1:(List (List Int)))(a0:z05)(v1_0:Int)(x41:(List Int))(k2_1_0:Option (Int)):Nat->Int->Option (Int)
 |0,_=>none
 |mv2_1+1,v2_1 =>
  cnd (decide (v2_1<((x41.map aI).length:Int)))
   (idx x41 v2_1 fun x82 =>
   bnd (z35 n x82 a0.fScopes) fun x83 =>
   cnd (!(x83))
    (some 2)
   <| sls x41 0 v2_1 fun x84 =>
   bnd (z72 n x84 x82) fun x85 =>
   cnd (x85)
    (some 7)
   <| (z36 n a1 a0 v1_0 x41 k2_1_0 mv2_1) (IntKind.wrap .i64 (v2_1+1)))
  <| k2_1_0
def z4b (n:Nat)(a1:(List (List Int)))(a0:z05)(k1_0_0:Option (Int)):Nat->Int->Option (Int)
 |0,_=>none
 |mv1_0+1,v1_0 =>
  cnd (decide (v1_0<(((List.map (fun q=>AV.sl 1 (List.map aI q)) (a1)).length:Nat):Int)))
   (idx a1 v1_0 fun x41 =>
   z36 n a1 a0 v1_0 x41
    ((z4b n a1 a0 k1_0_0 mv1_0) (IntKind.wrap .i64 (v1_0+1))) n 0)
  <| k1_0_0
def zc1 (n:Nat)(a0:z05)(a1:(List (List Int))):Option (Int) :=
 z4b n a1 a0
  (some 0) n 0
def z6p (n:Nat)(w1_0:Bool):Option (Bool) :=
 some w1_0
attribute [irreducible] z6p
def z8x (n:Nat)(a0:z0y):Option (Bool) :=
 jon (z6p n) <|
 reg <| cnd (decide (a0.fSpan<0))
  (z6p n true)
 <| z6p n (decide (1099511627776<a0.fSpan))
def z5b (n:Nat)(a0:(List z0y))(k1_0_0:Option (Int)):Nat->Int->Option (Int)
 |0,_=>none
 |mv1_0+1,v1_0 =>
  cnd (decide (v1_0<((a0.map z0p).length:Int)))
   (idx a0 v1_0 fun x41 =>
   bnd (z8x n x41) fun x42 =>
   cnd (x42)
    (some v1_0)
   <| (z5b n a0 k1_0_0 mv1_0) (IntKind.wrap .i64 (v1_0+1)))
  <| k1_0_0
def z99 (n:Nat)(a0:(List z0y)):Option (Int) :=
 z5b n a0
  (some (-1)) n 0
def z5c (n:Nat)(a0:(List z0y)):Option (Bool) :=
 bnd (z99 n a0) fun x1 =>
 some (decide (0<=x1))
def z9h (n:Nat)(a1:z0h)(a0:z05)(k1_1_0:Option (Int)):Nat->Int->Option (Int)
 |0,_=>none
 |mv1_1+1,v1_1 =>
  cnd (decide (v1_1<((a1.fChecks.map idA).length:Int)))
   (idxD z37 a1.fChecks v1_1 fun x49 =>
   bnd (zc0 n x49) fun x50 =>
   cnd (!decide (x50=0))
    (some x50)
   <| (z9h n a1 a0 k1_1_0 mv1_1) (IntKind.wrap .i64 (v1_1+1)))
  <| k1_1_0
def z1q (n:Nat)(a2:Int)(a1:z0h)(a0:z05)(w1_0:Bool):Option (Int) :=
 cnd (w1_0)
  (some 2)
 <| cnd (decide (a1.fFrom<a2))
  (some 14)
 <| bnd (zc0 n a1.fCond) fun x5 =>
 cnd (!decide (x5=0))
  (some x5)
 <| cnd (decide (64<((a1.fChecks.map idA).length:Int)))
  (some 5)
 <| z9h n a1 a0
  (bnd (z9g n a1.fLimits) fun x46 =>
 bnd (zc1 n a0 ([a1.fOpens,a1.fCloses,a1.fInside,x46])) fun x47 =>
 cnd (!decide (x47=0))
  (some x47)
 <| bnd (z5c n a1.fLimits) fun x48 =>
 cnd (x48)
  (some 2)
 <| some 0) n 0
attribute [irreducible] z1q
def zdu (n:Nat)(a0:z05)(a1:z0h)(a2:Int):Option (Int) :=
 jon (z1q n a2 a1 a0) <|
 reg <| bnd (z35 n a1.fFrom ((a0.fStates.map z0c).length:Int)) fun x51 =>
 cnd (!(x51))
  (z1q n a2 a1 a0 true)
 <| cnd (decide (a1.fTo<(-1)))
  (z1q n a2 a1 a0 true)
 <| cnd (decide (((a0.fStates.map z0c).length:Int)<=a1.fTo))
  (z1q n a2 a1 a0 true)
 <| bnd (z35 n a1.fVar a0.fVars) fun x52 =>
 cnd (!(x52))
  (z1q n a2 a1 a0 true)
 <| bnd (z35 n a1.fType 16) fun x53 =>
 z1q n a2 a1 a0 !(x53)
def z91 (n:Nat)(a0:z05)(k2_3_0:Option (Int)):Nat->Int×Int->Option (Int)
 |0,_=>none
 |mv2_3+1,v2_3 =>
  cnd (decide (v2_3.2<((a0.fEdges.map z0d).length:Int)))
   (idx a0.fEdges v2_3.2 fun x83 =>
   bnd (zdu n a0 x83 v2_3.1) fun x84 =>
   cnd (!decide (x84=0))
    (some x84)
   <| (z91 n a0 k2_3_0 mv2_3) (x83.fFrom,(IntKind.wrap .i64 (v2_3.2+1))))
  <| k2_3_0
def z92 (n:Nat)(a0:z05)(k1_2_0:Option (Int)):Nat->Int->Option (Int)
 |0,_=>none
 |mv1_2+1,v1_2 =>
  cnd (decide (v1_2<((a0.fStates.map z0c).length:Int)))
   (idx a0.fStates v1_2 fun x85 =>
   bnd (zc2 n a0 x85.fGuards) fun x86 =>
   cnd (!decide (x86=0))
    (some x86)
   <| (z92 n a0 k1_2_0 mv1_2) (IntKind.wrap .i64 (v1_2+1)))
  <| k1_2_0
def z2q (n:Nat)(a0:z05)(w2_1:Bool):Option (Int) :=
 cnd (w2_1)
  (some 5)
 <| z92 n a0
  (z91 n a0
  (some 0) n (0,0)) n 0
attribute [irreducible] z2q
def z27 (n:Nat)(a0:z05)(w1_0:Bool):Option (Int) :=
 cnd (w1_0)
  (some 2)
 <| jon (z2q n a0) <|
 reg <| cnd (decide (((a0.fStates.map z0c).length:Int)<1))
  (z2q n a0 true)
 <| cnd (decide (256<((a0.fStates.map z0c).length:Int)))
  (z2q n a0 true)
 <| z2q n a0 (decide (2048<((a0.fEdges.map z0d).length:Int)))
attribute [irreducible] z27
def zcz (n:Nat)(a0:z05):Option (Int) :=
 jon (z27 n a0) <|
 reg <| cnd (decide (a0.fVars<0))
  (z27 n a0 true)
 <| cnd (decide (16<a0.fVars))
  (z27 n a0 true)
 <| cnd (decide (a0.fScopes<0))
  (z27 n a0 true)
 <| z27 n a0 (decide (64<a0.fScopes))
def z32 (n:Nat)(w1_0:Bool):Option (Bool) :=
 some w1_0
attribute [irreducible] z32
def z8y (n:Nat)(a0:Int):Option (Bool) :=
 jon (z32 n) <|
 reg <| cnd (decide (0<=a0))
  (z32 n (decide (a0<=5)))
 <| z32 n false
structure z0l where
 fKind:Int
 fCount:Int
 fValue:z02
deriving DecidableEq,Inhabited
def z1x (n:Nat)(w3_2:Bool):Option (Int) :=
 cnd (w3_2)
  (some 3)
 <| some 0
attribute [irreducible] z1x
def z42 (n:Nat)(w4_3:Bool):Option (Int) :=
 cnd (w4_3)
  (some 3)
 <| some 0
attribute [irreducible] z42
def z43 (n:Nat)(a0:z0l)(w2_1:Bool):Option (Int) :=
 cnd (w2_1)
  (cnd (!(decide (a0.fValue.fKind=0) && (decide (a0.fValue.fNum=0) && ((a0.fValue.fText.toList == ByteArray.empty.toList) && true))))
    (some 3)
  <| some 0)
 <| cnd (decide (a0.fKind=1))
  (jon (z1x n) <|
  reg <| cnd (!decide (a0.fValue.fKind=0))
   (z1x n true)
  <| cnd (!(a0.fValue.fText.toList == ByteArray.empty.toList))
   (z1x n true)
  <| cnd (decide (a0.fValue.fNum<(IntKind.wrap .i64 (0-(IntKind.wrap .i64 (a0.fCount*1099511627776))))))
   (z1x n true)
  <| z1x n (decide ((IntKind.wrap .i64 (a0.fCount*1099511627776))<a0.fValue.fNum)))
 <| jon (z42 n) <|
 reg <| bnd (z33 n a0.fValue) fun x8 =>
 cnd (!decide (x8=0))
  (z42 n true)
 <| bnd (z6k n a0.fKind a0.fValue) fun x9 =>
 z42 n !(x9)
attribute [irreducible] z43
def z44 (n:Nat)(a0:z0l)(w1_0:Bool):Option (Int) :=
 cnd (w1_0)
  (some 2)
 <| jon (z43 n a0) <|
 reg <| cnd (decide (a0.fCount=0))
  (z43 n a0 true)
 <| z43 n a0 (decide (a0.fKind=0))
attribute [irreducible] z44
def z8a (n:Nat)(a0:z0l):Option (Int) :=
 bnd (z8y n a0.fKind) fun x1 =>
 cnd (!(x1))
  (some 1)
 <| jon (z44 n a0) <|
 reg <| cnd (decide (a0.fCount<0))
  (z44 n a0 true)
 <| z44 n a0 (decide (4096<a0.fCount))
def z88 (n:Nat)(a0:Int)(a1:z02):Option (Int) :=
 bnd (z33 n a1) fun x1 =>
 cnd (!decide (x1=0))
  (some x1)
 <| bnd (z6k n a0 a1) fun x2 =>
 cnd (!(x2))
  (some 9)
 <| some 0
def z8o (n:Nat)(a0:Int)(a1:z02)(a2:z02):Option (z02) :=
 cnd (decide (a0=1))
  (some (⟨0,(IntKind.wrap .i64 (a1.fNum+a2.fNum)),ByteArray.empty⟩))
 <| cnd (decide (a0=2))
  (some (⟨0,(min a1.fNum a2.fNum),ByteArray.empty⟩))
 <| cnd (decide (a0=3))
  (some (⟨0,(max a1.fNum a2.fNum),ByteArray.empty⟩))
 <| cnd (decide (a0=4))
  (some a1)
 <| cnd (decide (a0=5))
  (some a2)
 <| some (⟨0,0,ByteArray.empty⟩)
def z3t (n:Nat)(a0:z0l)(w1_0:Int×Int×ByteArray):Option (z0l×Int) :=
 some (⟨a0.fKind,(IntKind.wrap .i64 (a0.fCount+1)),⟨w1_0.1,w1_0.2.1,w1_0.2.2⟩⟩,0)
attribute [irreducible] z3t
def zaw (n:Nat)(a0:z0l)(a1:z02):Option (z0l×Int) :=
 bnd (z8a n a0) fun x1 =>
 cnd (!decide (x1=0))
  (some (⟨0,0,⟨0,0,ByteArray.empty⟩⟩,x1))
 <| bnd (z88 n a0.fKind a1) fun x2 =>
 cnd (!decide (x2=0))
  (some (⟨0,0,⟨0,0,ByteArray.empty⟩⟩,x2))
 <| cnd (decide (a0.fCount=4096))
  (some (⟨0,0,⟨0,0,ByteArray.empty⟩⟩,5))
 <| jon (z3t n a0) <|
 reg <| cnd (decide (a0.fKind=0))
  (z3t n a0 (0,0,ByteArray.empty))
 <| reg <| cnd (decide (0<a0.fCount))
  (bnd (z8o n a0.fKind a0.fValue a1) fun x7 =>
  z3t n a0 (x7.fKind,x7.fNum,x7.fText))
 <| z3t n a0 (a1.fKind,a1.fNum,a1.fText)
def z3e (n:Nat)(a1:z02)(a0:z0l)(w1_0:Bool):Option (z02×Int) :=
 cnd (w1_0)
  (some (a1,0))
 <| some (a0.fValue,0)
attribute [irreducible] z3e
def z7o (n:Nat)(a0:z0l)(a1:z02):Option (z02×Int) :=
 bnd (z8a n a0) fun x1 =>
 cnd (!decide (x1=0))
  (some (⟨0,0,ByteArray.empty⟩,x1))
 <| bnd (z88 n a0.fKind a1) fun x2 =>
 cnd (!decide (x2=0))
  (some (⟨0,0,ByteArray.empty⟩,x2))
 <| cnd (decide (a0.fKind=0))
  (some (⟨0,a0.fCount,ByteArray.empty⟩,0))
 <| jon (z3e n a1 a0) <|
 reg <| cnd (decide (a0.fCount=0))
  (z3e n a1 a0 (!decide (a0.fKind=1)))
 <| z3e n a1 a0 false
def z89 (n:Nat)(a2:z02)(a1:(List z02))(k1_0_0:Int->Int->Int->Int->ByteArray->Option (z02×Int)):Nat->Int×Int×Int×Int×Int×ByteArray->Option (z02×Int)
 |0,_=>none
 |mv1_0+1,v1_0 =>
  cnd (decide (v1_0.1<((a1.map z06).length:Int)))
   (idx a1 v1_0.1 fun x48 =>
   bnd (zaw n (⟨v1_0.2.1,v1_0.2.2.1,⟨v1_0.2.2.2.1,v1_0.2.2.2.2.1,v1_0.2.2.2.2.2⟩⟩:z0l) x48) fun x49 =>
   cnd (!decide (x49.2=0))
    (some (⟨0,0,ByteArray.empty⟩,x49.2))
   <| (z89 n a2 a1 k1_0_0 mv1_0) ((IntKind.wrap .i64 (v1_0.1+1)),x49.1.fKind,x49.1.fCount,x49.1.fValue.fKind,x49.1.fValue.fNum,x49.1.fValue.fText))
  <| k1_0_0 v1_0.2.1 v1_0.2.2.1 v1_0.2.2.2.1 v1_0.2.2.2.2.1 v1_0.2.2.2.2.2
def z9w (n:Nat)(a0:Int)(a1:(List z02))(a2:z02):Option (z02×Int) :=
 bnd (z8y n a0) fun x1 =>
 cnd (!(x1))
  (some (⟨0,0,ByteArray.empty⟩,1))
 <| cnd (decide (4096<((a1.map z06).length:Int)))
  (some (⟨0,0,ByteArray.empty⟩,5))
 <| z89 n a2 a1
  (fun k1_0_0y0 k1_0_0y1 k1_0_0y2 k1_0_0y3 k1_0_0y4=>bnd (z7o n (⟨k1_0_0y0,k1_0_0y1,⟨k1_0_0y2,k1_0_0y3,k1_0_0y4⟩⟩:z0l) a2) fun x47 =>
 some (x47.1,x47.2)) n (0,a0,0,0,0,ByteArray.empty)
structure z01 where
 fSource:Int
 fSeq:Int
 fType:Int
 fTime:Int
 fValues:(List z02)
deriving DecidableEq,Inhabited
def z04 (x:z01):AV:=.agg [aI (x.fSource),aI (x.fSeq),aI (x.fType),aI (x.fTime),.sl 3 (x.fValues.map z06)]
structure z0i where
 fVars:(List (List z01))
deriving DecidableEq,Inhabited
def z3d (n:Nat)(a1:Int)(a0:z0i)(w1_0:Bool):Option ((List z01)) :=
 cnd (w1_0)
  (some [])
 <| idx a0.fVars a1 fun x2 =>
 some x2
attribute [irreducible] z3d
def z5s (n:Nat)(a0:z0i)(a1:Int):Option ((List z01)) :=
 jon (z3d n a1 a0) <|
 reg <| cnd (decide (a1<0))
  (z3d n a1 a0 true)
 <| z3d n a1 a0 (decide ((((List.map (fun q=>AV.sl 5 (List.map z04 q)) (a0.fVars)).length:Nat):Int)<=a1))
def zcj (n:Nat)(a0:z0i)(a1:Int)(a2:Int)(a3:z01):Option (z01×Bool) :=
 cnd (decide (a1=a2))
  (some (a3,true))
 <| bnd (z5s n (⟨a0.fVars⟩:z0i) a1) fun x1 =>
 cnd (decide (((x1.map z04).length:Int)=0))
  (some (⟨0,0,0,0,[]⟩,false))
 <| idx x1 (IntKind.wrap .i64 (((x1.map z04).length:Int)-1)) fun x2 =>
 some (x2,true)
def z6y (n:Nat)(a0:z0k)(x2:(List z01))(k1_0_0:(List z02)->Option (z02×Int)):Nat->Int×(List z02)->Option (z02×Int)
 |0,_=>none
 |mv1_0+1,v1_0 =>
  cnd (decide (v1_0.1<((x2.map z04).length:Int)))
   (idx x2 v1_0.1 fun x45 =>
   cnd (decide (((x45.fValues.map z06).length:Int)<=a0.fField))
    (some (⟨0,0,ByteArray.empty⟩,6))
   <| idx x2 v1_0.1 fun x46 =>
   idx x46.fValues a0.fField fun x47 =>
   app v1_0.2 [x47] 32 fun x48 =>
   (z6y n a0 x2 k1_0_0 mv1_0) ((IntKind.wrap .i64 (v1_0.1+1)),x48))
  <| k1_0_0 v1_0.2
def za5 (n:Nat)(a0:z0k)(a1:z0i)(a2:Int)(a3:z01):Option (z02×Int) :=
 cnd (decide (a0.fOp=0))
  (some (a0.fValue,0))
 <| cnd (decide (a0.fOp=3))
  (bnd (z5s n (⟨a1.fVars⟩:z0i) a0.fVar) fun x1 =>
  some (⟨0,((x1.map z04).length:Int),ByteArray.empty⟩,0))
 <| cnd (decide (a0.fOp=4))
  (bnd (z5s n (⟨a1.fVars⟩:z0i) a0.fVar) fun x2 =>
  z6y n a0 x2
   (fun k1_0_0y=>bnd (z9w n a0.fKind k1_0_0y a0.fValue) fun x44 =>
  some (x44.1,x44.2)) n (0,[]))
 <| bnd (zcj n (⟨a1.fVars⟩:z0i) a0.fVar a2 a3) fun x49 =>
 cnd (!(x49.2))
  (some (⟨0,0,ByteArray.empty⟩,10))
 <| cnd (decide (a0.fOp=2))
  (some (⟨0,x49.1.fTime,ByteArray.empty⟩,0))
 <| cnd (decide (((x49.1.fValues.map z06).length:Int)<=a0.fField))
  (some (⟨0,0,ByteArray.empty⟩,6))
 <| idx x49.1.fValues a0.fField fun x50 =>
 bnd (z33 n x50) fun x51 =>
 cnd (!decide (x51=0))
  (some (⟨0,0,ByteArray.empty⟩,x51))
 <| idx x49.1.fValues a0.fField fun x52 =>
 some (x52,0)
def z1s (n:Nat)(w2_1:Bool):Option (Int) :=
 cnd (w2_1)
  (some 1)
 <| some (-1)
attribute [irreducible] z1s
def z1j (n:Nat)(a0:Int)(w1_0:Bool):Option (Int) :=
 cnd (w1_0)
  (some 0)
 <| jon (z1s n) <|
 reg <| cnd (decide (a0=10))
  (z1s n (decide (a0=10)))
 <| reg <| cnd (decide (a0=11))
  (z1s n (decide (a0=11)))
 <| z1s n (decide (a0=12))
attribute [irreducible] z1j
def z87 (n:Nat)(a0:Int):Option (Int) :=
 jon (z1j n a0) <|
 reg <| cnd (decide (a0=5))
  (z1j n a0 (decide (a0=5)))
 <| reg <| cnd (decide (a0=6))
  (z1j n a0 (decide (a0=6)))
 <| reg <| cnd (decide (a0=7))
  (z1j n a0 (decide (a0=7)))
 <| z1j n a0 (decide (a0=8))
def z1b (n:Nat)(a1:(List Int))(a0:Int)(v1_0:Int)(cv1_0:Int->Option (Int))(w3_1:Bool):Option (Int) :=
 cnd (w3_1)
  (some 9)
 <| cv1_0 (IntKind.wrap .i64 (v1_0+1))
attribute [irreducible] z1b
def z13 (n:Nat)(a1:(List Int))(a0:Int)(k1_0_0:Option (Int)):Nat->Int->Option (Int)
 |0,_=>none
 |mv1_0+1,v1_0 =>
  cnd (decide (v1_0<((a1.map aI).length:Int)))
   (bnd (z87 n a0) fun x41 =>
   jon (z1b n a1 a0 v1_0 (z13 n a1 a0 k1_0_0 mv1_0)) <|
   reg <| cnd (decide (0<=x41))
    (idx a1 v1_0 fun x48 =>
    cnd (!decide (x48=x41))
     (z1b n a1 a0 v1_0 (z13 n a1 a0 k1_0_0 mv1_0) true)
    <| cnd (decide (a0=9))
     (idx a1 v1_0 fun x49 =>
     idx a1 0 fun x50 =>
     z1b n a1 a0 v1_0 (z13 n a1 a0 k1_0_0 mv1_0) (!decide (x49=x50)))
    <| z1b n a1 a0 v1_0 (z13 n a1 a0 k1_0_0 mv1_0) false)
   <| cnd (decide (a0=9))
    (idx a1 v1_0 fun x51 =>
    idx a1 0 fun x52 =>
    z1b n a1 a0 v1_0 (z13 n a1 a0 k1_0_0 mv1_0) (!decide (x51=x52)))
   <| z1b n a1 a0 v1_0 (z13 n a1 a0 k1_0_0 mv1_0) false)
  <| k1_0_0
def z9v (n:Nat)(a0:Int)(a1:(List Int)):Option (Int) :=
 z13 n a1 a0
  (some 0) n 0
def z1a (n:Nat)(a0:Bool):Option (z02) :=
 cnd (a0)
  (some (⟨1,1,ByteArray.empty⟩))
 <| some (⟨1,0,ByteArray.empty⟩)
def z3z (n:Nat)(w1_0:Int×Int×ByteArray):Option (z02) :=
 some (⟨w1_0.1,w1_0.2.1,w1_0.2.2⟩)
attribute [irreducible] z3z
def z3y (n:Nat)(w2_1:Int×Int×ByteArray):Option (z02) :=
 some (⟨w2_1.1,w2_1.2.1,w2_1.2.2⟩)
attribute [irreducible] z3y
def z6j (n:Nat)(a0:Int)(a1:(List z02)):Option (z02) :=
 cnd (decide (a0=5))
  (idx a1 0 fun x1 =>
  idx a1 1 fun x2 =>
  some (⟨0,(IntKind.wrap .i64 (x1.fNum+x2.fNum)),ByteArray.empty⟩))
 <| cnd (decide (a0=6))
  (idx a1 0 fun x3 =>
  idx a1 1 fun x4 =>
  some (⟨0,(IntKind.wrap .i64 (x3.fNum-x4.fNum)),ByteArray.empty⟩))
 <| cnd (decide (a0=7))
  (idx a1 0 fun x5 =>
  idx a1 1 fun x6 =>
  bnd (z1a n (decide (x5.fNum<x6.fNum))) fun x7 =>
  some x7)
 <| cnd (decide (a0=8))
  (idx a1 0 fun x8 =>
  idx a1 1 fun x9 =>
  bnd (z1a n (decide (x8.fNum<=x9.fNum))) fun x10 =>
  some x10)
 <| cnd (decide (a0=9))
  (idx a1 0 fun x11 =>
  idx a1 1 fun x12 =>
  bnd (z1a n (decide (x11.fKind=x12.fKind) && (decide (x11.fNum=x12.fNum) && ((x11.fText.toList == x12.fText.toList) && true)))) fun x13 =>
  some x13)
 <| cnd (decide (a0=10))
  (jon (z3z n) <|
  reg <| idx a1 0 fun x21 =>
  cnd (decide (x21.fNum=1))
   (idx a1 1 fun x22 =>
   bnd (z1a n (decide (x22.fNum=1))) fun x23 =>
   z3z n (x23.fKind,x23.fNum,x23.fText))
  <| bnd (z1a n false) fun x24 =>
  z3z n (x24.fKind,x24.fNum,x24.fText))
 <| cnd (decide (a0=11))
  (jon (z3y n) <|
  reg <| idx a1 0 fun x32 =>
  cnd (decide (x32.fNum=1))
   (bnd (z1a n true) fun x33 =>
   z3y n (x33.fKind,x33.fNum,x33.fText))
  <| idx a1 1 fun x34 =>
  bnd (z1a n (decide (x34.fNum=1))) fun x35 =>
  z3y n (x35.fKind,x35.fNum,x35.fText))
 <| idx a1 0 fun x36 =>
 bnd (z1a n (!decide (x36.fNum=1))) fun x37 =>
 some x37
def z6z (n:Nat)(rF_tidegateref08_eval:z0k->z0i->Int->z01->Option (z02×Int))(a3:z01)(a2:Int)(a1:z0i)(a0:z0k)(k1_0_0:(List z02)->(List Int)->Option (z02×Int)):Nat->Int×(List z02)×(List Int)->Option (z02×Int)
 |0,_=>none
 |mv1_0+1,v1_0 =>
  cnd (decide (v1_0.1<((a0.fArgs.map idA).length:Int)))
   (idxD z37 a0.fArgs v1_0.1 fun x46 =>
   bnd (rF_tidegateref08_eval x46 (⟨a1.fVars⟩:z0i) a2 a3) fun x47 =>
   cnd (!decide (x47.2=0))
    (some (⟨0,0,ByteArray.empty⟩,x47.2))
   <| app v1_0.2.1 [x47.1] 32 fun x48 =>
   app v1_0.2.2 [x47.1.fKind] 8 fun x49 =>
   (z6z n rF_tidegateref08_eval a3 a2 a1 a0 k1_0_0 mv1_0) ((IntKind.wrap .i64 (v1_0.1+1)),x48,x49))
  <| k1_0_0 v1_0.2.1 v1_0.2.2
def z5h:Nat->z0k->z0i->Int->z01->Option (z02×Int)
 |0,_,_,_,_=>none
 |n+1,a0,a1,a2,a3 =>
 cnd (decide (((a0.fArgs.map idA).length:Int)=0))
  (bnd (za5 n a0 (⟨a1.fVars⟩:z0i) a2 a3) fun x1 =>
  some (x1.1,x1.2))
 <| z6z n (z5h n) a3 a2 a1 a0
  (fun k1_0_0y0 k1_0_0y1=>bnd (z9v n a0.fOp k1_0_0y1) fun x44 =>
 cnd (!decide (x44=0))
  (some (⟨0,0,ByteArray.empty⟩,x44))
 <| bnd (z6j n a0.fOp k1_0_0y0) fun x45 =>
 some (x45,0)) n (0,[],[])
def zck (n:Nat)(a0:z0k)(a1:z0i)(a2:Int)(a3:z01):Option (z02×Int) :=
 bnd (z2g n a0) fun x1 =>
 cnd (!decide (x1=0))
  (some (⟨0,0,ByteArray.empty⟩,x1))
 <| bnd (z5h n a0 (⟨a1.fVars⟩:z0i) a2 a3) fun x2 =>
 some (x2.1,x2.2)
def z40 (n:Nat)(w1_0:Bool):Option (Bool) :=
 some w1_0
attribute [irreducible] z40
def z2f (n:Nat)(a0:z0k)(a1:z0i)(a2:Int)(a3:z01):Option (Bool) :=
 bnd (zck n a0 (⟨a1.fVars⟩:z0i) a2 a3) fun x1 =>
 jon (z40 n) <|
 reg <| cnd (decide (x1.2=0))
  (bnd (z1a n true) fun x4 =>
  z40 n (decide (x1.1.fKind=x4.fKind) && (decide (x1.1.fNum=x4.fNum) && ((x1.1.fText.toList == x4.fText.toList) && true))))
 <| z40 n false
structure z1g where
 fTime:Int
 fSource:Int
 fSeq:Int
deriving DecidableEq,Inhabited
def z7v (x:z1g):AV:=.agg [aI (x.fTime),aI (x.fSource),aI (x.fSeq)]
structure z0u where
 fVar:Int
 fRef:z1g
deriving DecidableEq,Inhabited
def z0a (x:z0u):AV:=.agg [aI (x.fVar),aI (x.fRef.fTime),aI (x.fRef.fSource),aI (x.fRef.fSeq)]
structure z03 where
 fBindings:(List z0u)
deriving DecidableEq,Inhabited
def z0g (x:z03):AV:=.agg [.sl 4 (x.fBindings.map z0a)]
def z6l (n:Nat)(a0:z1g)(a1:z1g):Option (Int) :=
 cnd (!decide (a0.fTime=a1.fTime))
  (cnd (decide (a0.fTime<a1.fTime))
    (some (-1))
  <| some 1)
 <| cnd (!decide (a0.fSource=a1.fSource))
  (cnd (decide (a0.fSource<a1.fSource))
    (some (-1))
  <| some 1)
 <| cnd (decide (a0.fSeq<a1.fSeq))
  (some (-1))
 <| cnd (decide (a1.fSeq<a0.fSeq))
  (some 1)
 <| some 0
def z9n (n:Nat)(a0:z0u)(a1:z0u):Option (Int) :=
 bnd (z6l n (⟨a0.fRef.fTime,a0.fRef.fSource,a0.fRef.fSeq⟩:z1g) (⟨a1.fRef.fTime,a1.fRef.fSource,a1.fRef.fSeq⟩:z1g)) fun x1 =>
 cnd (!decide (x1=0))
  (some x1)
 <| cnd (decide (a0.fVar<a1.fVar))
  (some (-1))
 <| cnd (decide (a1.fVar<a0.fVar))
  (some 1)
 <| some 0
def z2u (n:Nat)(a1:z03)(a0:z03)(v1_0:Int)(k1_0_0:Option (Int))(cv1_0:Int->Option (Int))(w3_1:Bool):Option (Int) :=
 cnd (w3_1)
  (idx a0.fBindings v1_0 fun x42 =>
  idx a1.fBindings v1_0 fun x43 =>
  bnd (z9n n (⟨x42.fVar,⟨x42.fRef.fTime,x42.fRef.fSource,x42.fRef.fSeq⟩⟩:z0u) (⟨x43.fVar,⟨x43.fRef.fTime,x43.fRef.fSource,x43.fRef.fSeq⟩⟩:z0u)) fun x44 =>
  cnd (!decide (x44=0))
   (some x44)
  <| cv1_0 (IntKind.wrap .i64 (v1_0+1)))
 <| k1_0_0
attribute [irreducible] z2u
def z24 (n:Nat)(a1:z03)(a0:z03)(k1_0_0:Option (Int)):Nat->Int->Option (Int)
 |0,_=>none
 |mv1_0+1,v1_0 =>
  jon (z2u n a1 a0 v1_0 k1_0_0 (z24 n a1 a0 k1_0_0 mv1_0)) <|
  reg <| cnd (decide (v1_0<((a0.fBindings.map z0a).length:Int)))
   (z2u n a1 a0 v1_0 k1_0_0 (z24 n a1 a0 k1_0_0 mv1_0) (decide (v1_0<((a1.fBindings.map z0a).length:Int))))
  <| z2u n a1 a0 v1_0 k1_0_0 (z24 n a1 a0 k1_0_0 mv1_0) false
def z2x (n:Nat)(a0:z03)(a1:z03):Option (Int) :=
 z24 n a1 a0
  (cnd (decide (((a0.fBindings.map z0a).length:Int)<((a1.fBindings.map z0a).length:Int)))
  (some (-1))
 <| cnd (decide (((a1.fBindings.map z0a).length:Int)<((a0.fBindings.map z0a).length:Int)))
  (some 1)
 <| some 0) n 0
structure z0b where
 fScope:Int
 fTime:Int
deriving DecidableEq,Inhabited
def z09 (x:z0b):AV:=.agg [aI (x.fScope),aI (x.fTime)]
structure z00 where
 fState:Int
 fBindings:(List z0u)
 fStarts:(List z0b)
deriving DecidableEq,Inhabited
def z0e (x:z00):AV:=.agg [aI (x.fState),.sl 4 (x.fBindings.map z0a),.sl 2 (x.fStarts.map z09)]
def z23 (n:Nat)(a1:z00)(a0:z00)(v1_0:Int)(cv1_0:Int->Option (Int))(x43:z0b)(x44:z0b)(w6_2:Bool):Option (Int) :=
 cnd (w6_2)
  (some (-1))
 <| cnd (!(decide (x43.fScope=x44.fScope) && (decide (x43.fTime=x44.fTime) && true)))
  (some 1)
 <| cv1_0 (IntKind.wrap .i64 (v1_0+1))
attribute [irreducible] z23
def z2t (n:Nat)(a1:z00)(a0:z00)(v1_0:Int)(k1_0_0:Option (Int))(cv1_0:Int->Option (Int))(w5_1:Bool):Option (Int) :=
 cnd (w5_1)
  (idx a0.fStarts v1_0 fun x43 =>
  idx a1.fStarts v1_0 fun x44 =>
  jon (z23 n a1 a0 v1_0 cv1_0 x43 x44) <|
  reg <| cnd (decide (x43.fScope<x44.fScope))
   (z23 n a1 a0 v1_0 cv1_0 x43 x44 true)
  <| cnd (decide (x43.fScope=x44.fScope))
   (z23 n a1 a0 v1_0 cv1_0 x43 x44 (decide (x43.fTime<x44.fTime)))
  <| z23 n a1 a0 v1_0 cv1_0 x43 x44 false)
 <| k1_0_0
attribute [irreducible] z2t
def z21 (n:Nat)(a1:z00)(a0:z00)(k1_0_0:Option (Int)):Nat->Int->Option (Int)
 |0,_=>none
 |mv1_0+1,v1_0 =>
  jon (z2t n a1 a0 v1_0 k1_0_0 (z21 n a1 a0 k1_0_0 mv1_0)) <|
  reg <| cnd (decide (v1_0<((a0.fStarts.map z09).length:Int)))
   (z2t n a1 a0 v1_0 k1_0_0 (z21 n a1 a0 k1_0_0 mv1_0) (decide (v1_0<((a1.fStarts.map z09).length:Int))))
  <| z2t n a1 a0 v1_0 k1_0_0 (z21 n a1 a0 k1_0_0 mv1_0) false
def z4s (n:Nat)(a0:z00)(a1:z00):Option (Int) :=
 cnd (!decide (a0.fState=a1.fState))
  (cnd (decide (a0.fState<a1.fState))
    (some (-1))
  <| some 1)
 <| bnd (z2x n (⟨a0.fBindings⟩:z03) (⟨a1.fBindings⟩:z03)) fun x1 =>
 cnd (!decide (x1=0))
  (some x1)
 <| z21 n a1 a0
  (cnd (decide (((a0.fStarts.map z09).length:Int)<((a1.fStarts.map z09).length:Int)))
  (some (-1))
 <| cnd (decide (((a1.fStarts.map z09).length:Int)<((a0.fStarts.map z09).length:Int)))
  (some 1)
 <| some 0) n 0
def z5l (n:Nat)(a1:z00)(a0:(List z00))(k1_0_0y:Int)(w3_1:Bool):Option ((List z00)) :=
 cnd (w3_1)
  (some a0)
 <| sls a0 0 k1_0_0y fun x45 =>
 app ([]:List z00) x45 56 fun x46 =>
 app x46 [a1] 56 fun x47 =>
 sls a0 k1_0_0y ((a0.map z0e).length:Int) fun x48 =>
 app x47 x48 56 fun x49 =>
 some x49
attribute [irreducible] z5l
def z5k (n:Nat)(a1:z00)(a0:(List z00))(v1_0:Int)(k1_0_0:Int->Option ((List z00)))(cv1_0:Int->Option ((List z00)))(w4_2:Bool):Option ((List z00)) :=
 cnd (w4_2)
  (cv1_0 (IntKind.wrap .i64 (v1_0+1)))
 <| k1_0_0 v1_0
attribute [irreducible] z5k
def z3o (n:Nat)(a1:z00)(a0:(List z00))(k1_0_0:Int->Option ((List z00))):Nat->Int->Option ((List z00))
 |0,_=>none
 |mv1_0+1,v1_0 =>
  jon (z5k n a1 a0 v1_0 k1_0_0 (z3o n a1 a0 k1_0_0 mv1_0)) <|
  reg <| cnd (decide (v1_0<((a0.map z0e).length:Int)))
   (idx a0 v1_0 fun x55 =>
   bnd (z4s n x55 a1) fun x56 =>
   z5k n a1 a0 v1_0 k1_0_0 (z3o n a1 a0 k1_0_0 mv1_0) (decide (x56<0)))
  <| z5k n a1 a0 v1_0 k1_0_0 (z3o n a1 a0 k1_0_0 mv1_0) false
def z80 (n:Nat)(a0:(List z00))(a1:z00):Option ((List z00)) :=
 z3o n a1 a0
  (fun k1_0_0y=>jon (z5l n a1 a0 k1_0_0y) <|
 reg <| cnd (decide (k1_0_0y<((a0.map z0e).length:Int)))
  (idx a0 k1_0_0y fun x50 =>
  bnd (z4s n x50 a1) fun x51 =>
  z5l n a1 a0 k1_0_0y (decide (x51=0)))
 <| z5l n a1 a0 k1_0_0y false) n 0
def z5i (n:Nat)(w1_0:Bool):Option (Bool) :=
 some w1_0
attribute [irreducible] z5i
def zao (n:Nat)(a0:Int):Option (Bool) :=
 jon (z5i n) <|
 reg <| cnd (decide (0<=a0))
  (z5i n (decide (a0<=5)))
 <| z5i n false
def z3v (n:Nat)(w1_0:Bool):Option (Bool) :=
 some w1_0
attribute [irreducible] z3v
def zan (n:Nat)(a0:Int)(a1:z02):Option (Bool) :=
 jon (z3v n) <|
 reg <| cnd (decide (a1.fKind=0))
  (z3v n true)
 <| cnd (!decide (a0=1))
  (cnd (!decide (a0=2))
    (z3v n (!decide (a0=3)))
  <| z3v n false)
 <| z3v n false
def z9i (n:Nat)(a0:Int)(a1:z02):Option (Int) :=
 bnd (zae n a1) fun x1 =>
 cnd (!decide (x1=0))
  (some x1)
 <| bnd (zan n a0 a1) fun x2 =>
 cnd (!(x2))
  (some 9)
 <| some 0
def zeb (n:Nat)(a0:Int)(a1:z02):Option (z02) :=
 cnd (decide (a0=0))
  (some (⟨0,0,ByteArray.empty⟩))
 <| some a1
def zc9 (n:Nat):Option (z02) :=
 some (⟨0,0,ByteArray.empty⟩)
def zc8 (n:Nat)(m0:z02)(m1:z02):Option (z02×z02×z02) :=
 some (⟨0,(IntKind.wrap .i64 (m0.fNum+m1.fNum)),ByteArray.empty⟩,m0,m1)
def zc7 (n:Nat)(m0:z02)(m1:z02):Option (z02×z02×z02) :=
 some (⟨0,(min m0.fNum m1.fNum),ByteArray.empty⟩,m0,m1)
def zc6 (n:Nat)(m0:z02)(m1:z02):Option (z02×z02×z02) :=
 some (⟨0,(max m0.fNum m1.fNum),ByteArray.empty⟩,m0,m1)
def zc5 (n:Nat)(m0:z02):Option (z02×z02) :=
 some (m0,m0)
def zc4 (n:Nat)(m0:z02):Option (z02×z02) :=
 some (m0,m0)
def zbe (n:Nat)(a0:Int)(a1:z02)(a2:z02):Option (z02) :=
 natc a0 0
  (bnd (zc9 n) fun x1 =>
 some x1)
 <| natc a0 1
  (bndM 15 (zc8 n a1 a2) fun x2 =>
 some x2.1)
 <| natc a0 2
  (bndM 15 (zc7 n a1 a2) fun x3 =>
 some x3.1)
 <| natc a0 3
  (bndM 15 (zc6 n a1 a2) fun x4 =>
 some x4.1)
 <| natc a0 4
  (bndM 15 (zc5 n a1) fun x5 =>
 some x5.1)
 <| natc a0 5
  (bndM 15 (zc4 n a2) fun x6 =>
 some x6.1)
 <| none
def zec (n:Nat)(a0:z0l)(a1:z0l):Option (z0l) :=
 cnd (decide (a0.fCount=0))
  (some a1)
 <| cnd (decide (a1.fCount=0))
  (some a0)
 <| bnd (zbe n a0.fKind a0.fValue a1.fValue) fun x1 =>
 some (⟨a0.fKind,(IntKind.wrap .i64 (a0.fCount+a1.fCount)),x1⟩)
def zfy (n:Nat)(a0:z0l)(a1:z02)(a2:Int):Option (z0l) :=
 bnd (zeb n a2 a1) fun x1 =>
 bnd (zec n a0 (⟨a2,1,x1⟩:z0l)) fun x2 =>
 some x2
def z8h (n:Nat)(a2c0:Int)(a1:(List z02))(k1_0_0:Int->Int->Int->Int->ByteArray->Option (z0l)):Nat->Int×Int×Int×Int×Int×ByteArray->Option (z0l)
 |0,_=>none
 |mv1_0+1,v1_0 =>
  cnd (decide (v1_0.1<((a1.map z06).length:Int)))
   (idx a1 v1_0.1 fun x46 =>
   bnd (zfy n (⟨v1_0.2.1,v1_0.2.2.1,⟨v1_0.2.2.2.1,v1_0.2.2.2.2.1,v1_0.2.2.2.2.2⟩⟩:z0l) x46 a2c0) fun x47 =>
   (z8h n a2c0 a1 k1_0_0 mv1_0) ((IntKind.wrap .i64 (v1_0.1+1)),x47.fKind,x47.fCount,x47.fValue.fKind,x47.fValue.fNum,x47.fValue.fText))
  <| k1_0_0 v1_0.2.1 v1_0.2.2.1 v1_0.2.2.2.1 v1_0.2.2.2.2.1 v1_0.2.2.2.2.2
def zc3 (n:Nat)(a0:z0l)(a1:(List z02))(a2c0:Int):Option (z0l) :=
 z8h n a2c0 a1
  (fun k1_0_0y0 k1_0_0y1 k1_0_0y2 k1_0_0y3 k1_0_0y4=>some (⟨k1_0_0y0,k1_0_0y1,⟨k1_0_0y2,k1_0_0y3,k1_0_0y4⟩⟩)) n (0,a0.fKind,a0.fCount,a0.fValue.fKind,a0.fValue.fNum,a0.fValue.fText)
def z7d (n:Nat)(a0:z0l)(w1_0:Bool):Option (Int) :=
 cnd (w1_0)
  (some 2)
 <| reg <| cnd (decide (a0.fCount=0))
  (cnd (!((decide (a0.fValue.fKind=0) && (decide (a0.fValue.fNum=0) && ((a0.fValue.fText.toList == ByteArray.empty.toList) && true)))))
    (some 3)
  <| some 0)
 <| cnd (decide (a0.fKind=0))
  (cnd (!((decide (a0.fValue.fKind=0) && (decide (a0.fValue.fNum=0) && ((a0.fValue.fText.toList == ByteArray.empty.toList) && true)))))
    (some 3)
  <| some 0)
 <| reg <| cnd (decide (a0.fKind=1))
  (reg <| cnd (decide (a0.fValue.fKind=0))
    (cnd ((a0.fValue.fText.toList == ByteArray.empty.toList))
      (cnd (decide ((IntKind.wrap .i64 (0-(IntKind.wrap .i64 (a0.fCount*1099511627776))))<=a0.fValue.fNum))
        (cnd (!(decide (a0.fValue.fNum<=(IntKind.wrap .i64 (a0.fCount*1099511627776)))))
          (some 3)
        <| some 0)
      <| some 3)
    <| some 3)
  <| some 3)
 <| reg <| bnd (zae n a0.fValue) fun x3 =>
 cnd (decide (x3=0))
  (bnd (zan n a0.fKind a0.fValue) fun x4 =>
  cnd (!(x4))
   (some 3)
  <| some 0)
 <| some 3
attribute [irreducible] z7d
def zd0 (n:Nat)(a0:z0l):Option (Int) :=
 bnd (zao n a0.fKind) fun x1 =>
 cnd (!(x1))
  (some 1)
 <| jon (z7d n a0) <|
 reg <| cnd (decide (a0.fCount<0))
  (z7d n a0 true)
 <| z7d n a0 (decide (4096<a0.fCount))
def z6q (n:Nat)(a1:z02)(a0:z0l)(w1_0:Bool):Option (z02×Int) :=
 cnd (w1_0)
  (some (a1,0))
 <| some (a0.fValue,0)
attribute [irreducible] z6q
def z9x (n:Nat)(a0:z0l)(a1:z02):Option (z02×Int) :=
 bnd (zd0 n a0) fun x1 =>
 cnd (!decide (x1=0))
  (some (⟨0,0,ByteArray.empty⟩,x1))
 <| bnd (z9i n a0.fKind a1) fun x2 =>
 cnd (!decide (x2=0))
  (some (⟨0,0,ByteArray.empty⟩,x2))
 <| cnd (decide (a0.fKind=0))
  (some (⟨0,a0.fCount,ByteArray.empty⟩,0))
 <| jon (z6q n a1 a0) <|
 reg <| cnd (decide (a0.fCount=0))
  (z6q n a1 a0 (!decide (a0.fKind=1)))
 <| z6q n a1 a0 false
def zap (n:Nat)(a2:z02)(a1:(List z02))(a0:Int)(k1_0_0:Option (z02×Int)):Nat->Int->Option (z02×Int)
 |0,_=>none
 |mv1_0+1,v1_0 =>
  cnd (decide (v1_0<((a1.map z06).length:Int)))
   (idx a1 v1_0 fun x44 =>
   bnd (z9i n a0 x44) fun x45 =>
   cnd (!decide (x45=0))
    (some (⟨0,0,ByteArray.empty⟩,x45))
   <| (zap n a2 a1 a0 k1_0_0 mv1_0) (IntKind.wrap .i64 (v1_0+1)))
  <| k1_0_0
def ze1 (n:Nat)(a0:Int)(a1:(List z02))(a2:z02):Option (z02×Int) :=
 bnd (zao n a0) fun x1 =>
 cnd (!(x1))
  (some (⟨0,0,ByteArray.empty⟩,1))
 <| cnd (decide (4096<((a1.map z06).length:Int)))
  (some (⟨0,0,ByteArray.empty⟩,5))
 <| zap n a2 a1 a0
  (bnd (zc3 n (⟨a0,0,⟨0,0,ByteArray.empty⟩⟩:z0l) a1 a0) fun x42 =>
 bnd (z9x n x42 a2) fun x43 =>
 some (x43.1,x43.2)) n 0
def zlt (n:Nat)(a0:Int):Option (Bool) :=
 some (!decide (a0=a0))
def z54 (n:Nat)(a0:Int)(a1:Int):Option (Int) :=
 bnd (zlt n a0) fun x1 =>
 bnd (zlt n a1) fun x2 =>
 cnd (x1)
  (cnd (x2)
    (some 0)
  <| some (-1))
 <| cnd (x2)
  (some 1)
 <| cnd (decide (a0<a1))
  (some (-1))
 <| cnd (decide (a1<a0))
  (some 1)
 <| some 0
def zhy (n:Nat)(a0:(List Int))(k1_0_0:Option (Int)):Nat->Int->Option (Int)
 |0,_=>none
 |mv1_0+1,v1_0 =>
  cnd (decide (v1_0<((a0.map aI).length:Int)))
   (idx a0 v1_0 fun x41 =>
   cnd (!decide (x41=0))
    (some x41)
   <| (zhy n a0 k1_0_0 mv1_0) (IntKind.wrap .i64 (v1_0+1)))
  <| k1_0_0
def zh8 (n:Nat)(a0:(List Int)):Option (Int) :=
 zhy n a0
  (some 0) n 0
def zit (n:Nat)(a0:z1g)(a1:z1g):Option (Int) :=
 bnd (z54 n a0.fTime a1.fTime) fun x1 =>
 bnd (z54 n a0.fSource a1.fSource) fun x2 =>
 bnd (z54 n a0.fSeq a1.fSeq) fun x3 =>
 bnd (zh8 n ([x1,x2,x3])) fun x4 =>
 some x4
def zcw (n:Nat)(a0:z0u)(a1:z0u):Option (Int) :=
 bnd (zit n (⟨a0.fRef.fTime,a0.fRef.fSource,a0.fRef.fSeq⟩:z1g) (⟨a1.fRef.fTime,a1.fRef.fSource,a1.fRef.fSeq⟩:z1g)) fun x1 =>
 bnd (z54 n a0.fVar a1.fVar) fun x2 =>
 bnd (zh8 n ([x1,x2])) fun x3 =>
 some x3
def z73 (n:Nat)(a1:(List z0u))(a0:(List z0u))(k1_0_0:Option (Int)):Nat->Int->Option (Int)
 |0,_=>none
 |mv1_0+1,v1_0 =>
  cnd (decide (v1_0<((a0.map z0a).length:Int)))
   (idx a0 v1_0 fun x41 =>
   cnd (decide (((a1.map z0a).length:Int)<=v1_0))
    (some 1)
   <| idx a1 v1_0 fun x42 =>
   bnd (zcw n (⟨x41.fVar,⟨x41.fRef.fTime,x41.fRef.fSource,x41.fRef.fSeq⟩⟩:z0u) (⟨x42.fVar,⟨x42.fRef.fTime,x42.fRef.fSource,x42.fRef.fSeq⟩⟩:z0u)) fun x43 =>
   cnd (!decide (x43=0))
    (some x43)
   <| (z73 n a1 a0 k1_0_0 mv1_0) (IntKind.wrap .i64 (v1_0+1)))
  <| k1_0_0
def za8 (n:Nat)(a0:(List z0u))(a1:(List z0u)):Option (Int) :=
 z73 n a1 a0
  (cnd (decide (((a0.map z0a).length:Int)<((a1.map z0a).length:Int)))
  (some (-1))
 <| some 0) n 0
def zcx (n:Nat)(a0:z03)(a1:z03):Option (Int) :=
 bnd (za8 n a0.fBindings a1.fBindings) fun x1 =>
 some x1
def zey (n:Nat)(a0:z0b)(a1:z0b):Option (Int) :=
 bnd (z54 n a0.fScope a1.fScope) fun x1 =>
 bnd (z54 n a0.fTime a1.fTime) fun x2 =>
 bnd (zh8 n ([x1,x2])) fun x3 =>
 some x3
def z47 (n:Nat)(a1:(List z0b))(a0:(List z0b))(k1_0_0:Option (Int)):Nat->Int->Option (Int)
 |0,_=>none
 |mv1_0+1,v1_0 =>
  cnd (decide (v1_0<((a0.map z09).length:Int)))
   (idx a0 v1_0 fun x41 =>
   cnd (decide (((a1.map z09).length:Int)<=v1_0))
    (some 1)
   <| idx a1 v1_0 fun x42 =>
   bnd (zey n x41 x42) fun x43 =>
   cnd (!decide (x43=0))
    (some x43)
   <| (z47 n a1 a0 k1_0_0 mv1_0) (IntKind.wrap .i64 (v1_0+1)))
  <| k1_0_0
def z8f (n:Nat)(a0:(List z0b))(a1:(List z0b)):Option (Int) :=
 z47 n a1 a0
  (cnd (decide (((a0.map z09).length:Int)<((a1.map z09).length:Int)))
  (some (-1))
 <| some 0) n 0
def zh4 (n:Nat)(a0:z00)(a1:z00):Option (Int) :=
 bnd (z54 n a0.fState a1.fState) fun x1 =>
 bnd (zcx n (⟨a0.fBindings⟩:z03) (⟨a1.fBindings⟩:z03)) fun x2 =>
 bnd (z8f n a0.fStarts a1.fStarts) fun x3 =>
 bnd (zh8 n ([x1,x2,x3])) fun x4 =>
 some x4
def zrr (n:Nat)(a0:z01):Option (z1g) :=
 some (⟨a0.fTime,a0.fSource,a0.fSeq⟩)
end Go.Proofs.YtjpknpjjcddnnaaGreat
