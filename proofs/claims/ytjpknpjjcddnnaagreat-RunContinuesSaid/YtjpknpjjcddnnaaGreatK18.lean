/- What some functions compute, over plain values. Printed by a program of mine (gen_fun.lean). -/
import Derived.Test.YtjpknpjjcddnnaaGreatK17
set_option linter.unusedVariables false
set_option linter.unusedSimpArgs false
set_option maxRecDepth 100000
set_option maxHeartbeats 8000000
namespace Go.Proofs.YtjpknpjjcddnnaaGreat
open Go.RowKit
structure z03 where
 fKind:Int
 fNum:Int
 fText:ByteArray
deriving DecidableEq,Inhabited
def z0a (x:z03):AV:=.agg [aI (x.fKind),aI (x.fNum),.str (x.fText)]
structure z0k where
 fOp:Int
 fArgs:(List AV)
 fVar:Int
 fField:Int
 fKind:Int
 fValue:z03
deriving Inhabited
def z1u (x:z0k):AV:=.agg [aI (x.fOp),.sl 8 (x.fArgs.map idA),aI (x.fVar),aI (x.fField),aI (x.fKind),aI (x.fValue.fKind),aI (x.fValue.fNum),.str (x.fValue.fText)]
def z3a:AV->Option z0k
 |.agg [.int .i64 c0,.sl 8 c1,.int .i64 c2,.int .i64 c3,.int .i64 c4,.int .i64 c5,.int .i64 c6,.str c7]=>some ⟨c0,c1,c2,c3,c4,⟨c5,c6,c7⟩⟩
 |_=>none
theorem z6u (a:AV)(y:z0k)(h:z3a a=some y):a=z1u y:=by
 unfold z3a at h
 split at h
 ·injection h with h;subst h;simp [z1u,aI,map_idA]
 ·cases h
theorem zki (y:z0k):z3a (z1u y)=some y:=by simp [z3a,z1u,aI,map_idA]
def z44 (n:Nat)(rF_tidegateref08_Count:z0k->Int->Option (Int))(a1:Int)(a0:z0k)(v1_0:Int×Int)(k1_0_0:Int->Option (Int))(cv1_0:(Int×Int)->Option (Int))(w3_1:Bool):Option (Int) :=
 cnd (w3_1)
  (idxD z3a a0.fArgs v1_0.2 fun x43 =>
  bnd (rF_tidegateref08_Count x43 a1) fun x44 =>
  cv1_0 ((IntKind.wrap .i64 (v1_0.1+x44)),(IntKind.wrap .i64 (v1_0.2+1))))
 <| k1_0_0 v1_0.1
attribute [irreducible] z44
def z2p (n:Nat)(rF_tidegateref08_Count:z0k->Int->Option (Int))(a1:Int)(a0:z0k)(k1_0_0:Int->Option (Int)):Nat->Int×Int->Option (Int)
 |0,_=>none
 |mv1_0+1,v1_0 =>
  jon (z44 n rF_tidegateref08_Count a1 a0 v1_0 k1_0_0 (z2p n rF_tidegateref08_Count a1 a0 k1_0_0 mv1_0)) <|
  reg <| cnd (decide (v1_0.2<((a0.fArgs.map idA).length:Int)))
   (z44 n rF_tidegateref08_Count a1 a0 v1_0 k1_0_0 (z2p n rF_tidegateref08_Count a1 a0 k1_0_0 mv1_0) (decide (v1_0.1<=a1)))
  <| z44 n rF_tidegateref08_Count a1 a0 v1_0 k1_0_0 (z2p n rF_tidegateref08_Count a1 a0 k1_0_0 mv1_0) false
def z33:Nat->z0k->Int->Option (Int)
 |0,_,_=>none
 |n+1,a0,a1 =>
 z2p n (z33 n) a1 a0
  (fun k1_0_0y=>some k1_0_0y) n (1,0)
def z6b (n:Nat)(rF_tidegateref08_Depth:z0k->Option (Int))(a0:z0k)(k1_0_0:Int->Option (Int)):Nat->Int×Int->Option (Int)
 |0,_=>none
 |mv1_0+1,v1_0 =>
  cnd (decide (v1_0.2<((a0.fArgs.map idA).length:Int)))
   (idxD z3a a0.fArgs v1_0.2 fun x42 =>
   bnd (rF_tidegateref08_Depth x42) fun x43 =>
   (z6b n rF_tidegateref08_Depth a0 k1_0_0 mv1_0) ((max v1_0.1 x43),(IntKind.wrap .i64 (v1_0.2+1))))
  <| k1_0_0 v1_0.1
def z32:Nat->z0k->Option (Int)
 |0,_=>none
 |n+1,a0 =>
 z6b n (z32 n) a0
  (fun k1_0_0y=>some (IntKind.wrap .i64 (k1_0_0y+1))) n (0,0)
def z1c (n:Nat)(w2_1:Bool):Option (Int) :=
 cnd (w2_1)
  (some 2)
 <| some (-1)
attribute [irreducible] z1c
def z1o (n:Nat)(a0:Int)(w1_0:Bool):Option (Int) :=
 cnd (w1_0)
  (some 0)
 <| cnd (decide (a0=12))
  (some 1)
 <| jon (z1c n) <|
 reg <| cnd (decide (a0=5))
  (z1c n (decide (a0=5)))
 <| reg <| cnd (decide (a0=6))
  (z1c n (decide (a0=6)))
 <| reg <| cnd (decide (a0=7))
  (z1c n (decide (a0=7)))
 <| reg <| cnd (decide (a0=8))
  (z1c n (decide (a0=8)))
 <| reg <| cnd (decide (a0=9))
  (z1c n (decide (a0=9)))
 <| reg <| cnd (decide (a0=10))
  (z1c n (decide (a0=10)))
 <| z1c n (decide (a0=11))
attribute [irreducible] z1o
def z9q (n:Nat)(a0:Int):Option (Int) :=
 jon (z1o n a0) <|
 reg <| cnd (decide (a0=0))
  (z1o n a0 (decide (a0=0)))
 <| reg <| cnd (decide (a0=1))
  (z1o n a0 (decide (a0=1)))
 <| reg <| cnd (decide (a0=2))
  (z1o n a0 (decide (a0=2)))
 <| reg <| cnd (decide (a0=3))
  (z1o n a0 (decide (a0=3)))
 <| z1o n a0 (decide (a0=4))
def z30 (n:Nat)(w1_0:Bool)(w2_1:Bool):Option (Bool×Bool) :=
 some (w2_1,w1_0)
attribute [irreducible] z30
def z4t (n:Nat)(a0:Int)(w1_0:Bool):Option (Bool×Bool) :=
 jon (z30 n w1_0) <|
 reg <| cnd (w1_0)
  (z30 n w1_0 true)
 <| cnd (decide (a0=2))
  (z30 n w1_0 true)
 <| z30 n w1_0 (decide (a0=3))
attribute [irreducible] z4t
def za7 (n:Nat)(a0:Int):Option (Bool×Bool) :=
 jon (z4t n a0) <|
 reg <| cnd (decide (a0=1))
  (z4t n a0 true)
 <| z4t n a0 (decide (a0=4))
def z35 (n:Nat)(a0:z03):Option (Int) :=
 cnd (decide (a0.fKind<0))
  (some 1)
 <| cnd (decide (2<a0.fKind))
  (some 1)
 <| cnd (decide (a0.fKind=2))
  (cnd (!decide (a0.fNum=0))
    (some 3)
  <| cnd (decide (64<((a0.fText.size:Nat):Int)))
   (some 13)
  <| some 0)
 <| cnd (!(a0.fText.toList == ByteArray.empty.toList))
  (some 3)
 <| cnd (decide (a0.fKind=1))
  (cnd (decide (a0.fNum<0))
    (some 2)
  <| cnd (decide (1<a0.fNum))
   (some 2)
  <| cnd (decide (a0.fNum<(-1099511627776)))
   (some 2)
  <| cnd (decide (1099511627776<a0.fNum))
   (some 2)
  <| some 0)
 <| cnd (decide (a0.fNum<(-1099511627776)))
  (some 2)
 <| cnd (decide (1099511627776<a0.fNum))
  (some 2)
 <| some 0
def z1x (n:Nat)(w1_0:Bool):Option (Bool) :=
 some w1_0
attribute [irreducible] z1x
def z6n (n:Nat)(a0:Int)(a1:z03):Option (Bool) :=
 jon (z1x n) <|
 reg <| cnd (decide (a1.fKind=0))
  (z1x n true)
 <| cnd (decide (a0=0))
  (z1x n true)
 <| cnd (decide (a0=4))
  (z1x n true)
 <| z1x n (decide (a0=5))
def z0n (n:Nat)(w6_5:Bool):Option (Int) :=
 cnd (w6_5)
  (some 3)
 <| some 0
attribute [irreducible] z0n
def z2a (n:Nat)(a0:z0k)(x2:Bool×Bool)(w3_2:Bool)(w5_4:Bool):Option (Int) :=
 cnd (w5_4)
  (some 9)
 <| jon (z0n n) <|
 reg <| cnd (!(x2.1))
  (cnd (!decide (a0.fVar=0))
    (z0n n true)
  <| cnd (!(x2.2))
   (cnd (!decide (a0.fField=0))
     (z0n n true)
   <| cnd (!(decide (a0.fOp=4)))
    (cnd (!decide (a0.fKind=0))
      (z0n n true)
    <| cnd (!(w3_2))
     (z0n n (!(decide (a0.fValue.fKind=0) && (decide (a0.fValue.fNum=0) && ((a0.fValue.fText.toList == ByteArray.empty.toList) && true)))))
    <| z0n n false)
   <| cnd (!(w3_2))
    (z0n n (!(decide (a0.fValue.fKind=0) && (decide (a0.fValue.fNum=0) && ((a0.fValue.fText.toList == ByteArray.empty.toList) && true)))))
   <| z0n n false)
  <| cnd (!(decide (a0.fOp=4)))
   (cnd (!decide (a0.fKind=0))
     (z0n n true)
   <| cnd (!(w3_2))
    (z0n n (!(decide (a0.fValue.fKind=0) && (decide (a0.fValue.fNum=0) && ((a0.fValue.fText.toList == ByteArray.empty.toList) && true)))))
   <| z0n n false)
  <| cnd (!(w3_2))
   (z0n n (!(decide (a0.fValue.fKind=0) && (decide (a0.fValue.fNum=0) && ((a0.fValue.fText.toList == ByteArray.empty.toList) && true)))))
  <| z0n n false)
 <| cnd (!(x2.2))
  (cnd (!decide (a0.fField=0))
    (z0n n true)
  <| cnd (!(decide (a0.fOp=4)))
   (cnd (!decide (a0.fKind=0))
     (z0n n true)
   <| cnd (!(w3_2))
    (z0n n (!(decide (a0.fValue.fKind=0) && (decide (a0.fValue.fNum=0) && ((a0.fValue.fText.toList == ByteArray.empty.toList) && true)))))
   <| z0n n false)
  <| cnd (!(w3_2))
   (z0n n (!(decide (a0.fValue.fKind=0) && (decide (a0.fValue.fNum=0) && ((a0.fValue.fText.toList == ByteArray.empty.toList) && true)))))
  <| z0n n false)
 <| cnd (!(decide (a0.fOp=4)))
  (cnd (!decide (a0.fKind=0))
    (z0n n true)
  <| cnd (!(w3_2))
   (z0n n (!(decide (a0.fValue.fKind=0) && (decide (a0.fValue.fNum=0) && ((a0.fValue.fText.toList == ByteArray.empty.toList) && true)))))
  <| z0n n false)
 <| cnd (!(w3_2))
  (z0n n (!(decide (a0.fValue.fKind=0) && (decide (a0.fValue.fNum=0) && ((a0.fValue.fText.toList == ByteArray.empty.toList) && true)))))
 <| z0n n false
attribute [irreducible] z2a
def z4u (n:Nat)(a0:z0k)(x2:Bool×Bool)(w3_2:Bool)(_:Unit):Option (Int) :=
 jon (z2a n a0 x2 w3_2) <|
 reg <| cnd (decide (a0.fOp=4))
  (bnd (z6n n a0.fKind a0.fValue) fun x10 =>
  cnd (!(x10))
   (z2a n a0 x2 w3_2 true)
  <| cnd (decide (a0.fKind=1))
   (z2a n a0 x2 w3_2 (!(decide (a0.fValue.fKind=0) && (decide (a0.fValue.fNum=0) && ((a0.fValue.fText.toList == ByteArray.empty.toList) && true)))))
  <| z2a n a0 x2 w3_2 false)
 <| z2a n a0 x2 w3_2 false
attribute [irreducible] z4u
def z4v (n:Nat)(a0:z0k)(x2:Bool×Bool)(w3_2:Bool):Option (Int) :=
 jon (z4u n a0 x2 w3_2) <|
 reg <| cnd (w3_2)
  (bnd (z35 n a0.fValue) fun x11 =>
  cnd (!decide (x11=0))
   (some x11)
  <| z4u n a0 x2 w3_2 ())
 <| z4u n a0 x2 w3_2 ()
attribute [irreducible] z4v
def z31 (n:Nat)(a0:z0k)(x2:Bool×Bool)(w2_1:Bool):Option (Int) :=
 cnd (w2_1)
  (some 1)
 <| jon (z4v n a0 x2) <|
 reg <| cnd (decide (a0.fOp=4))
  (z4v n a0 x2 true)
 <| z4v n a0 x2 (decide (a0.fOp=0))
attribute [irreducible] z31
def z18 (n:Nat)(a0:z0k)(x2:Bool×Bool)(w1_0:Bool):Option (Int) :=
 cnd (w1_0)
  (some 2)
 <| jon (z31 n a0 x2) <|
 reg <| cnd (decide (a0.fOp=4))
  (cnd (decide (a0.fKind<1))
    (z31 n a0 x2 true)
  <| z31 n a0 x2 (decide (5<a0.fKind)))
 <| z31 n a0 x2 false
attribute [irreducible] z18
def za9 (n:Nat)(a0:z0k):Option (Int) :=
 bnd (z9q n a0.fOp) fun x1 =>
 cnd (decide (x1<0))
  (some 1)
 <| cnd (!decide (((a0.fArgs.map idA).length:Int)=x1))
  (some 15)
 <| bnd (za7 n a0.fOp) fun x2 =>
 jon (z18 n a0 x2) <|
 reg <| cnd (x2.1)
  (cnd (decide (a0.fVar<0))
    (z18 n a0 x2 true)
  <| cnd (decide (16<=a0.fVar))
   (z18 n a0 x2 true)
  <| cnd (x2.2)
   (cnd (decide (a0.fField<0))
     (z18 n a0 x2 true)
   <| z18 n a0 x2 (decide (8<=a0.fField)))
  <| z18 n a0 x2 false)
 <| cnd (x2.2)
  (cnd (decide (a0.fField<0))
    (z18 n a0 x2 true)
  <| z18 n a0 x2 (decide (8<=a0.fField)))
 <| z18 n a0 x2 false
def z6a (n:Nat)(rF_tidegateref08_nodes:z0k->Option (Int))(a0:z0k)(k1_0_0:Option (Int)):Nat->Int->Option (Int)
 |0,_=>none
 |mv1_0+1,v1_0 =>
  cnd (decide (v1_0<((a0.fArgs.map idA).length:Int)))
   (idxD z3a a0.fArgs v1_0 fun x42 =>
   bnd (rF_tidegateref08_nodes x42) fun x43 =>
   cnd (!decide (x43=0))
    (some x43)
   <| (z6a n rF_tidegateref08_nodes a0 k1_0_0 mv1_0) (IntKind.wrap .i64 (v1_0+1)))
  <| k1_0_0
def z4c:Nat->z0k->Option (Int)
 |0,_=>none
 |n+1,a0 =>
 bnd (za9 n a0) fun x1 =>
 cnd (!decide (x1=0))
  (some x1)
 <| z6a n (z4c n) a0
  (some 0) n 0
def z2i (n:Nat)(a0:z0k):Option (Int) :=
 bnd (z33 n a0 64) fun x1 =>
 cnd (decide (64<x1))
  (some 5)
 <| bnd (z32 n a0) fun x2 =>
 cnd (decide (12<x2))
  (some 12)
 <| bnd (z4c n a0) fun x3 =>
 some x3
structure z0q where
 fScope:Int
 fType:Int
 fVar:Int
 fCond:z0k
deriving Inhabited
def z0t (x:z0q):AV:=.agg [aI (x.fScope),aI (x.fType),aI (x.fVar),aI (x.fCond.fOp),.sl 8 (x.fCond.fArgs.map idA),aI (x.fCond.fVar),aI (x.fCond.fField),aI (x.fCond.fKind),aI (x.fCond.fValue.fKind),aI (x.fCond.fValue.fNum),.str (x.fCond.fValue.fText)]
structure z9b where
 fGuards:(List z0q)
deriving Inhabited
def z0d (x:z9b):AV:=.agg [.sl 11 (x.fGuards.map z0t)]
structure z0z where
 fScope:Int
 fSpan:Int
deriving DecidableEq,Inhabited
def z0r (x:z0z):AV:=.agg [aI (x.fScope),aI (x.fSpan)]
structure z0j where
 fFrom:Int
 fTo:Int
 fVar:Int
 fType:Int
 fCond:z0k
 fOpens:(List Int)
 fCloses:(List Int)
 fChecks:(List AV)
 fLimits:(List z0z)
 fInside:(List Int)
deriving Inhabited
def z0e (x:z0j):AV:=.agg [aI (x.fFrom),aI (x.fTo),aI (x.fVar),aI (x.fType),aI (x.fCond.fOp),.sl 8 (x.fCond.fArgs.map idA),aI (x.fCond.fVar),aI (x.fCond.fField),aI (x.fCond.fKind),aI (x.fCond.fValue.fKind),aI (x.fCond.fValue.fNum),.str (x.fCond.fValue.fText),.sl 1 (x.fOpens.map aI),.sl 1 (x.fCloses.map aI),.sl 8 (x.fChecks.map idA),.sl 2 (x.fLimits.map z0r),.sl 1 (x.fInside.map aI)]
structure z05 where
 fVars:Int
 fScopes:Int
 fStates:(List z9b)
 fEdges:(List z0j)
deriving Inhabited
def zgc (x:z05):AV:=.agg [aI (x.fVars),aI (x.fScopes),.sl 1 (x.fStates.map z0d),.sl 17 (x.fEdges.map z0e)]
def z5p (n:Nat)(w1_0:Bool):Option (Bool) :=
 some w1_0
attribute [irreducible] z5p
def z14 (n:Nat)(a0:Int)(a1:Int):Option (Bool) :=
 jon (z5p n) <|
 reg <| cnd (decide (a0<0))
  (z5p n true)
 <| z5p n (decide (a1<a0))
def z59 (n:Nat)(a1:(List z0q))(a0:z05)(v1_0:Int)(k2_2_0:Option (Int)):Nat->Int->Option (Int)
 |0,_=>none
 |mv2_2+1,v2_2 =>
  cnd (decide (v2_2<v1_0))
   (idx a1 v2_2 fun x90 =>
   idx a1 v1_0 fun x91 =>
   cnd (decide (x90.fScope=x91.fScope))
    (some 7)
   <| (z59 n a1 a0 v1_0 k2_2_0 mv2_2) (IntKind.wrap .i64 (v2_2+1)))
  <| k2_2_0
def z2g (n:Nat)(a1:(List z0q))(a0:z05)(v1_0:Int)(cv1_0:Int->Option (Int))(w3_1:Bool):Option (Int) :=
 cnd (w3_1)
  (some 2)
 <| z59 n a1 a0 v1_0
  (idx a1 v1_0 fun x88 =>
 bnd (z2i n x88.fCond) fun x89 =>
 cnd (!decide (x89=0))
  (some x89)
 <| cv1_0 (IntKind.wrap .i64 (v1_0+1))) n 0
attribute [irreducible] z2g
def z1j (n:Nat)(a1:(List z0q))(a0:z05)(k1_0_0:Option (Int)):Nat->Int->Option (Int)
 |0,_=>none
 |mv1_0+1,v1_0 =>
  cnd (decide (v1_0<((a1.map z0t).length:Int)))
   (jon (z2g n a1 a0 v1_0 (z1j n a1 a0 k1_0_0 mv1_0)) <|
   reg <| idx a1 v1_0 fun x92 =>
   bnd (z14 n x92.fScope (IntKind.wrap .i64 (a0.fScopes-1))) fun x93 =>
   cnd (x93)
    (z2g n a1 a0 v1_0 (z1j n a1 a0 k1_0_0 mv1_0) true)
   <| idx a1 v1_0 fun x94 =>
   bnd (z14 n x94.fType 15) fun x95 =>
   cnd (x95)
    (z2g n a1 a0 v1_0 (z1j n a1 a0 k1_0_0 mv1_0) true)
   <| idx a1 v1_0 fun x96 =>
   bnd (z14 n x96.fVar (IntKind.wrap .i64 (a0.fVars-1))) fun x97 =>
   z2g n a1 a0 v1_0 (z1j n a1 a0 k1_0_0 mv1_0) x97)
  <| k1_0_0
def z93 (n:Nat)(a0:z05)(a1:(List z0q)):Option (Int) :=
 cnd (decide (64<((a1.map z0t).length:Int)))
  (some 5)
 <| z1j n a1 a0
  (some 0) n 0
def z58 (n:Nat)(a1:Int)(a0:(List Int))(v1_0:Int)(k2_1_0:Option (Int)):Nat->Int->Option (Int)
 |0,_=>none
 |mv2_1+1,v2_1 =>
  cnd (decide (v2_1<v1_0))
   (idx a0 v2_1 fun x83 =>
   idx a0 v1_0 fun x84 =>
   cnd (decide (x83=x84))
    (some 7)
   <| (z58 n a1 a0 v1_0 k2_1_0 mv2_1) (IntKind.wrap .i64 (v2_1+1)))
  <| k2_1_0
def z3e (n:Nat)(a1:Int)(a0:(List Int))(k1_0_0:Option (Int)):Nat->Int->Option (Int)
 |0,_=>none
 |mv1_0+1,v1_0 =>
  cnd (decide (v1_0<((a0.map aI).length:Int)))
   (idx a0 v1_0 fun x41 =>
   bnd (z14 n x41 (IntKind.wrap .i64 (a1-1))) fun x42 =>
   cnd (x42)
    (some 2)
   <| z58 n a1 a0 v1_0
    ((z3e n a1 a0 k1_0_0 mv1_0) (IntKind.wrap .i64 (v1_0+1))) n 0)
  <| k1_0_0
def z7k (n:Nat)(a0:(List Int))(a1:Int):Option (Int) :=
 z3e n a1 a0
  (some 0) n 0
def z40 (n:Nat)(a1:z0j)(k3_2_0:Option (Int)):Nat->Int->Option (Int)
 |0,_=>none
 |mv3_2+1,v3_2 =>
  cnd (decide (v3_2<((a1.fLimits.map z0r).length:Int)))
   (idx a1.fLimits v3_2 fun x122 =>
   bnd (z14 n x122.fSpan 1099511627776) fun x123 =>
   cnd (x123)
    (some 2)
   <| (z40 n a1 k3_2_0 mv3_2) (IntKind.wrap .i64 (v3_2+1)))
  <| k3_2_0
def z1v (n:Nat)(a1:z0j)(a0:z05)(k1_0_0y:(List Int))(k2_1_0:Option (Int)):Nat->Int->Option (Int)
 |0,_=>none
 |mv2_1+1,v2_1 =>
  cnd (decide (v2_1<4))
   (idx ([a1.fOpens,a1.fCloses,a1.fInside,k1_0_0y]:List (List Int)) v2_1 fun x124 =>
   bnd (z7k n x124 a0.fScopes) fun x125 =>
   cnd (!decide (x125=0))
    (some x125)
   <| (z1v n a1 a0 k1_0_0y k2_1_0 mv2_1) (IntKind.wrap .i64 (v2_1+1)))
  <| k2_1_0
def z65 (n:Nat)(a1:z0j)(a0:z05)(k1_0_0:(List Int)->Option (Int)):Nat->Int×(List Int)->Option (Int)
 |0,_=>none
 |mv1_0+1,v1_0 =>
  cnd (decide (v1_0.1<((a1.fLimits.map z0r).length:Int)))
   (idx a1.fLimits v1_0.1 fun x126 =>
   app v1_0.2 [x126.fScope] 8 fun x127 =>
   (z65 n a1 a0 k1_0_0 mv1_0) ((IntKind.wrap .i64 (v1_0.1+1)),x127))
  <| k1_0_0 v1_0.2
def z81 (n:Nat)(a0:z05)(a1:z0j):Option (Int) :=
 z65 n a1 a0
  (fun k1_0_0y=>frz 7026 <| reg <| z1v n a1 a0 k1_0_0y
  (z40 n a1
  (some 0) n 0) n 0) n (0,[])
def z6y (n:Nat)(a1:z0j)(a0:z05)(k1_1_0:Option (Int)):Nat->Int->Option (Int)
 |0,_=>none
 |mv1_1+1,v1_1 =>
  cnd (decide (v1_1<((a1.fChecks.map idA).length:Int)))
   (idxD z3a a1.fChecks v1_1 fun x50 =>
   bnd (z2i n x50) fun x51 =>
   cnd (!decide (x51=0))
    (some x51)
   <| (z6y n a1 a0 k1_1_0 mv1_1) (IntKind.wrap .i64 (v1_1+1)))
  <| k1_1_0
def z11 (n:Nat)(a2:Int)(a1:z0j)(a0:z05)(w1_0:Bool):Option (Int) :=
 cnd (w1_0)
  (some 2)
 <| cnd (decide (a1.fFrom<a2))
  (some 14)
 <| bnd (z2i n a1.fCond) fun x8 =>
 cnd (!decide (x8=0))
  (some x8)
 <| cnd (decide (64<((a1.fChecks.map idA).length:Int)))
  (some 5)
 <| z6y n a1 a0
  (bnd (z81 n a0 a1) fun x49 =>
 some x49) n 0
attribute [irreducible] z11
def za5 (n:Nat)(a0:z05)(a1:z0j)(a2:Int):Option (Int) :=
 jon (z11 n a2 a1 a0) <|
 reg <| bnd (z14 n a1.fFrom (IntKind.wrap .i64 (((a0.fStates.map z0d).length:Int)-1))) fun x52 =>
 cnd (x52)
  (z11 n a2 a1 a0 true)
 <| cnd (!decide (a1.fTo=(-1)))
  (bnd (z14 n a1.fTo (IntKind.wrap .i64 (((a0.fStates.map z0d).length:Int)-1))) fun x53 =>
  cnd (x53)
   (z11 n a2 a1 a0 true)
  <| bnd (z14 n a1.fVar (IntKind.wrap .i64 (a0.fVars-1))) fun x54 =>
  cnd (x54)
   (z11 n a2 a1 a0 true)
  <| bnd (z14 n a1.fType 15) fun x55 =>
  z11 n a2 a1 a0 x55)
 <| bnd (z14 n a1.fVar (IntKind.wrap .i64 (a0.fVars-1))) fun x56 =>
 cnd (x56)
  (z11 n a2 a1 a0 true)
 <| bnd (z14 n a1.fType 15) fun x57 =>
 z11 n a2 a1 a0 x57
def z67 (n:Nat)(a0:z05)(k2_3_0:Option (Int)):Nat->Int×Int->Option (Int)
 |0,_=>none
 |mv2_3+1,v2_3 =>
  cnd (decide (v2_3.2<((a0.fEdges.map z0e).length:Int)))
   (idx a0.fEdges v2_3.2 fun x85 =>
   bnd (za5 n a0 x85 v2_3.1) fun x86 =>
   cnd (!decide (x86=0))
    (some x86)
   <| idx a0.fEdges v2_3.2 fun x87 =>
   (z67 n a0 k2_3_0 mv2_3) (x87.fFrom,(IntKind.wrap .i64 (v2_3.2+1))))
  <| k2_3_0
def z68 (n:Nat)(a0:z05)(k1_2_0:Option (Int)):Nat->Int->Option (Int)
 |0,_=>none
 |mv1_2+1,v1_2 =>
  cnd (decide (v1_2<((a0.fStates.map z0d).length:Int)))
   (idx a0.fStates v1_2 fun x88 =>
   bnd (z93 n a0 x88.fGuards) fun x89 =>
   cnd (!decide (x89=0))
    (some x89)
   <| (z68 n a0 k1_2_0 mv1_2) (IntKind.wrap .i64 (v1_2+1)))
  <| k1_2_0
def z1m (n:Nat)(a0:z05)(w2_1:Bool):Option (Int) :=
 cnd (w2_1)
  (some 5)
 <| z68 n a0
  (z67 n a0
  (some 0) n (0,0)) n 0
attribute [irreducible] z1m
def z1w (n:Nat)(a0:z05)(w1_0:Bool):Option (Int) :=
 cnd (w1_0)
  (some 2)
 <| jon (z1m n a0) <|
 reg <| cnd (decide (((a0.fStates.map z0d).length:Int)<1))
  (z1m n a0 true)
 <| cnd (decide (256<((a0.fStates.map z0d).length:Int)))
  (z1m n a0 true)
 <| z1m n a0 (decide (2048<((a0.fEdges.map z0e).length:Int)))
attribute [irreducible] z1w
def z6k (n:Nat)(a0:z05):Option (Int) :=
 jon (z1w n a0) <|
 reg <| bnd (z14 n a0.fVars 16) fun x90 =>
 cnd (x90)
  (z1w n a0 true)
 <| bnd (z14 n a0.fScopes 64) fun x91 =>
 z1w n a0 x91
def zdy (n:Nat)(rF_expr_Size:z0k->Option (Int×Int))(a0:z0k)(k1_0_0:Int->Int->Option (Int×Int)):Nat->Int×Int×Int->Option (Int×Int)
 |0,_=>none
 |mv1_0+1,v1_0 =>
  cnd (decide (v1_0.2.2<((a0.fArgs.map idA).length:Int)))
   (idxD z3a a0.fArgs v1_0.2.2 fun x43 =>
   bnd (rF_expr_Size x43) fun x44 =>
   (zdy n rF_expr_Size a0 k1_0_0 mv1_0) ((IntKind.wrap .i64 (v1_0.1+x44.1)),(max v1_0.2.1 x44.2),(IntKind.wrap .i64 (v1_0.2.2+1))))
  <| k1_0_0 v1_0.1 v1_0.2.1
def zf0:Nat->z0k->Option (Int×Int)
 |0,_=>none
 |n+1,a0 =>
 zdy n (zf0 n) a0
  (fun k1_0_0y0 k1_0_0y1=>some (k1_0_0y0,(IntKind.wrap .i64 (k1_0_0y1+1)))) n (1,0,0)
def zbi (n:Nat)(a0:Int)(w1_0:Bool):Option (Int×Bool) :=
 cnd (w1_0)
  (some (0,false))
 <| cnd (decide (a0<5))
  (some (0,true))
 <| cnd (decide (a0=12))
  (some (1,true))
 <| some (2,true)
attribute [irreducible] zbi
def zj5 (n:Nat)(a0:Int):Option (Int×Bool) :=
 jon (zbi n a0) <|
 reg <| cnd (decide (a0<0))
  (zbi n a0 true)
 <| zbi n a0 (decide (12<a0))
def zcm (n:Nat)(w2_1:Bool):Option (Bool×Bool) :=
 cnd (w2_1)
  (some (true,false))
 <| some (false,false)
attribute [irreducible] zcm
def zcn (n:Nat)(a0:Int)(w1_0:Bool):Option (Bool×Bool) :=
 cnd (w1_0)
  (some (true,true))
 <| jon (zcm n) <|
 reg <| cnd (decide (a0=2))
  (zcm n (decide (a0=2)))
 <| zcm n (decide (a0=3))
attribute [irreducible] zcn
def zlq (n:Nat)(a0:Int):Option (Bool×Bool) :=
 jon (zcn n a0) <|
 reg <| cnd (decide (a0=1))
  (zcn n a0 (decide (a0=1)))
 <| zcn n a0 (decide (a0=4))
def zeu (n:Nat)(a0:z03):Option (Int) :=
 cnd (decide (a0.fKind=0))
  (cnd (decide (a0.fNum<(-1099511627776)))
    (some 2)
  <| cnd (decide (1099511627776<a0.fNum))
   (some 2)
  <| cnd (decide (a0.fKind=1))
   (cnd (!decide (a0.fNum=0))
     (cnd (!decide (a0.fNum=1))
       (some 2)
     <| cnd (decide (64<((a0.fText.size:Nat):Int)))
      (some 13)
     <| some 0)
   <| cnd (decide (64<((a0.fText.size:Nat):Int)))
    (some 13)
   <| some 0)
  <| cnd (decide (64<((a0.fText.size:Nat):Int)))
   (some 13)
  <| some 0)
 <| cnd (decide (a0.fKind=1))
  (cnd (!decide (a0.fNum=0))
    (cnd (!decide (a0.fNum=1))
      (some 2)
    <| cnd (decide (64<((a0.fText.size:Nat):Int)))
     (some 13)
    <| some 0)
  <| cnd (decide (64<((a0.fText.size:Nat):Int)))
   (some 13)
  <| some 0)
 <| cnd (decide (64<((a0.fText.size:Nat):Int)))
  (some 13)
 <| some 0
def zah (n:Nat)(a0:z03):Option (Int) :=
 cnd (decide (a0.fKind=0))
  (cnd (decide (a0.fKind=0))
    (cnd (!(a0.fText.toList == ByteArray.empty.toList))
      (some 3)
    <| bnd (zeu n a0) fun x1 =>
    some x1)
  <| cnd (decide (a0.fKind=2))
   (cnd (!decide (a0.fNum=0))
     (some 3)
   <| bnd (zeu n a0) fun x2 =>
   some x2)
  <| some 1)
 <| cnd (decide (a0.fKind=1))
  (cnd (!(a0.fText.toList == ByteArray.empty.toList))
    (some 3)
  <| bnd (zeu n a0) fun x3 =>
  some x3)
 <| cnd (decide (a0.fKind=2))
  (cnd (!decide (a0.fNum=0))
    (some 3)
  <| bnd (zeu n a0) fun x4 =>
  some x4)
 <| some 1
def z9t (n:Nat)(w1_0:Bool):Option (Bool) :=
 some w1_0
attribute [irreducible] z9t
def zj4 (n:Nat)(a0:Int)(a1:z03):Option (Bool) :=
 jon (z9t n) <|
 reg <| cnd (decide (a1.fKind=0))
  (z9t n true)
 <| cnd (decide (a0=4))
  (z9t n true)
 <| z9t n (decide (a0=5))
def z54 (n:Nat)(w1_0:Bool):Option (Int) :=
 cnd (w1_0)
  (some 9)
 <| some 0
attribute [irreducible] z54
def zdu (n:Nat)(a0:z0k):Option (Int) :=
 bnd (zah n a0.fValue) fun x1 =>
 cnd (!decide (x1=0))
  (some x1)
 <| jon (z54 n) <|
 reg <| cnd (decide (a0.fOp=4))
  (bnd (zj4 n a0.fKind a0.fValue) fun x4 =>
  cnd (!(x4))
   (z54 n true)
  <| cnd (decide (a0.fKind=1))
   (z54 n (!(decide (a0.fValue.fKind=0) && (decide (a0.fValue.fNum=0) && ((a0.fValue.fText.toList == ByteArray.empty.toList) && true)))))
  <| z54 n false)
 <| z54 n false
def z0y (n:Nat)(w5_4:Bool):Option (Int) :=
 cnd (w5_4)
  (some 3)
 <| some 0
attribute [irreducible] z0y
def zco (n:Nat)(a0:z0k)(x2:Bool×Bool)(w3_2:Bool)(_:Unit):Option (Int) :=
 jon (z0y n) <|
 reg <| cnd (!(x2.1))
  (cnd (!decide (a0.fVar=0))
    (z0y n true)
  <| cnd (!(x2.2))
   (cnd (!decide (a0.fField=0))
     (z0y n true)
   <| cnd (!(decide (a0.fOp=4)))
    (cnd (!decide (a0.fKind=0))
      (z0y n true)
    <| cnd (!(w3_2))
     (z0y n (!(decide (a0.fValue.fKind=0) && (decide (a0.fValue.fNum=0) && ((a0.fValue.fText.toList == ByteArray.empty.toList) && true)))))
    <| z0y n false)
   <| cnd (!(w3_2))
    (z0y n (!(decide (a0.fValue.fKind=0) && (decide (a0.fValue.fNum=0) && ((a0.fValue.fText.toList == ByteArray.empty.toList) && true)))))
   <| z0y n false)
  <| cnd (!(decide (a0.fOp=4)))
   (cnd (!decide (a0.fKind=0))
     (z0y n true)
   <| cnd (!(w3_2))
    (z0y n (!(decide (a0.fValue.fKind=0) && (decide (a0.fValue.fNum=0) && ((a0.fValue.fText.toList == ByteArray.empty.toList) && true)))))
   <| z0y n false)
  <| cnd (!(w3_2))
   (z0y n (!(decide (a0.fValue.fKind=0) && (decide (a0.fValue.fNum=0) && ((a0.fValue.fText.toList == ByteArray.empty.toList) && true)))))
  <| z0y n false)
 <| cnd (!(x2.2))
  (cnd (!decide (a0.fField=0))
    (z0y n true)
  <| cnd (!(decide (a0.fOp=4)))
   (cnd (!decide (a0.fKind=0))
     (z0y n true)
   <| cnd (!(w3_2))
    (z0y n (!(decide (a0.fValue.fKind=0) && (decide (a0.fValue.fNum=0) && ((a0.fValue.fText.toList == ByteArray.empty.toList) && true)))))
   <| z0y n false)
  <| cnd (!(w3_2))
   (z0y n (!(decide (a0.fValue.fKind=0) && (decide (a0.fValue.fNum=0) && ((a0.fValue.fText.toList == ByteArray.empty.toList) && true)))))
  <| z0y n false)
 <| cnd (!(decide (a0.fOp=4)))
  (cnd (!decide (a0.fKind=0))
    (z0y n true)
  <| cnd (!(w3_2))
   (z0y n (!(decide (a0.fValue.fKind=0) && (decide (a0.fValue.fNum=0) && ((a0.fValue.fText.toList == ByteArray.empty.toList) && true)))))
  <| z0y n false)
 <| cnd (!(w3_2))
  (z0y n (!(decide (a0.fValue.fKind=0) && (decide (a0.fValue.fNum=0) && ((a0.fValue.fText.toList == ByteArray.empty.toList) && true)))))
 <| z0y n false
attribute [irreducible] zco
def zcp (n:Nat)(a0:z0k)(x2:Bool×Bool)(w3_2:Bool):Option (Int) :=
 jon (zco n a0 x2 w3_2) <|
 reg <| cnd (w3_2)
  (bnd (zdu n a0) fun x8 =>
  cnd (!decide (x8=0))
   (some x8)
  <| zco n a0 x2 w3_2 ())
 <| zco n a0 x2 w3_2 ()
attribute [irreducible] zcp
def zaj (n:Nat)(a0:z0k)(x2:Bool×Bool)(w2_1:Bool):Option (Int) :=
 cnd (w2_1)
  (some 1)
 <| jon (zcp n a0 x2) <|
 reg <| cnd (decide (a0.fOp=4))
  (zcp n a0 x2 true)
 <| zcp n a0 x2 (decide (a0.fOp=0))
attribute [irreducible] zaj
def z5h (n:Nat)(a0:z0k)(x2:Bool×Bool)(w1_0:Bool):Option (Int) :=
 cnd (w1_0)
  (some 2)
 <| jon (zaj n a0 x2) <|
 reg <| cnd (decide (a0.fOp=4))
  (cnd (decide (a0.fKind<1))
    (zaj n a0 x2 true)
  <| zaj n a0 x2 (decide (5<a0.fKind)))
 <| zaj n a0 x2 false
attribute [irreducible] z5h
def zlr (n:Nat)(a0:z0k):Option (Int) :=
 bnd (zj5 n a0.fOp) fun x1 =>
 cnd (!(x1.2))
  (some 1)
 <| cnd (!decide (((a0.fArgs.map idA).length:Int)=x1.1))
  (some 15)
 <| bnd (zlq n a0.fOp) fun x2 =>
 jon (z5h n a0 x2) <|
 reg <| cnd (x2.1)
  (cnd (decide (a0.fVar<0))
    (z5h n a0 x2 true)
  <| cnd (decide (16<=a0.fVar))
   (z5h n a0 x2 true)
  <| cnd (x2.2)
   (cnd (decide (a0.fField<0))
     (z5h n a0 x2 true)
   <| z5h n a0 x2 (decide (8<=a0.fField)))
  <| z5h n a0 x2 false)
 <| cnd (x2.2)
  (cnd (decide (a0.fField<0))
    (z5h n a0 x2 true)
  <| z5h n a0 x2 (decide (8<=a0.fField)))
 <| z5h n a0 x2 false
def zd6 (n:Nat)(rF_expr_visit:z0k->Option (Int))(a0:z0k)(k1_0_0:Option (Int)):Nat->Int->Option (Int)
 |0,_=>none
 |mv1_0+1,v1_0 =>
  cnd (decide (v1_0<((a0.fArgs.map idA).length:Int)))
   (idxD z3a a0.fArgs v1_0 fun x42 =>
   bnd (rF_expr_visit x42) fun x43 =>
   cnd (!decide (x43=0))
    (some x43)
   <| (zd6 n rF_expr_visit a0 k1_0_0 mv1_0) (IntKind.wrap .i64 (v1_0+1)))
  <| k1_0_0
def zdc:Nat->z0k->Option (Int)
 |0,_=>none
 |n+1,a0 =>
 bnd (zlr n a0) fun x1 =>
 cnd (!decide (x1=0))
  (some x1)
 <| zd6 n (zdc n) a0
  (some 0) n 0
def zc8 (n:Nat)(a0:z0k):Option (Int) :=
 bnd (zf0 n a0) fun x1 =>
 cnd (decide (64<x1.1))
  (some 5)
 <| cnd (decide (12<x1.2))
  (some 12)
 <| bnd (zdc n a0) fun x2 =>
 some x2
def z6r (n:Nat)(w1_0:Bool):Option (Bool) :=
 some w1_0
attribute [irreducible] z6r
def z37 (n:Nat)(a0:Int)(a1:Int):Option (Bool) :=
 jon (z6r n) <|
 reg <| cnd (decide (0<=a0))
  (z6r n (decide (a0<a1)))
 <| z6r n false
def z8w (n:Nat)(a0:z0q)(a1:z0q):Option (Bool) :=
 some (decide (a0.fScope=a1.fScope))
def z89 (n:Nat)(a1c0:z0q)(a0:(List z0q))(k1_0_0:Option (Int)):Nat->Int->Option (Int)
 |0,_=>none
 |mv1_0+1,v1_0 =>
  cnd (decide (v1_0<((a0.map z0t).length:Int)))
   (idx a0 v1_0 fun x41 =>
   bnd (z8w n x41 a1c0) fun x42 =>
   cnd (x42)
    (some v1_0)
   <| (z89 n a1c0 a0 k1_0_0 mv1_0) (IntKind.wrap .i64 (v1_0+1)))
  <| k1_0_0
def zc5 (n:Nat)(a0:(List z0q))(a1c0:z0q):Option (Int) :=
 z89 n a1c0 a0
  (some (-1)) n 0
def z8a (n:Nat)(a0:(List z0q))(a1c0:z0q):Option (Bool) :=
 bnd (zc5 n a0 a1c0) fun x1 =>
 some (decide (0<=x1))
def z4e (n:Nat)(a1:(List z0q))(a0:z05)(v1_0:Int)(cv1_0:Int->Option (Int))(x41:z0q)(w3_1:Bool):Option (Int) :=
 cnd (w3_1)
  (some 2)
 <| sls a1 0 v1_0 fun x46 =>
 bnd (z8a n x46 x41) fun x47 =>
 cnd (x47)
  (some 7)
 <| bnd (zc8 n x41.fCond) fun x48 =>
 cnd (!decide (x48=0))
  (some x48)
 <| cv1_0 (IntKind.wrap .i64 (v1_0+1))
attribute [irreducible] z4e
def z2k (n:Nat)(a1:(List z0q))(a0:z05)(k1_0_0:Option (Int)):Nat->Int->Option (Int)
 |0,_=>none
 |mv1_0+1,v1_0 =>
  cnd (decide (v1_0<((a1.map z0t).length:Int)))
   (idx a1 v1_0 fun x41 =>
   jon (z4e n a1 a0 v1_0 (z2k n a1 a0 k1_0_0 mv1_0) x41) <|
   reg <| bnd (z37 n x41.fScope a0.fScopes) fun x49 =>
   cnd (!(x49))
    (z4e n a1 a0 v1_0 (z2k n a1 a0 k1_0_0 mv1_0) x41 true)
   <| bnd (z37 n x41.fType 16) fun x50 =>
   cnd (!(x50))
    (z4e n a1 a0 v1_0 (z2k n a1 a0 k1_0_0 mv1_0) x41 true)
   <| bnd (z37 n x41.fVar a0.fVars) fun x51 =>
   z4e n a1 a0 v1_0 (z2k n a1 a0 k1_0_0 mv1_0) x41 !(x51))
  <| k1_0_0
def zca (n:Nat)(a0:z05)(a1:(List z0q)):Option (Int) :=
 cnd (decide (64<((a1.map z0t).length:Int)))
  (some 5)
 <| z2k n a1 a0
  (some 0) n 0
def z7q (n:Nat)(a0:(List z0z))(k1_0_0:(List Int)->Option ((List Int))):Nat->Int×(List Int)->Option ((List Int))
 |0,_=>none
 |mv1_0+1,v1_0 =>
  cnd (decide (v1_0.1<((a0.map z0r).length:Int)))
   (idx a0 v1_0.1 fun x42 =>
   app v1_0.2 [x42.fScope] 8 fun x43 =>
   (z7q n a0 k1_0_0 mv1_0) ((IntKind.wrap .i64 (v1_0.1+1)),x43))
  <| k1_0_0 v1_0.2
def z9g (n:Nat)(a0:(List z0z)):Option ((List Int)) :=
 z7q n a0
  (fun k1_0_0y=>some k1_0_0y) n (0,[])
def zam (n:Nat)(a1:Int)(a0:(List Int))(k1_0_0:Option (Int)):Nat->Int->Option (Int)
 |0,_=>none
 |mv1_0+1,v1_0 =>
  cnd (decide (v1_0<((a0.map aI).length:Int)))
   (idx a0 v1_0 fun x41 =>
   cnd (decide (a1=x41))
    (some v1_0)
   <| (zam n a1 a0 k1_0_0 mv1_0) (IntKind.wrap .i64 (v1_0+1)))
  <| k1_0_0
def zi6 (n:Nat)(a0:(List Int))(a1:Int):Option (Int) :=
 zam n a1 a0
  (some (-1)) n 0
def z73 (n:Nat)(a0:(List Int))(a1:Int):Option (Bool) :=
 bnd (zi6 n a0 a1) fun x1 =>
 some (decide (0<=x1))
def z38 (n:Nat)(a1:(List (List Int)))(a0:z05)(v1_0:Int)(x41:(List Int))(k2_1_0:Option (Int)):Nat->Int->Option (Int)
 |0,_=>none
 |mv2_1+1,v2_1 =>
  cnd (decide (v2_1<((x41.map aI).length:Int)))
   (idx x41 v2_1 fun x82 =>
   bnd (z37 n x82 a0.fScopes) fun x83 =>
   cnd (!(x83))
    (some 2)
   <| sls x41 0 v2_1 fun x84 =>
   bnd (z73 n x84 x82) fun x85 =>
   cnd (x85)
    (some 7)
   <| (z38 n a1 a0 v1_0 x41 k2_1_0 mv2_1) (IntKind.wrap .i64 (v2_1+1)))
  <| k2_1_0
def z4d (n:Nat)(a1:(List (List Int)))(a0:z05)(k1_0_0:Option (Int)):Nat->Int->Option (Int)
 |0,_=>none
 |mv1_0+1,v1_0 =>
  cnd (decide (v1_0<(((List.map (fun q=>AV.sl 1 (List.map aI q)) (a1)).length:Nat):Int)))
   (idx a1 v1_0 fun x41 =>
   z38 n a1 a0 v1_0 x41
    ((z4d n a1 a0 k1_0_0 mv1_0) (IntKind.wrap .i64 (v1_0+1))) n 0)
  <| k1_0_0
def zc9 (n:Nat)(a0:z05)(a1:(List (List Int))):Option (Int) :=
 z4d n a1 a0
  (some 0) n 0
def z6s (n:Nat)(w1_0:Bool):Option (Bool) :=
 some w1_0
attribute [irreducible] z6s
def z8r (n:Nat)(a0:z0z):Option (Bool) :=
 jon (z6s n) <|
 reg <| cnd (decide (a0.fSpan<0))
  (z6s n true)
 <| z6s n (decide (1099511627776<a0.fSpan))
def z5d (n:Nat)(a0:(List z0z))(k1_0_0:Option (Int)):Nat->Int->Option (Int)
 |0,_=>none
 |mv1_0+1,v1_0 =>
  cnd (decide (v1_0<((a0.map z0r).length:Int)))
   (idx a0 v1_0 fun x41 =>
   bnd (z8r n x41) fun x42 =>
   cnd (x42)
    (some v1_0)
   <| (z5d n a0 k1_0_0 mv1_0) (IntKind.wrap .i64 (v1_0+1)))
  <| k1_0_0
def z98 (n:Nat)(a0:(List z0z)):Option (Int) :=
 z5d n a0
  (some (-1)) n 0
def z5e (n:Nat)(a0:(List z0z)):Option (Bool) :=
 bnd (z98 n a0) fun x1 =>
 some (decide (0<=x1))
def z9h (n:Nat)(a1:z0j)(a0:z05)(k1_1_0:Option (Int)):Nat->Int->Option (Int)
 |0,_=>none
 |mv1_1+1,v1_1 =>
  cnd (decide (v1_1<((a1.fChecks.map idA).length:Int)))
   (idxD z3a a1.fChecks v1_1 fun x49 =>
   bnd (zc8 n x49) fun x50 =>
   cnd (!decide (x50=0))
    (some x50)
   <| (z9h n a1 a0 k1_1_0 mv1_1) (IntKind.wrap .i64 (v1_1+1)))
  <| k1_1_0
def z1q (n:Nat)(a2:Int)(a1:z0j)(a0:z05)(w1_0:Bool):Option (Int) :=
 cnd (w1_0)
  (some 2)
 <| cnd (decide (a1.fFrom<a2))
  (some 14)
 <| bnd (zc8 n a1.fCond) fun x5 =>
 cnd (!decide (x5=0))
  (some x5)
 <| cnd (decide (64<((a1.fChecks.map idA).length:Int)))
  (some 5)
 <| z9h n a1 a0
  (bnd (z9g n a1.fLimits) fun x46 =>
 bnd (zc9 n a0 ([a1.fOpens,a1.fCloses,a1.fInside,x46])) fun x47 =>
 cnd (!decide (x47=0))
  (some x47)
 <| bnd (z5e n a1.fLimits) fun x48 =>
 cnd (x48)
  (some 2)
 <| some 0) n 0
attribute [irreducible] z1q
def zdv (n:Nat)(a0:z05)(a1:z0j)(a2:Int):Option (Int) :=
 jon (z1q n a2 a1 a0) <|
 reg <| bnd (z37 n a1.fFrom ((a0.fStates.map z0d).length:Int)) fun x51 =>
 cnd (!(x51))
  (z1q n a2 a1 a0 true)
 <| cnd (decide (a1.fTo<(-1)))
  (z1q n a2 a1 a0 true)
 <| cnd (decide (((a0.fStates.map z0d).length:Int)<=a1.fTo))
  (z1q n a2 a1 a0 true)
 <| bnd (z37 n a1.fVar a0.fVars) fun x52 =>
 cnd (!(x52))
  (z1q n a2 a1 a0 true)
 <| bnd (z37 n a1.fType 16) fun x53 =>
 z1q n a2 a1 a0 !(x53)
def z8x (n:Nat)(a0:z05)(k2_3_0:Option (Int)):Nat->Int×Int->Option (Int)
 |0,_=>none
 |mv2_3+1,v2_3 =>
  cnd (decide (v2_3.2<((a0.fEdges.map z0e).length:Int)))
   (idx a0.fEdges v2_3.2 fun x83 =>
   bnd (zdv n a0 x83 v2_3.1) fun x84 =>
   cnd (!decide (x84=0))
    (some x84)
   <| (z8x n a0 k2_3_0 mv2_3) (x83.fFrom,(IntKind.wrap .i64 (v2_3.2+1))))
  <| k2_3_0
def z8y (n:Nat)(a0:z05)(k1_2_0:Option (Int)):Nat->Int->Option (Int)
 |0,_=>none
 |mv1_2+1,v1_2 =>
  cnd (decide (v1_2<((a0.fStates.map z0d).length:Int)))
   (idx a0.fStates v1_2 fun x85 =>
   bnd (zca n a0 x85.fGuards) fun x86 =>
   cnd (!decide (x86=0))
    (some x86)
   <| (z8y n a0 k1_2_0 mv1_2) (IntKind.wrap .i64 (v1_2+1)))
  <| k1_2_0
def z2r (n:Nat)(a0:z05)(w2_1:Bool):Option (Int) :=
 cnd (w2_1)
  (some 5)
 <| z8y n a0
  (z8x n a0
  (some 0) n (0,0)) n 0
attribute [irreducible] z2r
def z29 (n:Nat)(a0:z05)(w1_0:Bool):Option (Int) :=
 cnd (w1_0)
  (some 2)
 <| jon (z2r n a0) <|
 reg <| cnd (decide (((a0.fStates.map z0d).length:Int)<1))
  (z2r n a0 true)
 <| cnd (decide (256<((a0.fStates.map z0d).length:Int)))
  (z2r n a0 true)
 <| z2r n a0 (decide (2048<((a0.fEdges.map z0e).length:Int)))
attribute [irreducible] z29
def zd8 (n:Nat)(a0:z05):Option (Int) :=
 jon (z29 n a0) <|
 reg <| cnd (decide (a0.fVars<0))
  (z29 n a0 true)
 <| cnd (decide (16<a0.fVars))
  (z29 n a0 true)
 <| cnd (decide (a0.fScopes<0))
  (z29 n a0 true)
 <| z29 n a0 (decide (64<a0.fScopes))
def z34 (n:Nat)(w1_0:Bool):Option (Bool) :=
 some w1_0
attribute [irreducible] z34
def z8t (n:Nat)(a0:Int):Option (Bool) :=
 jon (z34 n) <|
 reg <| cnd (decide (0<=a0))
  (z34 n (decide (a0<=5)))
 <| z34 n false
structure z0l where
 fKind:Int
 fCount:Int
 fValue:z03
deriving DecidableEq,Inhabited
def z1y (n:Nat)(w3_2:Bool):Option (Int) :=
 cnd (w3_2)
  (some 3)
 <| some 0
attribute [irreducible] z1y
def z47 (n:Nat)(w4_3:Bool):Option (Int) :=
 cnd (w4_3)
  (some 3)
 <| some 0
attribute [irreducible] z47
def z48 (n:Nat)(a0:z0l)(w2_1:Bool):Option (Int) :=
 cnd (w2_1)
  (cnd (!(decide (a0.fValue.fKind=0) && (decide (a0.fValue.fNum=0) && ((a0.fValue.fText.toList == ByteArray.empty.toList) && true))))
    (some 3)
  <| some 0)
 <| cnd (decide (a0.fKind=1))
  (jon (z1y n) <|
  reg <| cnd (!decide (a0.fValue.fKind=0))
   (z1y n true)
  <| cnd (!(a0.fValue.fText.toList == ByteArray.empty.toList))
   (z1y n true)
  <| cnd (decide (a0.fValue.fNum<(IntKind.wrap .i64 (0-(IntKind.wrap .i64 (a0.fCount*1099511627776))))))
   (z1y n true)
  <| z1y n (decide ((IntKind.wrap .i64 (a0.fCount*1099511627776))<a0.fValue.fNum)))
 <| jon (z47 n) <|
 reg <| bnd (z35 n a0.fValue) fun x8 =>
 cnd (!decide (x8=0))
  (z47 n true)
 <| bnd (z6n n a0.fKind a0.fValue) fun x9 =>
 z47 n !(x9)
attribute [irreducible] z48
def z49 (n:Nat)(a0:z0l)(w1_0:Bool):Option (Int) :=
 cnd (w1_0)
  (some 2)
 <| jon (z48 n a0) <|
 reg <| cnd (decide (a0.fCount=0))
  (z48 n a0 true)
 <| z48 n a0 (decide (a0.fKind=0))
attribute [irreducible] z49
def z85 (n:Nat)(a0:z0l):Option (Int) :=
 bnd (z8t n a0.fKind) fun x1 =>
 cnd (!(x1))
  (some 1)
 <| jon (z49 n a0) <|
 reg <| cnd (decide (a0.fCount<0))
  (z49 n a0 true)
 <| z49 n a0 (decide (4096<a0.fCount))
def z83 (n:Nat)(a0:Int)(a1:z03):Option (Int) :=
 bnd (z35 n a1) fun x1 =>
 cnd (!decide (x1=0))
  (some x1)
 <| bnd (z6n n a0 a1) fun x2 =>
 cnd (!(x2))
  (some 9)
 <| some 0
def z8l (n:Nat)(a0:Int)(a1:z03)(a2:z03):Option (z03) :=
 cnd (decide (a0=1))
  (some (⟨0,(IntKind.wrap .i64 (a1.fNum+a2.fNum)),ByteArray.empty⟩))
 <| cnd (decide (a0=2))
  (some (⟨0,(min a1.fNum a2.fNum),ByteArray.empty⟩))
 <| cnd (decide (a0=3))
  (some (⟨0,(max a1.fNum a2.fNum),ByteArray.empty⟩))
 <| cnd (decide (a0=4))
  (some a1)
 <| cnd (decide (a0=5))
  (some a2)
 <| some (⟨0,0,ByteArray.empty⟩)
def z3s (n:Nat)(a0:z0l)(w1_0:Int×Int×ByteArray):Option (z0l×Int) :=
 some (⟨a0.fKind,(IntKind.wrap .i64 (a0.fCount+1)),⟨w1_0.1,w1_0.2.1,w1_0.2.2⟩⟩,0)
attribute [irreducible] z3s
def zb3 (n:Nat)(a0:z0l)(a1:z03):Option (z0l×Int) :=
 bnd (z85 n a0) fun x1 =>
 cnd (!decide (x1=0))
  (some (⟨0,0,⟨0,0,ByteArray.empty⟩⟩,x1))
 <| bnd (z83 n a0.fKind a1) fun x2 =>
 cnd (!decide (x2=0))
  (some (⟨0,0,⟨0,0,ByteArray.empty⟩⟩,x2))
 <| cnd (decide (a0.fCount=4096))
  (some (⟨0,0,⟨0,0,ByteArray.empty⟩⟩,5))
 <| jon (z3s n a0) <|
 reg <| cnd (decide (a0.fKind=0))
  (z3s n a0 (0,0,ByteArray.empty))
 <| reg <| cnd (decide (0<a0.fCount))
  (bnd (z8l n a0.fKind a0.fValue a1) fun x7 =>
  z3s n a0 (x7.fKind,x7.fNum,x7.fText))
 <| z3s n a0 (a1.fKind,a1.fNum,a1.fText)
def z3g (n:Nat)(a1:z03)(a0:z0l)(w1_0:Bool):Option (z03×Int) :=
 cnd (w1_0)
  (some (a1,0))
 <| some (a0.fValue,0)
attribute [irreducible] z3g
def z7n (n:Nat)(a0:z0l)(a1:z03):Option (z03×Int) :=
 bnd (z85 n a0) fun x1 =>
 cnd (!decide (x1=0))
  (some (⟨0,0,ByteArray.empty⟩,x1))
 <| bnd (z83 n a0.fKind a1) fun x2 =>
 cnd (!decide (x2=0))
  (some (⟨0,0,ByteArray.empty⟩,x2))
 <| cnd (decide (a0.fKind=0))
  (some (⟨0,a0.fCount,ByteArray.empty⟩,0))
 <| jon (z3g n a1 a0) <|
 reg <| cnd (decide (a0.fCount=0))
  (z3g n a1 a0 (!decide (a0.fKind=1)))
 <| z3g n a1 a0 false
def z84 (n:Nat)(a2:z03)(a1:(List z03))(k1_0_0:Int->Int->Int->Int->ByteArray->Option (z03×Int)):Nat->Int×Int×Int×Int×Int×ByteArray->Option (z03×Int)
 |0,_=>none
 |mv1_0+1,v1_0 =>
  cnd (decide (v1_0.1<((a1.map z0a).length:Int)))
   (idx a1 v1_0.1 fun x48 =>
   bnd (zb3 n (⟨v1_0.2.1,v1_0.2.2.1,⟨v1_0.2.2.2.1,v1_0.2.2.2.2.1,v1_0.2.2.2.2.2⟩⟩:z0l) x48) fun x49 =>
   cnd (!decide (x49.2=0))
    (some (⟨0,0,ByteArray.empty⟩,x49.2))
   <| (z84 n a2 a1 k1_0_0 mv1_0) ((IntKind.wrap .i64 (v1_0.1+1)),x49.1.fKind,x49.1.fCount,x49.1.fValue.fKind,x49.1.fValue.fNum,x49.1.fValue.fText))
  <| k1_0_0 v1_0.2.1 v1_0.2.2.1 v1_0.2.2.2.1 v1_0.2.2.2.2.1 v1_0.2.2.2.2.2
def z9w (n:Nat)(a0:Int)(a1:(List z03))(a2:z03):Option (z03×Int) :=
 bnd (z8t n a0) fun x1 =>
 cnd (!(x1))
  (some (⟨0,0,ByteArray.empty⟩,1))
 <| cnd (decide (4096<((a1.map z0a).length:Int)))
  (some (⟨0,0,ByteArray.empty⟩,5))
 <| z84 n a2 a1
  (fun k1_0_0y0 k1_0_0y1 k1_0_0y2 k1_0_0y3 k1_0_0y4=>bnd (z7n n (⟨k1_0_0y0,k1_0_0y1,⟨k1_0_0y2,k1_0_0y3,k1_0_0y4⟩⟩:z0l) a2) fun x47 =>
 some (x47.1,x47.2)) n (0,a0,0,0,0,ByteArray.empty)
structure z01 where
 fSource:Int
 fSeq:Int
 fType:Int
 fTime:Int
 fValues:(List z03)
deriving DecidableEq,Inhabited
def z04 (x:z01):AV:=.agg [aI (x.fSource),aI (x.fSeq),aI (x.fType),aI (x.fTime),.sl 3 (x.fValues.map z0a)]
structure z0h where
 fVars:(List (List z01))
deriving DecidableEq,Inhabited
def z3f (n:Nat)(a1:Int)(a0:z0h)(w1_0:Bool):Option ((List z01)) :=
 cnd (w1_0)
  (some [])
 <| idx a0.fVars a1 fun x2 =>
 some x2
attribute [irreducible] z3f
def z5u (n:Nat)(a0:z0h)(a1:Int):Option ((List z01)) :=
 jon (z3f n a1 a0) <|
 reg <| cnd (decide (a1<0))
  (z3f n a1 a0 true)
 <| z3f n a1 a0 (decide ((((List.map (fun q=>AV.sl 5 (List.map z04 q)) (a0.fVars)).length:Nat):Int)<=a1))
def zcs (n:Nat)(a0:z0h)(a1:Int)(a2:Int)(a3:z01):Option (z01×Bool) :=
 cnd (decide (a1=a2))
  (some (a3,true))
 <| bnd (z5u n (⟨a0.fVars⟩:z0h) a1) fun x1 =>
 cnd (decide (((x1.map z04).length:Int)=0))
  (some (⟨0,0,0,0,[]⟩,false))
 <| idx x1 (IntKind.wrap .i64 (((x1.map z04).length:Int)-1)) fun x2 =>
 some (x2,true)
def z71 (n:Nat)(a0:z0k)(x2:(List z01))(k1_0_0:(List z03)->Option (z03×Int)):Nat->Int×(List z03)->Option (z03×Int)
 |0,_=>none
 |mv1_0+1,v1_0 =>
  cnd (decide (v1_0.1<((x2.map z04).length:Int)))
   (idx x2 v1_0.1 fun x45 =>
   cnd (decide (((x45.fValues.map z0a).length:Int)<=a0.fField))
    (some (⟨0,0,ByteArray.empty⟩,6))
   <| idx x2 v1_0.1 fun x46 =>
   idx x46.fValues a0.fField fun x47 =>
   app v1_0.2 [x47] 32 fun x48 =>
   (z71 n a0 x2 k1_0_0 mv1_0) ((IntKind.wrap .i64 (v1_0.1+1)),x48))
  <| k1_0_0 v1_0.2
def za8 (n:Nat)(a0:z0k)(a1:z0h)(a2:Int)(a3:z01):Option (z03×Int) :=
 cnd (decide (a0.fOp=0))
  (some (a0.fValue,0))
 <| cnd (decide (a0.fOp=3))
  (bnd (z5u n (⟨a1.fVars⟩:z0h) a0.fVar) fun x1 =>
  some (⟨0,((x1.map z04).length:Int),ByteArray.empty⟩,0))
 <| cnd (decide (a0.fOp=4))
  (bnd (z5u n (⟨a1.fVars⟩:z0h) a0.fVar) fun x2 =>
  z71 n a0 x2
   (fun k1_0_0y=>bnd (z9w n a0.fKind k1_0_0y a0.fValue) fun x44 =>
  some (x44.1,x44.2)) n (0,[]))
 <| bnd (zcs n (⟨a1.fVars⟩:z0h) a0.fVar a2 a3) fun x49 =>
 cnd (!(x49.2))
  (some (⟨0,0,ByteArray.empty⟩,10))
 <| cnd (decide (a0.fOp=2))
  (some (⟨0,x49.1.fTime,ByteArray.empty⟩,0))
 <| cnd (decide (((x49.1.fValues.map z0a).length:Int)<=a0.fField))
  (some (⟨0,0,ByteArray.empty⟩,6))
 <| idx x49.1.fValues a0.fField fun x50 =>
 bnd (z35 n x50) fun x51 =>
 cnd (!decide (x51=0))
  (some (⟨0,0,ByteArray.empty⟩,x51))
 <| idx x49.1.fValues a0.fField fun x52 =>
 some (x52,0)
def z1t (n:Nat)(w2_1:Bool):Option (Int) :=
 cnd (w2_1)
  (some 1)
 <| some (-1)
attribute [irreducible] z1t
def z1l (n:Nat)(a0:Int)(w1_0:Bool):Option (Int) :=
 cnd (w1_0)
  (some 0)
 <| jon (z1t n) <|
 reg <| cnd (decide (a0=10))
  (z1t n (decide (a0=10)))
 <| reg <| cnd (decide (a0=11))
  (z1t n (decide (a0=11)))
 <| z1t n (decide (a0=12))
attribute [irreducible] z1l
def z82 (n:Nat)(a0:Int):Option (Int) :=
 jon (z1l n a0) <|
 reg <| cnd (decide (a0=5))
  (z1l n a0 (decide (a0=5)))
 <| reg <| cnd (decide (a0=6))
  (z1l n a0 (decide (a0=6)))
 <| reg <| cnd (decide (a0=7))
  (z1l n a0 (decide (a0=7)))
 <| z1l n a0 (decide (a0=8))
def z1e (n:Nat)(a1:(List Int))(a0:Int)(v1_0:Int)(cv1_0:Int->Option (Int))(w3_1:Bool):Option (Int) :=
 cnd (w3_1)
  (some 9)
 <| cv1_0 (IntKind.wrap .i64 (v1_0+1))
attribute [irreducible] z1e
def z15 (n:Nat)(a1:(List Int))(a0:Int)(k1_0_0:Option (Int)):Nat->Int->Option (Int)
 |0,_=>none
 |mv1_0+1,v1_0 =>
  cnd (decide (v1_0<((a1.map aI).length:Int)))
   (bnd (z82 n a0) fun x41 =>
   jon (z1e n a1 a0 v1_0 (z15 n a1 a0 k1_0_0 mv1_0)) <|
   reg <| cnd (decide (0<=x41))
    (idx a1 v1_0 fun x48 =>
    cnd (!decide (x48=x41))
     (z1e n a1 a0 v1_0 (z15 n a1 a0 k1_0_0 mv1_0) true)
    <| cnd (decide (a0=9))
     (idx a1 v1_0 fun x49 =>
     idx a1 0 fun x50 =>
     z1e n a1 a0 v1_0 (z15 n a1 a0 k1_0_0 mv1_0) (!decide (x49=x50)))
    <| z1e n a1 a0 v1_0 (z15 n a1 a0 k1_0_0 mv1_0) false)
   <| cnd (decide (a0=9))
    (idx a1 v1_0 fun x51 =>
    idx a1 0 fun x52 =>
    z1e n a1 a0 v1_0 (z15 n a1 a0 k1_0_0 mv1_0) (!decide (x51=x52)))
   <| z1e n a1 a0 v1_0 (z15 n a1 a0 k1_0_0 mv1_0) false)
  <| k1_0_0
def z9v (n:Nat)(a0:Int)(a1:(List Int)):Option (Int) :=
 z15 n a1 a0
  (some 0) n 0
def z1d (n:Nat)(a0:Bool):Option (z03) :=
 cnd (a0)
  (some (⟨1,1,ByteArray.empty⟩))
 <| some (⟨1,0,ByteArray.empty⟩)
def z42 (n:Nat)(w1_0:Int×Int×ByteArray):Option (z03) :=
 some (⟨w1_0.1,w1_0.2.1,w1_0.2.2⟩)
attribute [irreducible] z42
def z41 (n:Nat)(w2_1:Int×Int×ByteArray):Option (z03) :=
 some (⟨w2_1.1,w2_1.2.1,w2_1.2.2⟩)
attribute [irreducible] z41
def z6m (n:Nat)(a0:Int)(a1:(List z03)):Option (z03) :=
 cnd (decide (a0=5))
  (idx a1 0 fun x1 =>
  idx a1 1 fun x2 =>
  some (⟨0,(IntKind.wrap .i64 (x1.fNum+x2.fNum)),ByteArray.empty⟩))
 <| cnd (decide (a0=6))
  (idx a1 0 fun x3 =>
  idx a1 1 fun x4 =>
  some (⟨0,(IntKind.wrap .i64 (x3.fNum-x4.fNum)),ByteArray.empty⟩))
 <| cnd (decide (a0=7))
  (idx a1 0 fun x5 =>
  idx a1 1 fun x6 =>
  bnd (z1d n (decide (x5.fNum<x6.fNum))) fun x7 =>
  some x7)
 <| cnd (decide (a0=8))
  (idx a1 0 fun x8 =>
  idx a1 1 fun x9 =>
  bnd (z1d n (decide (x8.fNum<=x9.fNum))) fun x10 =>
  some x10)
 <| cnd (decide (a0=9))
  (idx a1 0 fun x11 =>
  idx a1 1 fun x12 =>
  bnd (z1d n (decide (x11.fKind=x12.fKind) && (decide (x11.fNum=x12.fNum) && ((x11.fText.toList == x12.fText.toList) && true)))) fun x13 =>
  some x13)
 <| cnd (decide (a0=10))
  (jon (z42 n) <|
  reg <| idx a1 0 fun x21 =>
  cnd (decide (x21.fNum=1))
   (idx a1 1 fun x22 =>
   bnd (z1d n (decide (x22.fNum=1))) fun x23 =>
   z42 n (x23.fKind,x23.fNum,x23.fText))
  <| bnd (z1d n false) fun x24 =>
  z42 n (x24.fKind,x24.fNum,x24.fText))
 <| cnd (decide (a0=11))
  (jon (z41 n) <|
  reg <| idx a1 0 fun x32 =>
  cnd (decide (x32.fNum=1))
   (bnd (z1d n true) fun x33 =>
   z41 n (x33.fKind,x33.fNum,x33.fText))
  <| idx a1 1 fun x34 =>
  bnd (z1d n (decide (x34.fNum=1))) fun x35 =>
  z41 n (x35.fKind,x35.fNum,x35.fText))
 <| idx a1 0 fun x36 =>
 bnd (z1d n (!decide (x36.fNum=1))) fun x37 =>
 some x37
def z72 (n:Nat)(rF_tidegateref08_eval:z0k->z0h->Int->z01->Option (z03×Int))(a3:z01)(a2:Int)(a1:z0h)(a0:z0k)(k1_0_0:(List z03)->(List Int)->Option (z03×Int)):Nat->Int×(List z03)×(List Int)->Option (z03×Int)
 |0,_=>none
 |mv1_0+1,v1_0 =>
  cnd (decide (v1_0.1<((a0.fArgs.map idA).length:Int)))
   (idxD z3a a0.fArgs v1_0.1 fun x46 =>
   bnd (rF_tidegateref08_eval x46 (⟨a1.fVars⟩:z0h) a2 a3) fun x47 =>
   cnd (!decide (x47.2=0))
    (some (⟨0,0,ByteArray.empty⟩,x47.2))
   <| app v1_0.2.1 [x47.1] 32 fun x48 =>
   app v1_0.2.2 [x47.1.fKind] 8 fun x49 =>
   (z72 n rF_tidegateref08_eval a3 a2 a1 a0 k1_0_0 mv1_0) ((IntKind.wrap .i64 (v1_0.1+1)),x48,x49))
  <| k1_0_0 v1_0.2.1 v1_0.2.2
def z5j:Nat->z0k->z0h->Int->z01->Option (z03×Int)
 |0,_,_,_,_=>none
 |n+1,a0,a1,a2,a3 =>
 cnd (decide (((a0.fArgs.map idA).length:Int)=0))
  (bnd (za8 n a0 (⟨a1.fVars⟩:z0h) a2 a3) fun x1 =>
  some (x1.1,x1.2))
 <| z72 n (z5j n) a3 a2 a1 a0
  (fun k1_0_0y0 k1_0_0y1=>bnd (z9v n a0.fOp k1_0_0y1) fun x44 =>
 cnd (!decide (x44=0))
  (some (⟨0,0,ByteArray.empty⟩,x44))
 <| bnd (z6m n a0.fOp k1_0_0y0) fun x45 =>
 some (x45,0)) n (0,[],[])
def zct (n:Nat)(a0:z0k)(a1:z0h)(a2:Int)(a3:z01):Option (z03×Int) :=
 bnd (z2i n a0) fun x1 =>
 cnd (!decide (x1=0))
  (some (⟨0,0,ByteArray.empty⟩,x1))
 <| bnd (z5j n a0 (⟨a1.fVars⟩:z0h) a2 a3) fun x2 =>
 some (x2.1,x2.2)
def z43 (n:Nat)(w1_0:Bool):Option (Bool) :=
 some w1_0
attribute [irreducible] z43
def z2h (n:Nat)(a0:z0k)(a1:z0h)(a2:Int)(a3:z01):Option (Bool) :=
 bnd (zct n a0 (⟨a1.fVars⟩:z0h) a2 a3) fun x1 =>
 jon (z43 n) <|
 reg <| cnd (decide (x1.2=0))
  (bnd (z1d n true) fun x4 =>
  z43 n (decide (x1.1.fKind=x4.fKind) && (decide (x1.1.fNum=x4.fNum) && ((x1.1.fText.toList == x4.fText.toList) && true))))
 <| z43 n false
structure z13 where
 fTime:Int
 fSource:Int
 fSeq:Int
deriving DecidableEq,Inhabited
def z28 (x:z13):AV:=.agg [aI (x.fTime),aI (x.fSource),aI (x.fSeq)]
structure z0p where
 fVar:Int
 fRef:z13
deriving DecidableEq,Inhabited
def z06 (x:z0p):AV:=.agg [aI (x.fVar),aI (x.fRef.fTime),aI (x.fRef.fSource),aI (x.fRef.fSeq)]
structure z02 where
 fBindings:(List z0p)
deriving DecidableEq,Inhabited
def z0f (x:z02):AV:=.agg [.sl 4 (x.fBindings.map z06)]
def z86 (n:Nat)(a0:z13)(a1:z13):Option (Int) :=
 cnd (!decide (a0.fTime=a1.fTime))
  (cnd (decide (a0.fTime<a1.fTime))
    (some (-1))
  <| some 1)
 <| cnd (!decide (a0.fSource=a1.fSource))
  (cnd (decide (a0.fSource<a1.fSource))
    (some (-1))
  <| some 1)
 <| cnd (decide (a0.fSeq<a1.fSeq))
  (some (-1))
 <| cnd (decide (a1.fSeq<a0.fSeq))
  (some 1)
 <| some 0
def z9o (n:Nat)(a0:z0p)(a1:z0p):Option (Int) :=
 bnd (z86 n (⟨a0.fRef.fTime,a0.fRef.fSource,a0.fRef.fSeq⟩:z13) (⟨a1.fRef.fTime,a1.fRef.fSource,a1.fRef.fSeq⟩:z13)) fun x1 =>
 cnd (!decide (x1=0))
  (some x1)
 <| cnd (decide (a0.fVar<a1.fVar))
  (some (-1))
 <| cnd (decide (a1.fVar<a0.fVar))
  (some 1)
 <| some 0
def z2v (n:Nat)(a1:z02)(a0:z02)(v1_0:Int)(k1_0_0:Option (Int))(cv1_0:Int->Option (Int))(w3_1:Bool):Option (Int) :=
 cnd (w3_1)
  (idx a0.fBindings v1_0 fun x42 =>
  idx a1.fBindings v1_0 fun x43 =>
  bnd (z9o n (⟨x42.fVar,⟨x42.fRef.fTime,x42.fRef.fSource,x42.fRef.fSeq⟩⟩:z0p) (⟨x43.fVar,⟨x43.fRef.fTime,x43.fRef.fSource,x43.fRef.fSeq⟩⟩:z0p)) fun x44 =>
  cnd (!decide (x44=0))
   (some x44)
  <| cv1_0 (IntKind.wrap .i64 (v1_0+1)))
 <| k1_0_0
attribute [irreducible] z2v
def z26 (n:Nat)(a1:z02)(a0:z02)(k1_0_0:Option (Int)):Nat->Int->Option (Int)
 |0,_=>none
 |mv1_0+1,v1_0 =>
  jon (z2v n a1 a0 v1_0 k1_0_0 (z26 n a1 a0 k1_0_0 mv1_0)) <|
  reg <| cnd (decide (v1_0<((a0.fBindings.map z06).length:Int)))
   (z2v n a1 a0 v1_0 k1_0_0 (z26 n a1 a0 k1_0_0 mv1_0) (decide (v1_0<((a1.fBindings.map z06).length:Int))))
  <| z2v n a1 a0 v1_0 k1_0_0 (z26 n a1 a0 k1_0_0 mv1_0) false
def z2z (n:Nat)(a0:z02)(a1:z02):Option (Int) :=
 z26 n a1 a0
  (cnd (decide (((a0.fBindings.map z06).length:Int)<((a1.fBindings.map z06).length:Int)))
  (some (-1))
 <| cnd (decide (((a1.fBindings.map z06).length:Int)<((a0.fBindings.map z06).length:Int)))
  (some 1)
 <| some 0) n 0
structure z0c where
 fScope:Int
 fTime:Int
deriving DecidableEq,Inhabited
def z07 (x:z0c):AV:=.agg [aI (x.fScope),aI (x.fTime)]
structure z00 where
 fState:Int
 fBindings:(List z0p)
 fStarts:(List z0c)
deriving DecidableEq,Inhabited
def z0b (x:z00):AV:=.agg [aI (x.fState),.sl 4 (x.fBindings.map z06),.sl 2 (x.fStarts.map z07)]
def z24 (n:Nat)(a1:z00)(a0:z00)(v1_0:Int)(cv1_0:Int->Option (Int))(x43:z0c)(x44:z0c)(w6_2:Bool):Option (Int) :=
 cnd (w6_2)
  (some (-1))
 <| cnd (!(decide (x43.fScope=x44.fScope) && (decide (x43.fTime=x44.fTime) && true)))
  (some 1)
 <| cv1_0 (IntKind.wrap .i64 (v1_0+1))
attribute [irreducible] z24
def z2u (n:Nat)(a1:z00)(a0:z00)(v1_0:Int)(k1_0_0:Option (Int))(cv1_0:Int->Option (Int))(w5_1:Bool):Option (Int) :=
 cnd (w5_1)
  (idx a0.fStarts v1_0 fun x43 =>
  idx a1.fStarts v1_0 fun x44 =>
  jon (z24 n a1 a0 v1_0 cv1_0 x43 x44) <|
  reg <| cnd (decide (x43.fScope<x44.fScope))
   (z24 n a1 a0 v1_0 cv1_0 x43 x44 true)
  <| cnd (decide (x43.fScope=x44.fScope))
   (z24 n a1 a0 v1_0 cv1_0 x43 x44 (decide (x43.fTime<x44.fTime)))
  <| z24 n a1 a0 v1_0 cv1_0 x43 x44 false)
 <| k1_0_0
attribute [irreducible] z2u
def z23 (n:Nat)(a1:z00)(a0:z00)(k1_0_0:Option (Int)):Nat->Int->Option (Int)
 |0,_=>none
 |mv1_0+1,v1_0 =>
  jon (z2u n a1 a0 v1_0 k1_0_0 (z23 n a1 a0 k1_0_0 mv1_0)) <|
  reg <| cnd (decide (v1_0<((a0.fStarts.map z07).length:Int)))
   (z2u n a1 a0 v1_0 k1_0_0 (z23 n a1 a0 k1_0_0 mv1_0) (decide (v1_0<((a1.fStarts.map z07).length:Int))))
  <| z2u n a1 a0 v1_0 k1_0_0 (z23 n a1 a0 k1_0_0 mv1_0) false
def z2y (n:Nat)(a0:z00)(a1:z00):Option (Int) :=
 cnd (!decide (a0.fState=a1.fState))
  (cnd (decide (a0.fState<a1.fState))
    (some (-1))
  <| some 1)
 <| bnd (z2z n (⟨a0.fBindings⟩:z02) (⟨a1.fBindings⟩:z02)) fun x1 =>
 cnd (!decide (x1=0))
  (some x1)
 <| z23 n a1 a0
  (cnd (decide (((a0.fStarts.map z07).length:Int)<((a1.fStarts.map z07).length:Int)))
  (some (-1))
 <| cnd (decide (((a1.fStarts.map z07).length:Int)<((a0.fStarts.map z07).length:Int)))
  (some 1)
 <| some 0) n 0
def z5n (n:Nat)(a1:z00)(a0:(List z00))(k1_0_0y:Int)(w3_1:Bool):Option ((List z00)) :=
 cnd (w3_1)
  (some a0)
 <| sls a0 0 k1_0_0y fun x45 =>
 app ([]:List z00) x45 56 fun x46 =>
 app x46 [a1] 56 fun x47 =>
 sls a0 k1_0_0y ((a0.map z0b).length:Int) fun x48 =>
 app x47 x48 56 fun x49 =>
 some x49
attribute [irreducible] z5n
def z5m (n:Nat)(a1:z00)(a0:(List z00))(v1_0:Int)(k1_0_0:Int->Option ((List z00)))(cv1_0:Int->Option ((List z00)))(w4_2:Bool):Option ((List z00)) :=
 cnd (w4_2)
  (cv1_0 (IntKind.wrap .i64 (v1_0+1)))
 <| k1_0_0 v1_0
attribute [irreducible] z5m
def z3n (n:Nat)(a1:z00)(a0:(List z00))(k1_0_0:Int->Option ((List z00))):Nat->Int->Option ((List z00))
 |0,_=>none
 |mv1_0+1,v1_0 =>
  jon (z5m n a1 a0 v1_0 k1_0_0 (z3n n a1 a0 k1_0_0 mv1_0)) <|
  reg <| cnd (decide (v1_0<((a0.map z0b).length:Int)))
   (idx a0 v1_0 fun x55 =>
   bnd (z2y n x55 a1) fun x56 =>
   z5m n a1 a0 v1_0 k1_0_0 (z3n n a1 a0 k1_0_0 mv1_0) (decide (x56<0)))
  <| z5m n a1 a0 v1_0 k1_0_0 (z3n n a1 a0 k1_0_0 mv1_0) false
def z7w (n:Nat)(a0:(List z00))(a1:z00):Option ((List z00)) :=
 z3n n a1 a0
  (fun k1_0_0y=>jon (z5n n a1 a0 k1_0_0y) <|
 reg <| cnd (decide (k1_0_0y<((a0.map z0b).length:Int)))
  (idx a0 k1_0_0y fun x50 =>
  bnd (z2y n x50 a1) fun x51 =>
  z5n n a1 a0 k1_0_0y (decide (x51=0)))
 <| z5n n a1 a0 k1_0_0y false) n 0
def z5k (n:Nat)(w1_0:Bool):Option (Bool) :=
 some w1_0
attribute [irreducible] z5k
def zaq (n:Nat)(a0:Int):Option (Bool) :=
 jon (z5k n) <|
 reg <| cnd (decide (0<=a0))
  (z5k n (decide (a0<=5)))
 <| z5k n false
def z3w (n:Nat)(w1_0:Bool):Option (Bool) :=
 some w1_0
attribute [irreducible] z3w
def zap (n:Nat)(a0:Int)(a1:z03):Option (Bool) :=
 jon (z3w n) <|
 reg <| cnd (decide (a1.fKind=0))
  (z3w n true)
 <| cnd (!decide (a0=1))
  (cnd (!decide (a0=2))
    (z3w n (!decide (a0=3)))
  <| z3w n false)
 <| z3w n false
def z9i (n:Nat)(a0:Int)(a1:z03):Option (Int) :=
 bnd (zah n a1) fun x1 =>
 cnd (!decide (x1=0))
  (some x1)
 <| bnd (zap n a0 a1) fun x2 =>
 cnd (!(x2))
  (some 9)
 <| some 0
def ze8 (n:Nat)(a0:Int)(a1:z03):Option (z03) :=
 cnd (decide (a0=0))
  (some (⟨0,0,ByteArray.empty⟩))
 <| some a1
def zch (n:Nat):Option (z03) :=
 some (⟨0,0,ByteArray.empty⟩)
def zcg (n:Nat)(m0:z03)(m1:z03):Option (z03×z03×z03) :=
 some (⟨0,(IntKind.wrap .i64 (m0.fNum+m1.fNum)),ByteArray.empty⟩,m0,m1)
def zcf (n:Nat)(m0:z03)(m1:z03):Option (z03×z03×z03) :=
 some (⟨0,(min m0.fNum m1.fNum),ByteArray.empty⟩,m0,m1)
def zce (n:Nat)(m0:z03)(m1:z03):Option (z03×z03×z03) :=
 some (⟨0,(max m0.fNum m1.fNum),ByteArray.empty⟩,m0,m1)
def zcd (n:Nat)(m0:z03):Option (z03×z03) :=
 some (m0,m0)
def zcc (n:Nat)(m0:z03):Option (z03×z03) :=
 some (m0,m0)
def zbk (n:Nat)(a0:Int)(a1:z03)(a2:z03):Option (z03) :=
 natc a0 0
  (bnd (zch n) fun x1 =>
 some x1)
 <| natc a0 1
  (bndM 15 (zcg n a1 a2) fun x2 =>
 some x2.1)
 <| natc a0 2
  (bndM 15 (zcf n a1 a2) fun x3 =>
 some x3.1)
 <| natc a0 3
  (bndM 15 (zce n a1 a2) fun x4 =>
 some x4.1)
 <| natc a0 4
  (bndM 15 (zcd n a1) fun x5 =>
 some x5.1)
 <| natc a0 5
  (bndM 15 (zcc n a2) fun x6 =>
 some x6.1)
 <| none
def ze9 (n:Nat)(a0:z0l)(a1:z0l):Option (z0l) :=
 cnd (decide (a0.fCount=0))
  (some a1)
 <| cnd (decide (a1.fCount=0))
  (some a0)
 <| bnd (zbk n a0.fKind a0.fValue a1.fValue) fun x1 =>
 some (⟨a0.fKind,(IntKind.wrap .i64 (a0.fCount+a1.fCount)),x1⟩)
def zfx (n:Nat)(a0:z0l)(a1:z03)(a2:Int):Option (z0l) :=
 bnd (ze8 n a2 a1) fun x1 =>
 bnd (ze9 n a0 (⟨a2,1,x1⟩:z0l)) fun x2 =>
 some x2
def z8e (n:Nat)(a2c0:Int)(a1:(List z03))(k1_0_0:Int->Int->Int->Int->ByteArray->Option (z0l)):Nat->Int×Int×Int×Int×Int×ByteArray->Option (z0l)
 |0,_=>none
 |mv1_0+1,v1_0 =>
  cnd (decide (v1_0.1<((a1.map z0a).length:Int)))
   (idx a1 v1_0.1 fun x46 =>
   bnd (zfx n (⟨v1_0.2.1,v1_0.2.2.1,⟨v1_0.2.2.2.1,v1_0.2.2.2.2.1,v1_0.2.2.2.2.2⟩⟩:z0l) x46 a2c0) fun x47 =>
   (z8e n a2c0 a1 k1_0_0 mv1_0) ((IntKind.wrap .i64 (v1_0.1+1)),x47.fKind,x47.fCount,x47.fValue.fKind,x47.fValue.fNum,x47.fValue.fText))
  <| k1_0_0 v1_0.2.1 v1_0.2.2.1 v1_0.2.2.2.1 v1_0.2.2.2.2.1 v1_0.2.2.2.2.2
def zcb (n:Nat)(a0:z0l)(a1:(List z03))(a2c0:Int):Option (z0l) :=
 z8e n a2c0 a1
  (fun k1_0_0y0 k1_0_0y1 k1_0_0y2 k1_0_0y3 k1_0_0y4=>some (⟨k1_0_0y0,k1_0_0y1,⟨k1_0_0y2,k1_0_0y3,k1_0_0y4⟩⟩)) n (0,a0.fKind,a0.fCount,a0.fValue.fKind,a0.fValue.fNum,a0.fValue.fText)
def z7c (n:Nat)(a0:z0l)(w1_0:Bool):Option (Int) :=
 cnd (w1_0)
  (some 2)
 <| reg <| cnd (decide (a0.fCount=0))
  (cnd (!((decide (a0.fValue.fKind=0) && (decide (a0.fValue.fNum=0) && ((a0.fValue.fText.toList == ByteArray.empty.toList) && true)))))
    (some 3)
  <| some 0)
 <| cnd (decide (a0.fKind=0))
  (cnd (!((decide (a0.fValue.fKind=0) && (decide (a0.fValue.fNum=0) && ((a0.fValue.fText.toList == ByteArray.empty.toList) && true)))))
    (some 3)
  <| some 0)
 <| reg <| cnd (decide (a0.fKind=1))
  (reg <| cnd (decide (a0.fValue.fKind=0))
    (cnd ((a0.fValue.fText.toList == ByteArray.empty.toList))
      (cnd (decide ((IntKind.wrap .i64 (0-(IntKind.wrap .i64 (a0.fCount*1099511627776))))<=a0.fValue.fNum))
        (cnd (!(decide (a0.fValue.fNum<=(IntKind.wrap .i64 (a0.fCount*1099511627776)))))
          (some 3)
        <| some 0)
      <| some 3)
    <| some 3)
  <| some 3)
 <| reg <| bnd (zah n a0.fValue) fun x3 =>
 cnd (decide (x3=0))
  (bnd (zap n a0.fKind a0.fValue) fun x4 =>
  cnd (!(x4))
   (some 3)
  <| some 0)
 <| some 3
attribute [irreducible] z7c
def zd9 (n:Nat)(a0:z0l):Option (Int) :=
 bnd (zaq n a0.fKind) fun x1 =>
 cnd (!(x1))
  (some 1)
 <| jon (z7c n a0) <|
 reg <| cnd (decide (a0.fCount<0))
  (z7c n a0 true)
 <| z7c n a0 (decide (4096<a0.fCount))
def z6t (n:Nat)(a1:z03)(a0:z0l)(w1_0:Bool):Option (z03×Int) :=
 cnd (w1_0)
  (some (a1,0))
 <| some (a0.fValue,0)
attribute [irreducible] z6t
def z9x (n:Nat)(a0:z0l)(a1:z03):Option (z03×Int) :=
 bnd (zd9 n a0) fun x1 =>
 cnd (!decide (x1=0))
  (some (⟨0,0,ByteArray.empty⟩,x1))
 <| bnd (z9i n a0.fKind a1) fun x2 =>
 cnd (!decide (x2=0))
  (some (⟨0,0,ByteArray.empty⟩,x2))
 <| cnd (decide (a0.fKind=0))
  (some (⟨0,a0.fCount,ByteArray.empty⟩,0))
 <| jon (z6t n a1 a0) <|
 reg <| cnd (decide (a0.fCount=0))
  (z6t n a1 a0 (!decide (a0.fKind=1)))
 <| z6t n a1 a0 false
def zar (n:Nat)(a2:z03)(a1:(List z03))(a0:Int)(k1_0_0:Option (z03×Int)):Nat->Int->Option (z03×Int)
 |0,_=>none
 |mv1_0+1,v1_0 =>
  cnd (decide (v1_0<((a1.map z0a).length:Int)))
   (idx a1 v1_0 fun x44 =>
   bnd (z9i n a0 x44) fun x45 =>
   cnd (!decide (x45=0))
    (some (⟨0,0,ByteArray.empty⟩,x45))
   <| (zar n a2 a1 a0 k1_0_0 mv1_0) (IntKind.wrap .i64 (v1_0+1)))
  <| k1_0_0
def ze0 (n:Nat)(a0:Int)(a1:(List z03))(a2:z03):Option (z03×Int) :=
 bnd (zaq n a0) fun x1 =>
 cnd (!(x1))
  (some (⟨0,0,ByteArray.empty⟩,1))
 <| cnd (decide (4096<((a1.map z0a).length:Int)))
  (some (⟨0,0,ByteArray.empty⟩,5))
 <| zar n a2 a1 a0
  (bnd (zcb n (⟨a0,0,⟨0,0,ByteArray.empty⟩⟩:z0l) a1 a0) fun x42 =>
 bnd (z9x n x42 a2) fun x43 =>
 some (x43.1,x43.2)) n 0
def zlt (n:Nat)(a0:Int):Option (Bool) :=
 some (!decide (a0=a0))
def z2o (n:Nat)(a0:Int)(a1:Int):Option (Int) :=
 bnd (zlt n a0) fun x1 =>
 bnd (zlt n a1) fun x2 =>
 cnd (x1)
  (cnd (x2)
    (some 0)
  <| some (-1))
 <| cnd (x2)
  (some 1)
 <| cnd (decide (a0<a1))
  (some (-1))
 <| cnd (decide (a1<a0))
  (some 1)
 <| some 0
def zi5 (n:Nat)(a0:(List Int))(k1_0_0:Option (Int)):Nat->Int->Option (Int)
 |0,_=>none
 |mv1_0+1,v1_0 =>
  cnd (decide (v1_0<((a0.map aI).length:Int)))
   (idx a0 v1_0 fun x41 =>
   cnd (!decide (x41=0))
    (some x41)
   <| (zi5 n a0 k1_0_0 mv1_0) (IntKind.wrap .i64 (v1_0+1)))
  <| k1_0_0
def zfw (n:Nat)(a0:(List Int)):Option (Int) :=
 zi5 n a0
  (some 0) n 0
def zj3 (n:Nat)(a0:z13)(a1:z13):Option (Int) :=
 bnd (z2o n a0.fTime a1.fTime) fun x1 =>
 bnd (z2o n a0.fSource a1.fSource) fun x2 =>
 bnd (z2o n a0.fSeq a1.fSeq) fun x3 =>
 bnd (zfw n ([x1,x2,x3])) fun x4 =>
 some x4
def zd4 (n:Nat)(a0:z0p)(a1:z0p):Option (Int) :=
 bnd (zj3 n (⟨a0.fRef.fTime,a0.fRef.fSource,a0.fRef.fSeq⟩:z13) (⟨a1.fRef.fTime,a1.fRef.fSource,a1.fRef.fSeq⟩:z13)) fun x1 =>
 bnd (z2o n a0.fVar a1.fVar) fun x2 =>
 bnd (zfw n ([x1,x2])) fun x3 =>
 some x3
def z74 (n:Nat)(a1:(List z0p))(a0:(List z0p))(k1_0_0:Option (Int)):Nat->Int->Option (Int)
 |0,_=>none
 |mv1_0+1,v1_0 =>
  cnd (decide (v1_0<((a0.map z06).length:Int)))
   (idx a0 v1_0 fun x41 =>
   cnd (decide (((a1.map z06).length:Int)<=v1_0))
    (some 1)
   <| idx a1 v1_0 fun x42 =>
   bnd (zd4 n (⟨x41.fVar,⟨x41.fRef.fTime,x41.fRef.fSource,x41.fRef.fSeq⟩⟩:z0p) (⟨x42.fVar,⟨x42.fRef.fTime,x42.fRef.fSource,x42.fRef.fSeq⟩⟩:z0p)) fun x43 =>
   cnd (!decide (x43=0))
    (some x43)
   <| (z74 n a1 a0 k1_0_0 mv1_0) (IntKind.wrap .i64 (v1_0+1)))
  <| k1_0_0
def zaa (n:Nat)(a0:(List z0p))(a1:(List z0p)):Option (Int) :=
 z74 n a1 a0
  (cnd (decide (((a0.map z06).length:Int)<((a1.map z06).length:Int)))
  (some (-1))
 <| some 0) n 0
def zd5 (n:Nat)(a0:z02)(a1:z02):Option (Int) :=
 bnd (zaa n a0.fBindings a1.fBindings) fun x1 =>
 some x1
def zey (n:Nat)(a0:z0c)(a1:z0c):Option (Int) :=
 bnd (z2o n a0.fScope a1.fScope) fun x1 =>
 bnd (z2o n a0.fTime a1.fTime) fun x2 =>
 bnd (zfw n ([x1,x2])) fun x3 =>
 some x3
def z4a (n:Nat)(a1:(List z0c))(a0:(List z0c))(k1_0_0:Option (Int)):Nat->Int->Option (Int)
 |0,_=>none
 |mv1_0+1,v1_0 =>
  cnd (decide (v1_0<((a0.map z07).length:Int)))
   (idx a0 v1_0 fun x41 =>
   cnd (decide (((a1.map z07).length:Int)<=v1_0))
    (some 1)
   <| idx a1 v1_0 fun x42 =>
   bnd (zey n x41 x42) fun x43 =>
   cnd (!decide (x43=0))
    (some x43)
   <| (z4a n a1 a0 k1_0_0 mv1_0) (IntKind.wrap .i64 (v1_0+1)))
  <| k1_0_0
def z8b (n:Nat)(a0:(List z0c))(a1:(List z0c)):Option (Int) :=
 z4a n a1 a0
  (cnd (decide (((a0.map z07).length:Int)<((a1.map z07).length:Int)))
  (some (-1))
 <| some 0) n 0
def zh1 (n:Nat)(a0:z00)(a1:z00):Option (Int) :=
 bnd (z2o n a0.fState a1.fState) fun x1 =>
 bnd (zd5 n (⟨a0.fBindings⟩:z02) (⟨a1.fBindings⟩:z02)) fun x2 =>
 bnd (z8b n a0.fStarts a1.fStarts) fun x3 =>
 bnd (zfw n ([x1,x2,x3])) fun x4 =>
 some x4
def z6p (n:Nat)(w1_0:Bool):Option (Bool) :=
 some w1_0
attribute [irreducible] z6p
def ziz (n:Nat)(a0:z01):Option (Bool) :=
 jon (z6p n) <|
 reg <| cnd (decide (0<=a0.fTime))
  (cnd (decide (a0.fTime<=1099511627776))
    (cnd (decide (0<=a0.fSource))
      (cnd (decide (a0.fSource<8))
        (cnd (decide (0<=a0.fSeq))
          (z6p n (decide (a0.fSeq<=1099511627776)))
        <| z6p n false)
      <| z6p n false)
    <| z6p n false)
  <| z6p n false)
 <| z6p n false
def ziy (n:Nat)(a0:z01):Option (z13) :=
 some (⟨a0.fTime,a0.fSource,a0.fSeq⟩)
def zi4 (n:Nat)(a0:z13)(a1:z13):Option (Int) :=
 bnd (z2o n a0.fTime a1.fTime) fun x1 =>
 bnd (z2o n a0.fSource a1.fSource) fun x2 =>
 bnd (z2o n a0.fSeq a1.fSeq) fun x3 =>
 bnd (zfw n ([x1,x2,x3])) fun x4 =>
 some x4
def zew (n:Nat)(a0:z0p)(a1:z01):Option (Bool) :=
 bnd (ziy n a1) fun x1 =>
 bnd (zi4 n (⟨a0.fRef.fTime,a0.fRef.fSource,a0.fRef.fSeq⟩:z13) (⟨x1.fTime,x1.fSource,x1.fSeq⟩:z13)) fun x2 =>
 some (decide (0<=x2))
def z5b (n:Nat)(a1c0:z01)(a0:(List z0p))(k1_0_0:Option (Int)):Nat->Int->Option (Int)
 |0,_=>none
 |mv1_0+1,v1_0 =>
  cnd (decide (v1_0<((a0.map z06).length:Int)))
   (idx a0 v1_0 fun x41 =>
   bnd (zew n (⟨x41.fVar,⟨x41.fRef.fTime,x41.fRef.fSource,x41.fRef.fSeq⟩⟩:z0p) a1c0) fun x42 =>
   cnd (x42)
    (some v1_0)
   <| (z5b n a1c0 a0 k1_0_0 mv1_0) (IntKind.wrap .i64 (v1_0+1)))
  <| k1_0_0
def z96 (n:Nat)(a0:(List z0p))(a1c0:z01):Option (Int) :=
 z5b n a1c0 a0
  (some (-1)) n 0
def z7s (n:Nat)(a0:(List z0p))(a1c0:z01):Option (Bool) :=
 bnd (z96 n a0 a1c0) fun x1 =>
 some (decide (0<=x1))
def zz1 (n:Nat)(a0:z00)(a1:z01):Option (Bool) :=
 bnd (z7s n a0.fBindings a1) fun x1 =>
 some x1
def zex (n:Nat)(a0:z00)(a1:z01):Option (Bool) :=
 bnd (zz1 n a0 a1) fun x1 =>
 some x1
def z5c (n:Nat)(a1c0:z01)(a0:(List z00))(k1_0_0:Option (Int)):Nat->Int->Option (Int)
 |0,_=>none
 |mv1_0+1,v1_0 =>
  cnd (decide (v1_0<((a0.map z0b).length:Int)))
   (idx a0 v1_0 fun x41 =>
   bnd (zex n x41 a1c0) fun x42 =>
   cnd (x42)
    (some v1_0)
   <| (z5c n a1c0 a0 k1_0_0 mv1_0) (IntKind.wrap .i64 (v1_0+1)))
  <| k1_0_0
def z97 (n:Nat)(a0:(List z00))(a1c0:z01):Option (Int) :=
 z5c n a1c0 a0
  (some (-1)) n 0
def z7t (n:Nat)(a0:(List z00))(a1c0:z01):Option (Bool) :=
 bnd (z97 n a0 a1c0) fun x1 =>
 some (decide (0<=x1))
def zrq (n:Nat)(a0:(List z00))(a1:z01):Option (Int) :=
 bnd (ziz n a1) fun x1 =>
 cnd (!(x1))
  (some 2)
 <| bnd (z7t n a0 a1) fun x2 =>
 cnd (x2)
  (some 14)
 <| some 0
end Go.Proofs.YtjpknpjjcddnnaaGreat
