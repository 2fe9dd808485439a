/- What some functions compute, over plain values. -/
import Derived.Test.YthbogefcfhmpgaaGreatK11
set_option linter.unusedVariables false
set_option linter.unusedSimpArgs false
set_option maxRecDepth 100000
set_option maxHeartbeats 8000000
namespace Go.Proofs.YthbogefcfhmpgaaGreat
open Go.RowKit
open IntKind renaming wrap->aA
structure A6 where
 fKind:Int
 fNum:Int
 fText:ByteArray
deriving DecidableEq,Inhabited
def Ac (x:A6):AV:=.agg [aI (x.fKind),aI (x.fNum),.str (x.fText)]
abbrev C2 (x:A6):List AV:=[aI (x.fKind),aI (x.fNum),.str (x.fText)]
structure Ap where
 fOp:Int
 fArgs:(List AV)
 fVar:Int
 fField:Int
 fKind:Int
 fValue:A6
deriving Inhabited
def Ao (x:Ap):AV:=.agg [aI (x.fOp),.sl 8 (x.fArgs.map idA),aI (x.fVar),aI (x.fField),aI (x.fKind),aI (x.fValue.fKind),aI (x.fValue.fNum),.str (x.fValue.fText)]
abbrev C9 (x:Ap):List AV:=[aI (x.fOp),.sl 8 (x.fArgs.map idA),aI (x.fVar),aI (x.fField),aI (x.fKind),aI (x.fValue.fKind),aI (x.fValue.fNum),.str (x.fValue.fText)]
def Bp:AV->Option Ap
 |.agg [.int .i64 c0,.sl 8 c1,.int .i64 c2,.int .i64 c3,.int .i64 c4,.int .i64 c5,.int .i64 c6,.str c7]=>some ⟨c0,c1,c2,c3,c4,⟨c5,c6,c7⟩⟩
 |_=>none
theorem Da (a:AV)(y:Ap)(h:Bp a=some y):a=Ao y:=by
 unfold Bp at h
 split at h
 ·injection h with h;subst h;simp [Ao,aI,Ru]
 ·cases h
theorem Ub (y:Ap):Bp (Ao y)=some y:=by simp [Bp,Ao,aI,Ru]
def J7 (n:Nat)(b:Ap->Int->Option (Int))(a1:Int)(a0:Ap)(c:Int×Int)(d:Int->Option (Int))(e:(Int×Int)->Option (Int))(f:Bool):Option (Int) :=
 cnd (f)
  (idxD Bp a0.fArgs c.2 fun g =>
  bnd (b g a1) fun h =>
  e ((aA .i64 (c.1+h)),(aA .i64 (c.2+1))))
 <| d c.1
def Ep (n:Nat)(b:Ap->Int->Option (Int))(a1:Int)(a0:Ap)(c:Int->Option (Int)):Nat->Int×Int->Option (Int)
 |0,_=>none
 |e+1,d =>
  jon (J7 n b a1 a0 d c (Ep n b a1 a0 c e)) <|
  reg <| cnd (decide (d.2<((a0.fArgs.map idA).length:Int)))
   (J7 n b a1 a0 d c (Ep n b a1 a0 c e) (decide (d.1<=a1)))
  <| J7 n b a1 a0 d c (Ep n b a1 a0 c e) false
def Du:Nat->Ap->Int->Option (Int)
 |0,_,_=>none
 |n+1,a0,a1 =>
 Ep n (Du n) a1 a0
  (fun b=>some b) n (1,0)
def G7 (n:Nat)(b:Ap->Option (Int))(a0:Ap)(d:Int->Option (Int)):Nat->Int×Int->Option (Int)
 |0,_=>none
 |e+1,c =>
  cnd (decide (c.2<((a0.fArgs.map idA).length:Int)))
   (idxD Bp a0.fArgs c.2 fun f =>
   bnd (b f) fun g =>
   (G7 n b a0 d e) ((max c.1 g),(aA .i64 (c.2+1))))
  <| d c.1
def Dt:Nat->Ap->Option (Int)
 |0,_=>none
 |n+1,a0 =>
 G7 n (Dt n) a0
  (fun b=>some (aA .i64 (b+1))) n (0,0)
def Eo (n:Nat)(b:Bool):Option (Int) :=
 cnd (b)
  (some 2)
 <| some (-1)
def G6 (n:Nat)(a0:Int)(b:Bool):Option (Int) :=
 cnd (b)
  (some 0)
 <| cnd (decide (a0=12))
  (some 1)
 <| jon (Eo n) <|
 reg <| cnd (decide (a0=5))
  (Eo n (decide (a0=5)))
 <| reg <| cnd (decide (a0=6))
  (Eo n (decide (a0=6)))
 <| reg <| cnd (decide (a0=7))
  (Eo n (decide (a0=7)))
 <| reg <| cnd (decide (a0=8))
  (Eo n (decide (a0=8)))
 <| reg <| cnd (decide (a0=9))
  (Eo n (decide (a0=9)))
 <| reg <| cnd (decide (a0=10))
  (Eo n (decide (a0=10)))
 <| Eo n (decide (a0=11))
def T5 (n:Nat)(a0:Int):Option (Int) :=
 jon (G6 n a0) <|
 reg <| cnd (decide (a0=0))
  (G6 n a0 (decide (a0=0)))
 <| reg <| cnd (decide (a0=1))
  (G6 n a0 (decide (a0=1)))
 <| reg <| cnd (decide (a0=2))
  (G6 n a0 (decide (a0=2)))
 <| reg <| cnd (decide (a0=3))
  (G6 n a0 (decide (a0=3)))
 <| G6 n a0 (decide (a0=4))
def Jg (n:Nat)(b:Bool)(c:Bool):Option (Bool×Bool) :=
 some (c,b)
def M5 (n:Nat)(a0:Int)(b:Bool):Option (Bool×Bool) :=
 jon (Jg n b) <|
 reg <| cnd (b)
  (Jg n b true)
 <| cnd (decide (a0=2))
  (Jg n b true)
 <| Jg n b (decide (a0=3))
def Qm (n:Nat)(a0:Int):Option (Bool×Bool) :=
 jon (M5 n a0) <|
 reg <| cnd (decide (a0=1))
  (M5 n a0 true)
 <| M5 n a0 (decide (a0=4))
def Ec (n:Nat)(a0:A6):Option (Int) :=
 cnd (decide (a0.fKind<0))
  (some 1)
 <| cnd (decide (2<a0.fKind))
  (some 1)
 <| cnd (decide (a0.fKind=2))
  (cnd (!decide (a0.fNum=0))
    (some 3)
  <| cnd (decide (64<((a0.fText.size:Nat):Int)))
   (some 13)
  <| some 0)
 <| cnd (!(a0.fText.toList == ByteArray.empty.toList))
  (some 3)
 <| cnd (decide (a0.fKind=1))
  (cnd (decide (a0.fNum<0))
    (some 2)
  <| cnd (decide (1<a0.fNum))
   (some 2)
  <| cnd (decide (a0.fNum<(-1099511627776)))
   (some 2)
  <| cnd (decide (1099511627776<a0.fNum))
   (some 2)
  <| some 0)
 <| cnd (decide (a0.fNum<(-1099511627776)))
  (some 2)
 <| cnd (decide (1099511627776<a0.fNum))
  (some 2)
 <| some 0
def H9 (n:Nat)(b:Bool):Option (Bool) :=
 some b
def Mq (n:Nat)(a0:Int)(a1:A6):Option (Bool) :=
 jon (H9 n) <|
 reg <| cnd (decide (a1.fKind=0))
  (H9 n true)
 <| cnd (decide (a0=0))
  (H9 n true)
 <| cnd (decide (a0=4))
  (H9 n true)
 <| H9 n (decide (a0=5))
def Bx (n:Nat)(b:Bool):Option (Int) :=
 cnd (b)
  (some 3)
 <| some 0
def Hh (n:Nat)(a0:Ap)(x2:Bool×Bool)(b:Bool)(c:Bool):Option (Int) :=
 cnd (c)
  (some 9)
 <| jon (Bx n) <|
 reg <| cnd (!(x2.1))
  (cnd (!decide (a0.fVar=0))
    (Bx n true)
  <| cnd (!(x2.2))
   (cnd (!decide (a0.fField=0))
     (Bx n true)
   <| cnd (!(decide (a0.fOp=4)))
    (cnd (!decide (a0.fKind=0))
      (Bx n true)
    <| cnd (!(b))
     (Bx n (!(decide (a0.fValue.fKind=0) && (decide (a0.fValue.fNum=0) && ((a0.fValue.fText.toList == ByteArray.empty.toList) && true)))))
    <| Bx n false)
   <| cnd (!(b))
    (Bx n (!(decide (a0.fValue.fKind=0) && (decide (a0.fValue.fNum=0) && ((a0.fValue.fText.toList == ByteArray.empty.toList) && true)))))
   <| Bx n false)
  <| cnd (!(decide (a0.fOp=4)))
   (cnd (!decide (a0.fKind=0))
     (Bx n true)
   <| cnd (!(b))
    (Bx n (!(decide (a0.fValue.fKind=0) && (decide (a0.fValue.fNum=0) && ((a0.fValue.fText.toList == ByteArray.empty.toList) && true)))))
   <| Bx n false)
  <| cnd (!(b))
   (Bx n (!(decide (a0.fValue.fKind=0) && (decide (a0.fValue.fNum=0) && ((a0.fValue.fText.toList == ByteArray.empty.toList) && true)))))
  <| Bx n false)
 <| cnd (!(x2.2))
  (cnd (!decide (a0.fField=0))
    (Bx n true)
  <| cnd (!(decide (a0.fOp=4)))
   (cnd (!decide (a0.fKind=0))
     (Bx n true)
   <| cnd (!(b))
    (Bx n (!(decide (a0.fValue.fKind=0) && (decide (a0.fValue.fNum=0) && ((a0.fValue.fText.toList == ByteArray.empty.toList) && true)))))
   <| Bx n false)
  <| cnd (!(b))
   (Bx n (!(decide (a0.fValue.fKind=0) && (decide (a0.fValue.fNum=0) && ((a0.fValue.fText.toList == ByteArray.empty.toList) && true)))))
  <| Bx n false)
 <| cnd (!(decide (a0.fOp=4)))
  (cnd (!decide (a0.fKind=0))
    (Bx n true)
  <| cnd (!(b))
   (Bx n (!(decide (a0.fValue.fKind=0) && (decide (a0.fValue.fNum=0) && ((a0.fValue.fText.toList == ByteArray.empty.toList) && true)))))
  <| Bx n false)
 <| cnd (!(b))
  (Bx n (!(decide (a0.fValue.fKind=0) && (decide (a0.fValue.fNum=0) && ((a0.fValue.fText.toList == ByteArray.empty.toList) && true)))))
 <| Bx n false
def M6 (n:Nat)(a0:Ap)(x2:Bool×Bool)(b:Bool)(_:Unit):Option (Int) :=
 jon (Hh n a0 x2 b) <|
 reg <| cnd (decide (a0.fOp=4))
  (bnd (Mq n a0.fKind a0.fValue) fun c =>
  cnd (!(c))
   (Hh n a0 x2 b true)
  <| cnd (decide (a0.fKind=1))
   (Hh n a0 x2 b (!(decide (a0.fValue.fKind=0) && (decide (a0.fValue.fNum=0) && ((a0.fValue.fText.toList == ByteArray.empty.toList) && true)))))
  <| Hh n a0 x2 b false)
 <| Hh n a0 x2 b false
def M7 (n:Nat)(a0:Ap)(x2:Bool×Bool)(b:Bool):Option (Int) :=
 jon (M6 n a0 x2 b) <|
 reg <| cnd (b)
  (bnd (Ec n a0.fValue) fun c =>
  cnd (!decide (c=0))
   (some c)
  <| M6 n a0 x2 b ())
 <| M6 n a0 x2 b ()
def Jh (n:Nat)(a0:Ap)(x2:Bool×Bool)(b:Bool):Option (Int) :=
 cnd (b)
  (some 1)
 <| jon (M7 n a0 x2) <|
 reg <| cnd (decide (a0.fOp=4))
  (M7 n a0 x2 true)
 <| M7 n a0 x2 (decide (a0.fOp=0))
def E7 (n:Nat)(a0:Ap)(x2:Bool×Bool)(b:Bool):Option (Int) :=
 cnd (b)
  (some 2)
 <| jon (Jh n a0 x2) <|
 reg <| cnd (decide (a0.fOp=4))
  (cnd (decide (a0.fKind<1))
    (Jh n a0 x2 true)
  <| Jh n a0 x2 (decide (5<a0.fKind)))
 <| Jh n a0 x2 false
def Mx (n:Nat)(a0:Ap):Option (Int) :=
 bnd (T5 n a0.fOp) fun x1 =>
 cnd (decide (x1<0))
  (some 1)
 <| cnd (!decide (((a0.fArgs.map idA).length:Int)=x1))
  (some 15)
 <| bnd (Qm n a0.fOp) fun x2 =>
 jon (E7 n a0 x2) <|
 reg <| cnd (x2.1)
  (cnd (decide (a0.fVar<0))
    (E7 n a0 x2 true)
  <| cnd (decide (16<=a0.fVar))
   (E7 n a0 x2 true)
  <| cnd (x2.2)
   (cnd (decide (a0.fField<0))
     (E7 n a0 x2 true)
   <| E7 n a0 x2 (decide (8<=a0.fField)))
  <| E7 n a0 x2 false)
 <| cnd (x2.2)
  (cnd (decide (a0.fField<0))
    (E7 n a0 x2 true)
  <| E7 n a0 x2 (decide (8<=a0.fField)))
 <| E7 n a0 x2 false
def G5 (n:Nat)(b:Ap->Option (Int))(a0:Ap)(c:Option (Int)):Nat->Int->Option (Int)
 |0,_=>none
 |e+1,d =>
  cnd (decide (d<((a0.fArgs.map idA).length:Int)))
   (idxD Bp a0.fArgs d fun g =>
   bnd (b g) fun f =>
   cnd (!decide (f=0))
    (some f)
   <| (G5 n b a0 c e) (aA .i64 (d+1)))
  <| c
def Ea:Nat->Ap->Option (Int)
 |0,_=>none
 |n+1,a0 =>
 bnd (Mx n a0) fun x1 =>
 cnd (!decide (x1=0))
  (some x1)
 <| G5 n (Ea n) a0
  (some 0) n 0
def Eb (n:Nat)(a0:Ap):Option (Int) :=
 bnd (Du n a0 64) fun x1 =>
 cnd (decide (64<x1))
  (some 5)
 <| bnd (Dt n a0) fun x2 =>
 cnd (decide (12<x2))
  (some 12)
 <| bnd (Ea n a0) fun x3 =>
 some x3
structure B7 where
 fScope:Int
 fType:Int
 fVar:Int
 fCond:Ap
deriving Inhabited
def B1 (x:B7):AV:=.agg [aI (x.fScope),aI (x.fType),aI (x.fVar),aI (x.fCond.fOp),.sl 8 (x.fCond.fArgs.map idA),aI (x.fCond.fVar),aI (x.fCond.fField),aI (x.fCond.fKind),aI (x.fCond.fValue.fKind),aI (x.fCond.fValue.fNum),.str (x.fCond.fValue.fText)]
abbrev Um (x:B7):List AV:=[aI (x.fScope),aI (x.fType),aI (x.fVar),aI (x.fCond.fOp),.sl 8 (x.fCond.fArgs.map idA),aI (x.fCond.fVar),aI (x.fCond.fField),aI (x.fCond.fKind),aI (x.fCond.fValue.fKind),aI (x.fCond.fValue.fNum),.str (x.fCond.fValue.fText)]
structure Cb where
 fGuards:(List B7)
deriving Inhabited
def Aq (x:Cb):AV:=.agg [.sl 11 (x.fGuards.map B1)]
structure C8 where
 fScope:Int
 fSpan:Int
deriving DecidableEq,Inhabited
def Bn (x:C8):AV:=.agg [aI (x.fScope),aI (x.fSpan)]
structure Ai where
 fFrom:Int
 fTo:Int
 fVar:Int
 fType:Int
 fCond:Ap
 fOpens:(List Int)
 fCloses:(List Int)
 fChecks:(List AV)
 fLimits:(List C8)
 fInside:(List Int)
deriving Inhabited
def Ab (x:Ai):AV:=.agg [aI (x.fFrom),aI (x.fTo),aI (x.fVar),aI (x.fType),aI (x.fCond.fOp),.sl 8 (x.fCond.fArgs.map idA),aI (x.fCond.fVar),aI (x.fCond.fField),aI (x.fCond.fKind),aI (x.fCond.fValue.fKind),aI (x.fCond.fValue.fNum),.str (x.fCond.fValue.fText),.sl 1 (x.fOpens.map aI),.sl 1 (x.fCloses.map aI),.sl 8 (x.fChecks.map idA),.sl 2 (x.fLimits.map Bn),.sl 1 (x.fInside.map aI)]
abbrev Bq (x:Ai):List AV:=[aI (x.fFrom),aI (x.fTo),aI (x.fVar),aI (x.fType),aI (x.fCond.fOp),.sl 8 (x.fCond.fArgs.map idA),aI (x.fCond.fVar),aI (x.fCond.fField),aI (x.fCond.fKind),aI (x.fCond.fValue.fKind),aI (x.fCond.fValue.fNum),.str (x.fCond.fValue.fText),.sl 1 (x.fOpens.map aI),.sl 1 (x.fCloses.map aI),.sl 8 (x.fChecks.map idA),.sl 2 (x.fLimits.map Bn),.sl 1 (x.fInside.map aI)]
structure A9 where
 fVars:Int
 fScopes:Int
 fStates:(List Cb)
 fEdges:(List Ai)
deriving Inhabited
def B2 (x:A9):AV:=.agg [aI (x.fVars),aI (x.fScopes),.sl 1 (x.fStates.map Aq),.sl 17 (x.fEdges.map Ab)]
abbrev Ar (x:A9):List AV:=[aI (x.fVars),aI (x.fScopes),.sl 1 (x.fStates.map Aq),.sl 17 (x.fEdges.map Ab)]
def Mf (n:Nat)(b:Bool):Option (Bool) :=
 some b
def Cy (n:Nat)(a0:Int)(a1:Int):Option (Bool) :=
 jon (Mf n) <|
 reg <| cnd (decide (a0<0))
  (Mf n true)
 <| Mf n (decide (a1<a0))
def P3 (n:Nat)(a1:(List B7))(a0:A9)(c:Int)(b:Option (Int)):Nat->Int->Option (Int)
 |0,_=>none
 |e+1,d =>
  cnd (decide (d<c))
   (idx a1 d fun f =>
   idx a1 c fun g =>
   cnd (decide (f.fScope=g.fScope))
    (some 7)
   <| (P3 n a1 a0 c b e) (aA .i64 (d+1)))
  <| b
def J1 (n:Nat)(a1:(List B7))(a0:A9)(b:Int)(c:Int->Option (Int))(e:Bool):Option (Int) :=
 cnd (e)
  (some 2)
 <| P3 n a1 a0 b
  (idx a1 b fun f =>
 bnd (Eb n f.fCond) fun d =>
 cnd (!decide (d=0))
  (some d)
 <| c (aA .i64 (b+1))) n 0
def G1 (n:Nat)(a1:(List B7))(a0:A9)(b:Option (Int)):Nat->Int->Option (Int)
 |0,_=>none
 |d+1,c =>
  cnd (decide (c<((a1.map B1).length:Int)))
   (jon (J1 n a1 a0 c (G1 n a1 a0 b d)) <|
   reg <| idx a1 c fun e =>
   bnd (Cy n e.fScope (aA .i64 (a0.fScopes-1))) fun f =>
   cnd (f)
    (J1 n a1 a0 c (G1 n a1 a0 b d) true)
   <| idx a1 c fun g =>
   bnd (Cy n g.fType 15) fun h =>
   cnd (h)
    (J1 n a1 a0 c (G1 n a1 a0 b d) true)
   <| idx a1 c fun j =>
   bnd (Cy n j.fVar (aA .i64 (a0.fVars-1))) fun k =>
   J1 n a1 a0 c (G1 n a1 a0 b d) k)
  <| b
def T0 (n:Nat)(a0:A9)(a1:(List B7)):Option (Int) :=
 cnd (decide (64<((a1.map B1).length:Int)))
  (some 5)
 <| G1 n a1 a0
  (some 0) n 0
def P2 (n:Nat)(a1:Int)(a0:(List Int))(c:Int)(b:Option (Int)):Nat->Int->Option (Int)
 |0,_=>none
 |e+1,d =>
  cnd (decide (d<c))
   (idx a0 d fun f =>
   idx a0 c fun g =>
   cnd (decide (f=g))
    (some 7)
   <| (P2 n a1 a0 c b e) (aA .i64 (d+1)))
  <| b
def Lb (n:Nat)(a1:Int)(a0:(List Int))(c:Option (Int)):Nat->Int->Option (Int)
 |0,_=>none
 |d+1,b =>
  cnd (decide (b<((a0.map aI).length:Int)))
   (idx a0 b fun e =>
   bnd (Cy n e (aA .i64 (a1-1))) fun f =>
   cnd (f)
    (some 2)
   <| P2 n a1 a0 b
    ((Lb n a1 a0 c d) (aA .i64 (b+1))) n 0)
  <| c
def Q1 (n:Nat)(a0:(List Int))(a1:Int):Option (Int) :=
 Lb n a1 a0
  (some 0) n 0
def Ln (n:Nat)(a1:Ai)(b:Option (Int)):Nat->Int->Option (Int)
 |0,_=>none
 |d+1,c =>
  cnd (decide (c<((a1.fLimits.map Bn).length:Int)))
   (idx a1.fLimits c fun e =>
   bnd (Cy n e.fSpan 1099511627776) fun f =>
   cnd (f)
    (some 2)
   <| (Ln n a1 b d) (aA .i64 (c+1)))
  <| b
def H7 (n:Nat)(a1:Ai)(a0:A9)(b:(List Int))(c:Option (Int)):Nat->Int->Option (Int)
 |0,_=>none
 |f+1,d =>
  cnd (decide (d<4))
   (idx ([a1.fOpens,a1.fCloses,a1.fInside,b]:List (List Int)) d fun g =>
   bnd (Q1 n g a0.fScopes) fun e =>
   cnd (!decide (e=0))
    (some e)
   <| (H7 n a1 a0 b c f) (aA .i64 (d+1)))
  <| c
def Pf (n:Nat)(a1:Ai)(a0:A9)(c:(List Int)->Option (Int)):Nat->Int×(List Int)->Option (Int)
 |0,_=>none
 |d+1,b =>
  cnd (decide (b.1<((a1.fLimits.map Bn).length:Int)))
   (idx a1.fLimits b.1 fun e =>
   app b.2 [e.fScope] 8 fun f =>
   (Pf n a1 a0 c d) ((aA .i64 (b.1+1)),f))
  <| c b.2
def Qb (n:Nat)(a0:A9)(a1:Ai):Option (Int) :=
 Pf n a1 a0
  (fun b=>frz 7026 <| reg <| H7 n a1 a0 b
  (Ln n a1
  (some 0) n 0) n 0) n (0,[])
def Pw (n:Nat)(a1:Ai)(a0:A9)(b:Option (Int)):Nat->Int->Option (Int)
 |0,_=>none
 |d+1,c =>
  cnd (decide (c<((a1.fChecks.map idA).length:Int)))
   (idxD Bp a1.fChecks c fun f =>
   bnd (Eb n f) fun e =>
   cnd (!decide (e=0))
    (some e)
   <| (Pw n a1 a0 b d) (aA .i64 (c+1)))
  <| b
def Dr (n:Nat)(a2:Int)(a1:Ai)(a0:A9)(b:Bool):Option (Int) :=
 cnd (b)
  (some 2)
 <| cnd (decide (a1.fFrom<a2))
  (some 14)
 <| bnd (Eb n a1.fCond) fun x8 =>
 cnd (!decide (x8=0))
  (some x8)
 <| cnd (decide (64<((a1.fChecks.map idA).length:Int)))
  (some 5)
 <| Pw n a1 a0
  (bnd (Qb n a0 a1) fun c =>
 some c) n 0
def Te (n:Nat)(a0:A9)(a1:Ai)(a2:Int):Option (Int) :=
 jon (Dr n a2 a1 a0) <|
 reg <| bnd (Cy n a1.fFrom (aA .i64 (((a0.fStates.map Aq).length:Int)-1))) fun b =>
 cnd (b)
  (Dr n a2 a1 a0 true)
 <| cnd (!decide (a1.fTo=(-1)))
  (bnd (Cy n a1.fTo (aA .i64 (((a0.fStates.map Aq).length:Int)-1))) fun c =>
  cnd (c)
   (Dr n a2 a1 a0 true)
  <| bnd (Cy n a1.fVar (aA .i64 (a0.fVars-1))) fun d =>
  cnd (d)
   (Dr n a2 a1 a0 true)
  <| bnd (Cy n a1.fType 15) fun e =>
  Dr n a2 a1 a0 e)
 <| bnd (Cy n a1.fVar (aA .i64 (a0.fVars-1))) fun f =>
 cnd (f)
  (Dr n a2 a1 a0 true)
 <| bnd (Cy n a1.fType 15) fun g =>
 Dr n a2 a1 a0 g
def Pg (n:Nat)(a0:A9)(c:Option (Int)):Nat->Int×Int->Option (Int)
 |0,_=>none
 |d+1,b =>
  cnd (decide (b.2<((a0.fEdges.map Ab).length:Int)))
   (idx a0.fEdges b.2 fun f =>
   bnd (Te n a0 f b.1) fun e =>
   cnd (!decide (e=0))
    (some e)
   <| idx a0.fEdges b.2 fun g =>
   (Pg n a0 c d) (g.fFrom,(aA .i64 (b.2+1))))
  <| c
def Ph (n:Nat)(a0:A9)(b:Option (Int)):Nat->Int->Option (Int)
 |0,_=>none
 |d+1,c =>
  cnd (decide (c<((a0.fStates.map Aq).length:Int)))
   (idx a0.fStates c fun f =>
   bnd (T0 n a0 f.fGuards) fun e =>
   cnd (!decide (e=0))
    (some e)
   <| (Ph n a0 b d) (aA .i64 (c+1)))
  <| b
def G4 (n:Nat)(a0:A9)(b:Bool):Option (Int) :=
 cnd (b)
  (some 5)
 <| Ph n a0
  (Pg n a0
  (some 0) n (0,0)) n 0
def H8 (n:Nat)(a0:A9)(b:Bool):Option (Int) :=
 cnd (b)
  (some 2)
 <| jon (G4 n a0) <|
 reg <| cnd (decide (((a0.fStates.map Aq).length:Int)<1))
  (G4 n a0 true)
 <| cnd (decide (256<((a0.fStates.map Aq).length:Int)))
  (G4 n a0 true)
 <| G4 n a0 (decide (2048<((a0.fEdges.map Ab).length:Int)))
def E9 (n:Nat)(a0:A9):Option (Int) :=
 jon (H8 n a0) <|
 reg <| bnd (Cy n a0.fVars 16) fun b =>
 cnd (b)
  (H8 n a0 true)
 <| bnd (Cy n a0.fScopes 64) fun c =>
 H8 n a0 c
def Rh (n:Nat)(b:Ap->Option (Int×Int))(a0:Ap)(d:Int->Int->Option (Int×Int)):Nat->Int×Int×Int->Option (Int×Int)
 |0,_=>none
 |e+1,c =>
  cnd (decide (c.2.2<((a0.fArgs.map idA).length:Int)))
   (idxD Bp a0.fArgs c.2.2 fun g =>
   bnd (b g) fun f =>
   (Rh n b a0 d e) ((aA .i64 (c.1+f.1)),(max c.2.1 f.2),(aA .i64 (c.2.2+1))))
  <| d c.1 c.2.1
def Ia:Nat->Ap->Option (Int×Int)
 |0,_=>none
 |n+1,a0 =>
 Rh n (Ia n) a0
  (fun b c=>some (b,(aA .i64 (c+1)))) n (1,0,0)
def Nd (n:Nat)(a0:Int)(b:Bool):Option (Int×Bool) :=
 cnd (b)
  (some (0,false))
 <| cnd (decide (a0<5))
  (some (0,true))
 <| cnd (decide (a0=12))
  (some (1,true))
 <| some (2,true)
def Ui (n:Nat)(a0:Int):Option (Int×Bool) :=
 jon (Nd n a0) <|
 reg <| cnd (decide (a0<0))
  (Nd n a0 true)
 <| Nd n a0 (decide (12<a0))
def Nh (n:Nat)(b:Bool):Option (Bool×Bool) :=
 cnd (b)
  (some (true,false))
 <| some (false,false)
def Ni (n:Nat)(a0:Int)(b:Bool):Option (Bool×Bool) :=
 cnd (b)
  (some (true,true))
 <| jon (Nh n) <|
 reg <| cnd (decide (a0=2))
  (Nh n (decide (a0=2)))
 <| Nh n (decide (a0=3))
def Rl (n:Nat)(a0:Int):Option (Bool×Bool) :=
 jon (Ni n a0) <|
 reg <| cnd (decide (a0=1))
  (Ni n a0 (decide (a0=1)))
 <| Ni n a0 (decide (a0=4))
def Nm (n:Nat)(a0:A6):Option (Int) :=
 cnd (decide (a0.fKind=0))
  (cnd (decide (a0.fNum<(-1099511627776)))
    (some 2)
  <| cnd (decide (1099511627776<a0.fNum))
   (some 2)
  <| cnd (decide (a0.fKind=1))
   (cnd (!decide (a0.fNum=0))
     (cnd (!decide (a0.fNum=1))
       (some 2)
     <| cnd (decide (64<((a0.fText.size:Nat):Int)))
      (some 13)
     <| some 0)
   <| cnd (decide (64<((a0.fText.size:Nat):Int)))
    (some 13)
   <| some 0)
  <| cnd (decide (64<((a0.fText.size:Nat):Int)))
   (some 13)
  <| some 0)
 <| cnd (decide (a0.fKind=1))
  (cnd (!decide (a0.fNum=0))
    (cnd (!decide (a0.fNum=1))
      (some 2)
    <| cnd (decide (64<((a0.fText.size:Nat):Int)))
     (some 13)
    <| some 0)
  <| cnd (decide (64<((a0.fText.size:Nat):Int)))
   (some 13)
  <| some 0)
 <| cnd (decide (64<((a0.fText.size:Nat):Int)))
  (some 13)
 <| some 0
def Gs (n:Nat)(a0:A6):Option (Int) :=
 cnd (decide (a0.fKind=0))
  (cnd (decide (a0.fKind=0))
    (cnd (!(a0.fText.toList == ByteArray.empty.toList))
      (some 3)
    <| bnd (Nm n a0) fun x1 =>
    some x1)
  <| cnd (decide (a0.fKind=2))
   (cnd (!decide (a0.fNum=0))
     (some 3)
   <| bnd (Nm n a0) fun x2 =>
   some x2)
  <| some 1)
 <| cnd (decide (a0.fKind=1))
  (cnd (!(a0.fText.toList == ByteArray.empty.toList))
    (some 3)
  <| bnd (Nm n a0) fun x3 =>
  some x3)
 <| cnd (decide (a0.fKind=2))
  (cnd (!decide (a0.fNum=0))
    (some 3)
  <| bnd (Nm n a0) fun x4 =>
  some x4)
 <| some 1
def Ki (n:Nat)(b:Bool):Option (Bool) :=
 some b
def Uh (n:Nat)(a0:Int)(a1:A6):Option (Bool) :=
 jon (Ki n) <|
 reg <| cnd (decide (a1.fKind=0))
  (Ki n true)
 <| cnd (decide (a0=4))
  (Ki n true)
 <| Ki n (decide (a0=5))
def Hy (n:Nat)(b:Bool):Option (Int) :=
 cnd (b)
  (some 9)
 <| some 0
def U8 (n:Nat)(a0:Ap):Option (Int) :=
 bnd (Gs n a0.fValue) fun x1 =>
 cnd (!decide (x1=0))
  (some x1)
 <| jon (Hy n) <|
 reg <| cnd (decide (a0.fOp=4))
  (bnd (Uh n a0.fKind a0.fValue) fun x4 =>
  cnd (!(x4))
   (Hy n true)
  <| cnd (decide (a0.fKind=1))
   (Hy n (!(decide (a0.fValue.fKind=0) && (decide (a0.fValue.fNum=0) && ((a0.fValue.fText.toList == ByteArray.empty.toList) && true)))))
  <| Hy n false)
 <| Hy n false
def Bz (n:Nat)(b:Bool):Option (Int) :=
 cnd (b)
  (some 3)
 <| some 0
def Nj (n:Nat)(a0:Ap)(x2:Bool×Bool)(b:Bool)(_:Unit):Option (Int) :=
 jon (Bz n) <|
 reg <| cnd (!(x2.1))
  (cnd (!decide (a0.fVar=0))
    (Bz n true)
  <| cnd (!(x2.2))
   (cnd (!decide (a0.fField=0))
     (Bz n true)
   <| cnd (!(decide (a0.fOp=4)))
    (cnd (!decide (a0.fKind=0))
      (Bz n true)
    <| cnd (!(b))
     (Bz n (!(decide (a0.fValue.fKind=0) && (decide (a0.fValue.fNum=0) && ((a0.fValue.fText.toList == ByteArray.empty.toList) && true)))))
    <| Bz n false)
   <| cnd (!(b))
    (Bz n (!(decide (a0.fValue.fKind=0) && (decide (a0.fValue.fNum=0) && ((a0.fValue.fText.toList == ByteArray.empty.toList) && true)))))
   <| Bz n false)
  <| cnd (!(decide (a0.fOp=4)))
   (cnd (!decide (a0.fKind=0))
     (Bz n true)
   <| cnd (!(b))
    (Bz n (!(decide (a0.fValue.fKind=0) && (decide (a0.fValue.fNum=0) && ((a0.fValue.fText.toList == ByteArray.empty.toList) && true)))))
   <| Bz n false)
  <| cnd (!(b))
   (Bz n (!(decide (a0.fValue.fKind=0) && (decide (a0.fValue.fNum=0) && ((a0.fValue.fText.toList == ByteArray.empty.toList) && true)))))
  <| Bz n false)
 <| cnd (!(x2.2))
  (cnd (!decide (a0.fField=0))
    (Bz n true)
  <| cnd (!(decide (a0.fOp=4)))
   (cnd (!decide (a0.fKind=0))
     (Bz n true)
   <| cnd (!(b))
    (Bz n (!(decide (a0.fValue.fKind=0) && (decide (a0.fValue.fNum=0) && ((a0.fValue.fText.toList == ByteArray.empty.toList) && true)))))
   <| Bz n false)
  <| cnd (!(b))
   (Bz n (!(decide (a0.fValue.fKind=0) && (decide (a0.fValue.fNum=0) && ((a0.fValue.fText.toList == ByteArray.empty.toList) && true)))))
  <| Bz n false)
 <| cnd (!(decide (a0.fOp=4)))
  (cnd (!decide (a0.fKind=0))
    (Bz n true)
  <| cnd (!(b))
   (Bz n (!(decide (a0.fValue.fKind=0) && (decide (a0.fValue.fNum=0) && ((a0.fValue.fText.toList == ByteArray.empty.toList) && true)))))
  <| Bz n false)
 <| cnd (!(b))
  (Bz n (!(decide (a0.fValue.fKind=0) && (decide (a0.fValue.fNum=0) && ((a0.fValue.fText.toList == ByteArray.empty.toList) && true)))))
 <| Bz n false
def Nk (n:Nat)(a0:Ap)(x2:Bool×Bool)(b:Bool):Option (Int) :=
 jon (Nj n a0 x2 b) <|
 reg <| cnd (b)
  (bnd (U8 n a0) fun x8 =>
  cnd (!decide (x8=0))
   (some x8)
  <| Nj n a0 x2 b ())
 <| Nj n a0 x2 b ()
def Kk (n:Nat)(a0:Ap)(x2:Bool×Bool)(b:Bool):Option (Int) :=
 cnd (b)
  (some 1)
 <| jon (Nk n a0 x2) <|
 reg <| cnd (decide (a0.fOp=4))
  (Nk n a0 x2 true)
 <| Nk n a0 x2 (decide (a0.fOp=0))
def Eh (n:Nat)(a0:Ap)(x2:Bool×Bool)(b:Bool):Option (Int) :=
 cnd (b)
  (some 2)
 <| jon (Kk n a0 x2) <|
 reg <| cnd (decide (a0.fOp=4))
  (cnd (decide (a0.fKind<1))
    (Kk n a0 x2 true)
  <| Kk n a0 x2 (decide (5<a0.fKind)))
 <| Kk n a0 x2 false
def Up (n:Nat)(a0:Ap):Option (Int) :=
 bnd (Ui n a0.fOp) fun x1 =>
 cnd (!(x1.2))
  (some 1)
 <| cnd (!decide (((a0.fArgs.map idA).length:Int)=x1.1))
  (some 15)
 <| bnd (Rl n a0.fOp) fun x2 =>
 jon (Eh n a0 x2) <|
 reg <| cnd (x2.1)
  (cnd (decide (a0.fVar<0))
    (Eh n a0 x2 true)
  <| cnd (decide (16<=a0.fVar))
   (Eh n a0 x2 true)
  <| cnd (x2.2)
   (cnd (decide (a0.fField<0))
     (Eh n a0 x2 true)
   <| Eh n a0 x2 (decide (8<=a0.fField)))
  <| Eh n a0 x2 false)
 <| cnd (x2.2)
  (cnd (decide (a0.fField<0))
    (Eh n a0 x2 true)
  <| Eh n a0 x2 (decide (8<=a0.fField)))
 <| Eh n a0 x2 false
def Re (n:Nat)(b:Ap->Option (Int))(a0:Ap)(c:Option (Int)):Nat->Int->Option (Int)
 |0,_=>none
 |e+1,d =>
  cnd (decide (d<((a0.fArgs.map idA).length:Int)))
   (idxD Bp a0.fArgs d fun g =>
   bnd (b g) fun f =>
   cnd (!decide (f=0))
    (some f)
   <| (Re n b a0 c e) (aA .i64 (d+1)))
  <| c
def I7:Nat->Ap->Option (Int)
 |0,_=>none
 |n+1,a0 =>
 bnd (Up n a0) fun x1 =>
 cnd (!decide (x1=0))
  (some x1)
 <| Re n (I7 n) a0
  (some 0) n 0
def I8 (n:Nat)(a0:Ap):Option (Int) :=
 bnd (Ia n a0) fun x1 =>
 cnd (decide (64<x1.1))
  (some 5)
 <| cnd (decide (12<x1.2))
  (some 12)
 <| bnd (I7 n a0) fun x2 =>
 some x2
def Ms (n:Nat)(b:Bool):Option (Bool) :=
 some b
def Et (n:Nat)(a0:Int)(a1:Int):Option (Bool) :=
 jon (Ms n) <|
 reg <| cnd (decide (0<=a0))
  (Ms n (decide (a0<a1)))
 <| Ms n false
def Qs (n:Nat)(a0:B7)(a1:B7):Option (Bool) :=
 some (decide (a0.fScope=a1.fScope))
def Qf (n:Nat)(d:B7)(a0:(List B7))(c:Option (Int)):Nat->Int->Option (Int)
 |0,_=>none
 |e+1,b =>
  cnd (decide (b<((a0.map B1).length:Int)))
   (idx a0 b fun f =>
   bnd (Qs n f d) fun g =>
   cnd (g)
    (some b)
   <| (Qf n d a0 c e) (aA .i64 (b+1)))
  <| c
def Ty (n:Nat)(a0:(List B7))(b:B7):Option (Int) :=
 Qf n b a0
  (some (-1)) n 0
def Qg (n:Nat)(a0:(List B7))(b:B7):Option (Bool) :=
 bnd (Ty n a0 b) fun x1 =>
 some (decide (0<=x1))
def Jy (n:Nat)(a1:(List B7))(a0:A9)(b:Int)(c:Int->Option (Int))(d:B7)(f:Bool):Option (Int) :=
 cnd (f)
  (some 2)
 <| sls a1 0 b fun g =>
 bnd (Qg n g d) fun h =>
 cnd (h)
  (some 7)
 <| bnd (I8 n d.fCond) fun e =>
 cnd (!decide (e=0))
  (some e)
 <| c (aA .i64 (b+1))
def Gj (n:Nat)(a1:(List B7))(a0:A9)(b:Option (Int)):Nat->Int->Option (Int)
 |0,_=>none
 |d+1,c =>
  cnd (decide (c<((a1.map B1).length:Int)))
   (idx a1 c fun e =>
   jon (Jy n a1 a0 c (Gj n a1 a0 b d) e) <|
   reg <| bnd (Et n e.fScope a0.fScopes) fun f =>
   cnd (!(f))
    (Jy n a1 a0 c (Gj n a1 a0 b d) e true)
   <| bnd (Et n e.fType 16) fun g =>
   cnd (!(g))
    (Jy n a1 a0 c (Gj n a1 a0 b d) e true)
   <| bnd (Et n e.fVar a0.fVars) fun h =>
   Jy n a1 a0 c (Gj n a1 a0 b d) e !(h))
  <| b
def U2 (n:Nat)(a0:A9)(a1:(List B7)):Option (Int) :=
 cnd (decide (64<((a1.map B1).length:Int)))
  (some 5)
 <| Gj n a1 a0
  (some 0) n 0
def Q8 (n:Nat)(a0:(List C8))(c:(List Int)->Option ((List Int))):Nat->Int×(List Int)->Option ((List Int))
 |0,_=>none
 |d+1,b =>
  cnd (decide (b.1<((a0.map Bn).length:Int)))
   (idx a0 b.1 fun e =>
   app b.2 [e.fScope] 8 fun f =>
   (Q8 n a0 c d) ((aA .i64 (b.1+1)),f))
  <| c b.2
def Qv (n:Nat)(a0:(List C8)):Option ((List Int)) :=
 Q8 n a0
  (fun b=>some b) n (0,[])
def R4 (n:Nat)(a1:Int)(a0:(List Int))(c:Option (Int)):Nat->Int->Option (Int)
 |0,_=>none
 |d+1,b =>
  cnd (decide (b<((a0.map aI).length:Int)))
   (idx a0 b fun e =>
   cnd (decide (a1=e))
    (some b)
   <| (R4 n a1 a0 c d) (aA .i64 (b+1)))
  <| c
def X1 (n:Nat)(a0:(List Int))(a1:Int):Option (Int) :=
 R4 n a1 a0
  (some (-1)) n 0
def Fj (n:Nat)(a0:(List Int))(a1:Int):Option (Bool) :=
 bnd (X1 n a0 a1) fun x1 =>
 some (decide (0<=x1))
def Hs (n:Nat)(a1:(List (List Int)))(a0:A9)(g:Int)(d:(List Int))(c:Option (Int)):Nat->Int->Option (Int)
 |0,_=>none
 |e+1,b =>
  cnd (decide (b<((d.map aI).length:Int)))
   (idx d b fun f =>
   bnd (Et n f a0.fScopes) fun h =>
   cnd (!(h))
    (some 2)
   <| sls d 0 b fun j =>
   bnd (Fj n j f) fun k =>
   cnd (k)
    (some 7)
   <| (Hs n a1 a0 g d c e) (aA .i64 (b+1)))
  <| c
def Jx (n:Nat)(a1:(List (List Int)))(a0:A9)(c:Option (Int)):Nat->Int->Option (Int)
 |0,_=>none
 |d+1,b =>
  cnd (decide (b<(((List.map (fun q=>AV.sl 1 (List.map aI q)) (a1)).length:Nat):Int)))
   (idx a1 b fun e =>
   Hs n a1 a0 b e
    ((Jx n a1 a0 c d) (aA .i64 (b+1))) n 0)
  <| c
def U1 (n:Nat)(a0:A9)(a1:(List (List Int))):Option (Int) :=
 Jx n a1 a0
  (some 0) n 0
def Jz (n:Nat)(b:Bool):Option (Bool) :=
 some b
def K9 (n:Nat)(a0:C8):Option (Bool) :=
 jon (Jz n) <|
 reg <| cnd (decide (a0.fSpan<0))
  (Jz n true)
 <| Jz n (decide (1099511627776<a0.fSpan))
def P8 (n:Nat)(a0:(List C8))(c:Option (Int)):Nat->Int->Option (Int)
 |0,_=>none
 |d+1,b =>
  cnd (decide (b<((a0.map Bn).length:Int)))
   (idx a0 b fun e =>
   bnd (K9 n e) fun f =>
   cnd (f)
    (some b)
   <| (P8 n a0 c d) (aA .i64 (b+1)))
  <| c
def T2 (n:Nat)(a0:(List C8)):Option (Int) :=
 P8 n a0
  (some (-1)) n 0
def P9 (n:Nat)(a0:(List C8)):Option (Bool) :=
 bnd (T2 n a0) fun x1 =>
 some (decide (0<=x1))
def Hz (n:Nat)(a1:Ai)(a0:A9)(b:Option (Int)):Nat->Int->Option (Int)
 |0,_=>none
 |d+1,c =>
  cnd (decide (c<((a1.fChecks.map idA).length:Int)))
   (idxD Bp a1.fChecks c fun f =>
   bnd (I8 n f) fun e =>
   cnd (!decide (e=0))
    (some e)
   <| (Hz n a1 a0 b d) (aA .i64 (c+1)))
  <| b
def D8 (n:Nat)(a2:Int)(a1:Ai)(a0:A9)(c:Bool):Option (Int) :=
 cnd (c)
  (some 2)
 <| cnd (decide (a1.fFrom<a2))
  (some 14)
 <| bnd (I8 n a1.fCond) fun x5 =>
 cnd (!decide (x5=0))
  (some x5)
 <| cnd (decide (64<((a1.fChecks.map idA).length:Int)))
  (some 5)
 <| Hz n a1 a0
  (bnd (Qv n a1.fLimits) fun d =>
 bnd (U1 n a0 ([a1.fOpens,a1.fCloses,a1.fInside,d])) fun b =>
 cnd (!decide (b=0))
  (some b)
 <| bnd (P9 n a1.fLimits) fun e =>
 cnd (e)
  (some 2)
 <| some 0) n 0
def Kg (n:Nat)(a0:A9)(a1:Ai)(a2:Int):Option (Int) :=
 jon (D8 n a2 a1 a0) <|
 reg <| bnd (Et n a1.fFrom ((a0.fStates.map Aq).length:Int)) fun b =>
 cnd (!(b))
  (D8 n a2 a1 a0 true)
 <| cnd (decide (a1.fTo<(-1)))
  (D8 n a2 a1 a0 true)
 <| cnd (decide (((a0.fStates.map Aq).length:Int)<=a1.fTo))
  (D8 n a2 a1 a0 true)
 <| bnd (Et n a1.fVar a0.fVars) fun c =>
 cnd (!(c))
  (D8 n a2 a1 a0 true)
 <| bnd (Et n a1.fType 16) fun d =>
 D8 n a2 a1 a0 !(d)
def Hv (n:Nat)(a0:A9)(c:Option (Int)):Nat->Int×Int->Option (Int)
 |0,_=>none
 |d+1,b =>
  cnd (decide (b.2<((a0.fEdges.map Ab).length:Int)))
   (idx a0.fEdges b.2 fun e =>
   bnd (Kg n a0 e b.1) fun f =>
   cnd (!decide (f=0))
    (some f)
   <| (Hv n a0 c d) (e.fFrom,(aA .i64 (b.2+1))))
  <| c
def Hw (n:Nat)(a0:A9)(b:Option (Int)):Nat->Int->Option (Int)
 |0,_=>none
 |d+1,c =>
  cnd (decide (c<((a0.fStates.map Aq).length:Int)))
   (idx a0.fStates c fun f =>
   bnd (U2 n a0 f.fGuards) fun e =>
   cnd (!decide (e=0))
    (some e)
   <| (Hw n a0 b d) (aA .i64 (c+1)))
  <| b
def Dw (n:Nat)(a0:A9)(b:Bool):Option (Int) :=
 cnd (b)
  (some 5)
 <| Hw n a0
  (Hv n a0
  (some 0) n (0,0)) n 0
def Dx (n:Nat)(a0:A9)(b:Bool):Option (Int) :=
 cnd (b)
  (some 2)
 <| jon (Dw n a0) <|
 reg <| cnd (decide (((a0.fStates.map Aq).length:Int)<1))
  (Dw n a0 true)
 <| cnd (decide (256<((a0.fStates.map Aq).length:Int)))
  (Dw n a0 true)
 <| Dw n a0 (decide (2048<((a0.fEdges.map Ab).length:Int)))
def C1 (n:Nat)(a0:A9):Option (Int) :=
 jon (Dx n a0) <|
 reg <| cnd (decide (a0.fVars<0))
  (Dx n a0 true)
 <| cnd (decide (16<a0.fVars))
  (Dx n a0 true)
 <| cnd (decide (a0.fScopes<0))
  (Dx n a0 true)
 <| Dx n a0 (decide (64<a0.fScopes))
def Ji (n:Nat)(b:Bool):Option (Bool) :=
 some b
def K1 (n:Nat)(a0:Int):Option (Bool) :=
 jon (Ji n) <|
 reg <| cnd (decide (0<=a0))
  (Ji n (decide (a0<=5)))
 <| Ji n false
structure Bj where
 fKind:Int
 fCount:Int
 fValue:A6
deriving DecidableEq,Inhabited
def Ef (x:Bj):AV:=.agg [aI (x.fKind),aI (x.fCount),aI (x.fValue.fKind),aI (x.fValue.fNum),.str (x.fValue.fText)]
abbrev U4 (x:Bj):List AV:=[aI (x.fKind),aI (x.fCount),aI (x.fValue.fKind),aI (x.fValue.fNum),.str (x.fValue.fText)]
def Ha (n:Nat)(b:Bool):Option (Int) :=
 cnd (b)
  (some 3)
 <| some 0
def Ls (n:Nat)(b:Bool):Option (Int) :=
 cnd (b)
  (some 3)
 <| some 0
def Lt (n:Nat)(a0:Bj)(b:Bool):Option (Int) :=
 cnd (b)
  (cnd (!(decide (a0.fValue.fKind=0) && (decide (a0.fValue.fNum=0) && ((a0.fValue.fText.toList == ByteArray.empty.toList) && true))))
    (some 3)
  <| some 0)
 <| cnd (decide (a0.fKind=1))
  (jon (Ha n) <|
  reg <| cnd (!decide (a0.fValue.fKind=0))
   (Ha n true)
  <| cnd (!(a0.fValue.fText.toList == ByteArray.empty.toList))
   (Ha n true)
  <| cnd (decide (a0.fValue.fNum<(aA .i64 (0-(aA .i64 (a0.fCount*1099511627776))))))
   (Ha n true)
  <| Ha n (decide ((aA .i64 (a0.fCount*1099511627776))<a0.fValue.fNum)))
 <| jon (Ls n) <|
 reg <| bnd (Ec n a0.fValue) fun x8 =>
 cnd (!decide (x8=0))
  (Ls n true)
 <| bnd (Mq n a0.fKind a0.fValue) fun x9 =>
 Ls n !(x9)
def Lu (n:Nat)(a0:Bj)(b:Bool):Option (Int) :=
 cnd (b)
  (some 2)
 <| jon (Lt n a0) <|
 reg <| cnd (decide (a0.fCount=0))
  (Lt n a0 true)
 <| Lt n a0 (decide (a0.fKind=0))
def Qd (n:Nat)(a0:Bj):Option (Int) :=
 bnd (K1 n a0.fKind) fun x1 =>
 cnd (!(x1))
  (some 1)
 <| jon (Lu n a0) <|
 reg <| cnd (decide (a0.fCount<0))
  (Lu n a0 true)
 <| Lu n a0 (decide (4096<a0.fCount))
def Qc (n:Nat)(a0:Int)(a1:A6):Option (Int) :=
 bnd (Ec n a1) fun x1 =>
 cnd (!decide (x1=0))
  (some x1)
 <| bnd (Mq n a0 a1) fun x2 =>
 cnd (!(x2))
  (some 9)
 <| some 0
def Ss (n:Nat)(a0:Int)(a1:A6)(a2:A6):Option (A6) :=
 cnd (decide (a0=1))
  (some (⟨0,(aA .i64 (a1.fNum+a2.fNum)),ByteArray.empty⟩))
 <| cnd (decide (a0=2))
  (some (⟨0,(min a1.fNum a2.fNum),ByteArray.empty⟩))
 <| cnd (decide (a0=3))
  (some (⟨0,(max a1.fNum a2.fNum),ByteArray.empty⟩))
 <| cnd (decide (a0=4))
  (some a1)
 <| cnd (decide (a0=5))
  (some a2)
 <| some (⟨0,0,ByteArray.empty⟩)
def Jr (n:Nat)(a0:Bj)(b:Int×Int×ByteArray):Option (Bj×Int) :=
 some (⟨a0.fKind,(aA .i64 (a0.fCount+1)),⟨b.1,b.2.1,b.2.2⟩⟩,0)
def N3 (n:Nat)(a0:Bj)(a1:A6):Option (Bj×Int) :=
 bnd (Qd n a0) fun x1 =>
 cnd (!decide (x1=0))
  (some (⟨0,0,⟨0,0,ByteArray.empty⟩⟩,x1))
 <| bnd (Qc n a0.fKind a1) fun x2 =>
 cnd (!decide (x2=0))
  (some (⟨0,0,⟨0,0,ByteArray.empty⟩⟩,x2))
 <| cnd (decide (a0.fCount=4096))
  (some (⟨0,0,⟨0,0,ByteArray.empty⟩⟩,5))
 <| jon (Jr n a0) <|
 reg <| cnd (decide (a0.fKind=0))
  (Jr n a0 (0,0,ByteArray.empty))
 <| reg <| cnd (decide (0<a0.fCount))
  (bnd (Ss n a0.fKind a0.fValue a1) fun x7 =>
  Jr n a0 (x7.fKind,x7.fNum,x7.fText))
 <| Jr n a0 (a1.fKind,a1.fNum,a1.fText)
def Lf (n:Nat)(a1:A6)(a0:Bj)(b:Bool):Option (A6×Int) :=
 cnd (b)
  (some (a1,0))
 <| some (a0.fValue,0)
def Jq (n:Nat)(a0:Bj)(a1:A6):Option (A6×Int) :=
 bnd (Qd n a0) fun x1 =>
 cnd (!decide (x1=0))
  (some (⟨0,0,ByteArray.empty⟩,x1))
 <| bnd (Qc n a0.fKind a1) fun x2 =>
 cnd (!decide (x2=0))
  (some (⟨0,0,ByteArray.empty⟩,x2))
 <| cnd (decide (a0.fKind=0))
  (some (⟨0,a0.fCount,ByteArray.empty⟩,0))
 <| jon (Lf n a1 a0) <|
 reg <| cnd (decide (a0.fCount=0))
  (Lf n a1 a0 (!decide (a0.fKind=1)))
 <| Lf n a1 a0 false
def Gi (n:Nat)(a2:A6)(a1:(List A6))(d:Int->Int->Int->Int->ByteArray->Option (A6×Int)):Nat->Int×Int×Int×Int×Int×ByteArray->Option (A6×Int)
 |0,_=>none
 |e+1,b =>
  cnd (decide (b.1<((a1.map Ac).length:Int)))
   (idx a1 b.1 fun f =>
   bnd (N3 n (⟨b.2.1,b.2.2.1,⟨b.2.2.2.1,b.2.2.2.2.1,b.2.2.2.2.2⟩⟩:Bj) f) fun c =>
   cnd (!decide (c.2=0))
    (some (⟨0,0,ByteArray.empty⟩,c.2))
   <| (Gi n a2 a1 d e) ((aA .i64 (b.1+1)),c.1.fKind,c.1.fCount,c.1.fValue.fKind,c.1.fValue.fNum,c.1.fValue.fText))
  <| d b.2.1 b.2.2.1 b.2.2.2.1 b.2.2.2.2.1 b.2.2.2.2.2
def I0 (n:Nat)(a0:Int)(a1:(List A6))(a2:A6):Option (A6×Int) :=
 bnd (K1 n a0) fun x1 =>
 cnd (!(x1))
  (some (⟨0,0,ByteArray.empty⟩,1))
 <| cnd (decide (4096<((a1.map Ac).length:Int)))
  (some (⟨0,0,ByteArray.empty⟩,5))
 <| Gi n a2 a1
  (fun b c d e f=>bnd (Jq n (⟨b,c,⟨d,e,f⟩⟩:Bj) a2) fun g =>
 some (g.1,g.2)) n (0,a0,0,0,0,ByteArray.empty)
structure Aw where
 fSource:Int
 fSeq:Int
 fType:Int
 fTime:Int
 fValues:(List A6)
deriving DecidableEq,Inhabited
def Aj (x:Aw):AV:=.agg [aI (x.fSource),aI (x.fSeq),aI (x.fType),aI (x.fTime),.sl 3 (x.fValues.map Ac)]
abbrev Np (x:Aw):List AV:=[aI (x.fSource),aI (x.fSeq),aI (x.fType),aI (x.fTime),.sl 3 (x.fValues.map Ac)]
structure B5 where
 fVars:(List (List Aw))
deriving DecidableEq,Inhabited
def Ib (x:B5):AV:=.agg [.sl 1 (List.map (fun q=>AV.sl 5 (List.map Aj q)) (x.fVars))]
abbrev zki (x:B5):List AV:=[.sl 1 (List.map (fun q=>AV.sl 5 (List.map Aj q)) (x.fVars))]
def Ld (n:Nat)(a1:Int)(a0:B5)(b:Bool):Option ((List Aw)) :=
 cnd (b)
  (some [])
 <| idx a0.fVars a1 fun x2 =>
 some x2
def Hl (n:Nat)(a0:B5)(a1:Int):Option ((List Aw)) :=
 jon (Ld n a1 a0) <|
 reg <| cnd (decide (a1<0))
  (Ld n a1 a0 true)
 <| Ld n a1 a0 (decide ((((List.map (fun q=>AV.sl 5 (List.map Aj q)) (a0.fVars)).length:Nat):Int)<=a1))
def Qn (n:Nat)(a0:B5)(a1:Int)(a2:Int)(a3:Aw):Option (Aw×Bool) :=
 cnd (decide (a1=a2))
  (some (a3,true))
 <| bnd (Hl n (⟨a0.fVars⟩:B5) a1) fun x1 =>
 cnd (decide (((x1.map Aj).length:Int)=0))
  (some (⟨0,0,0,0,[]⟩,false))
 <| idx x1 (aA .i64 (((x1.map Aj).length:Int)-1)) fun x2 =>
 some (x2,true)
def Gc (n:Nat)(a0:Ap)(x2:(List Aw))(c:(List A6)->Option (A6×Int)):Nat->Int×(List A6)->Option (A6×Int)
 |0,_=>none
 |d+1,b =>
  cnd (decide (b.1<((x2.map Aj).length:Int)))
   (idx x2 b.1 fun e =>
   cnd (decide (((e.fValues.map Ac).length:Int)<=a0.fField))
    (some (⟨0,0,ByteArray.empty⟩,6))
   <| idx x2 b.1 fun f =>
   idx f.fValues a0.fField fun g =>
   app b.2 [g] 32 fun h =>
   (Gc n a0 x2 c d) ((aA .i64 (b.1+1)),h))
  <| c b.2
def Hu (n:Nat)(a0:Ap)(a1:B5)(a2:Int)(a3:Aw):Option (A6×Int) :=
 cnd (decide (a0.fOp=0))
  (some (a0.fValue,0))
 <| cnd (decide (a0.fOp=3))
  (bnd (Hl n (⟨a1.fVars⟩:B5) a0.fVar) fun x1 =>
  some (⟨0,((x1.map Aj).length:Int),ByteArray.empty⟩,0))
 <| cnd (decide (a0.fOp=4))
  (bnd (Hl n (⟨a1.fVars⟩:B5) a0.fVar) fun x2 =>
  Gc n a0 x2
   (fun c=>bnd (I0 n a0.fKind c a0.fValue) fun d =>
  some (d.1,d.2)) n (0,[]))
 <| bnd (Qn n (⟨a1.fVars⟩:B5) a0.fVar a2 a3) fun b =>
 cnd (!(b.2))
  (some (⟨0,0,ByteArray.empty⟩,10))
 <| cnd (decide (a0.fOp=2))
  (some (⟨0,b.1.fTime,ByteArray.empty⟩,0))
 <| cnd (decide (((b.1.fValues.map Ac).length:Int)<=a0.fField))
  (some (⟨0,0,ByteArray.empty⟩,6))
 <| idx b.1.fValues a0.fField fun f =>
 bnd (Ec n f) fun e =>
 cnd (!decide (e=0))
  (some (⟨0,0,ByteArray.empty⟩,e))
 <| idx b.1.fValues a0.fField fun g =>
 some (g,0)
def Iu (n:Nat)(b:Bool):Option (Int) :=
 cnd (b)
  (some 1)
 <| some (-1)
def H5 (n:Nat)(a0:Int)(b:Bool):Option (Int) :=
 cnd (b)
  (some 0)
 <| jon (Iu n) <|
 reg <| cnd (decide (a0=10))
  (Iu n (decide (a0=10)))
 <| reg <| cnd (decide (a0=11))
  (Iu n (decide (a0=11)))
 <| Iu n (decide (a0=12))
def Lo (n:Nat)(a0:Int):Option (Int) :=
 jon (H5 n a0) <|
 reg <| cnd (decide (a0=5))
  (H5 n a0 (decide (a0=5)))
 <| reg <| cnd (decide (a0=6))
  (H5 n a0 (decide (a0=6)))
 <| reg <| cnd (decide (a0=7))
  (H5 n a0 (decide (a0=7)))
 <| H5 n a0 (decide (a0=8))
def E5 (n:Nat)(a1:(List Int))(a0:Int)(c:Int)(b:Int->Option (Int))(d:Bool):Option (Int) :=
 cnd (d)
  (some 9)
 <| b (aA .i64 (c+1))
def Cw (n:Nat)(a1:(List Int))(a0:Int)(b:Option (Int)):Nat->Int->Option (Int)
 |0,_=>none
 |d+1,c =>
  cnd (decide (c<((a1.map aI).length:Int)))
   (bnd (Lo n a0) fun e =>
   jon (E5 n a1 a0 c (Cw n a1 a0 b d)) <|
   reg <| cnd (decide (0<=e))
    (idx a1 c fun f =>
    cnd (!decide (f=e))
     (E5 n a1 a0 c (Cw n a1 a0 b d) true)
    <| cnd (decide (a0=9))
     (idx a1 c fun g =>
     idx a1 0 fun h =>
     E5 n a1 a0 c (Cw n a1 a0 b d) (!decide (g=h)))
    <| E5 n a1 a0 c (Cw n a1 a0 b d) false)
   <| cnd (decide (a0=9))
    (idx a1 c fun j =>
    idx a1 0 fun k =>
    E5 n a1 a0 c (Cw n a1 a0 b d) (!decide (j=k)))
   <| E5 n a1 a0 c (Cw n a1 a0 b d) false)
  <| b
def Sj (n:Nat)(a0:Int)(a1:(List Int)):Option (Int) :=
 Cw n a1 a0
  (some 0) n 0
def D7 (n:Nat)(a0:Bool):Option (A6) :=
 cnd (a0)
  (some (⟨1,1,ByteArray.empty⟩))
 <| some (⟨1,0,ByteArray.empty⟩)
def Lq (n:Nat)(b:Int×Int×ByteArray):Option (A6) :=
 some (⟨b.1,b.2.1,b.2.2⟩)
def Lp (n:Nat)(b:Int×Int×ByteArray):Option (A6) :=
 some (⟨b.1,b.2.1,b.2.2⟩)
def Hp (n:Nat)(a0:Int)(a1:(List A6)):Option (A6) :=
 cnd (decide (a0=5))
  (idx a1 0 fun x1 =>
  idx a1 1 fun x2 =>
  some (⟨0,(aA .i64 (x1.fNum+x2.fNum)),ByteArray.empty⟩))
 <| cnd (decide (a0=6))
  (idx a1 0 fun x3 =>
  idx a1 1 fun x4 =>
  some (⟨0,(aA .i64 (x3.fNum-x4.fNum)),ByteArray.empty⟩))
 <| cnd (decide (a0=7))
  (idx a1 0 fun x5 =>
  idx a1 1 fun x6 =>
  bnd (D7 n (decide (x5.fNum<x6.fNum))) fun x7 =>
  some x7)
 <| cnd (decide (a0=8))
  (idx a1 0 fun x8 =>
  idx a1 1 fun x9 =>
  bnd (D7 n (decide (x8.fNum<=x9.fNum))) fun h =>
  some h)
 <| cnd (decide (a0=9))
  (idx a1 0 fun b =>
  idx a1 1 fun c =>
  bnd (D7 n (decide (b.fKind=c.fKind) && (decide (b.fNum=c.fNum) && ((b.fText.toList == c.fText.toList) && true)))) fun j =>
  some j)
 <| cnd (decide (a0=10))
  (jon (Lq n) <|
  reg <| idx a1 0 fun k =>
  cnd (decide (k.fNum=1))
   (idx a1 1 fun l =>
   bnd (D7 n (decide (l.fNum=1))) fun d =>
   Lq n (d.fKind,d.fNum,d.fText))
  <| bnd (D7 n false) fun e =>
  Lq n (e.fKind,e.fNum,e.fText))
 <| cnd (decide (a0=11))
  (jon (Lp n) <|
  reg <| idx a1 0 fun o =>
  cnd (decide (o.fNum=1))
   (bnd (D7 n true) fun f =>
   Lp n (f.fKind,f.fNum,f.fText))
  <| idx a1 1 fun p =>
  bnd (D7 n (decide (p.fNum=1))) fun g =>
  Lp n (g.fKind,g.fNum,g.fText))
 <| idx a1 0 fun q =>
 bnd (D7 n (!decide (q.fNum=1))) fun s =>
 some s
def Ge (n:Nat)(b:Ap->B5->Int->Aw->Option (A6×Int))(a3:Aw)(a2:Int)(a1:B5)(a0:Ap)(d:(List A6)->(List Int)->Option (A6×Int)):Nat->Int×(List A6)×(List Int)->Option (A6×Int)
 |0,_=>none
 |f+1,c =>
  cnd (decide (c.1<((a0.fArgs.map idA).length:Int)))
   (idxD Bp a0.fArgs c.1 fun g =>
   bnd (b g (⟨a1.fVars⟩:B5) a2 a3) fun e =>
   cnd (!decide (e.2=0))
    (some (⟨0,0,ByteArray.empty⟩,e.2))
   <| app c.2.1 [e.1] 32 fun h =>
   app c.2.2 [e.1.fKind] 8 fun j =>
   (Ge n b a3 a2 a1 a0 d f) ((aA .i64 (c.1+1)),h,j))
  <| d c.2.1 c.2.2
def Ee:Nat->Ap->B5->Int->Aw->Option (A6×Int)
 |0,_,_,_,_=>none
 |n+1,a0,a1,a2,a3 =>
 cnd (decide (((a0.fArgs.map idA).length:Int)=0))
  (bnd (Hu n a0 (⟨a1.fVars⟩:B5) a2 a3) fun x1 =>
  some (x1.1,x1.2))
 <| Ge n (Ee n) a3 a2 a1 a0
  (fun b c=>bnd (Sj n a0.fOp c) fun d =>
 cnd (!decide (d=0))
  (some (⟨0,0,ByteArray.empty⟩,d))
 <| bnd (Hp n a0.fOp b) fun e =>
 some (e,0)) n (0,[],[])
def Tg (n:Nat)(a0:Ap)(a1:B5)(a2:Int)(a3:Aw):Option (A6×Int) :=
 bnd (Eb n a0) fun x1 =>
 cnd (!decide (x1=0))
  (some (⟨0,0,ByteArray.empty⟩,x1))
 <| bnd (Ee n a0 (⟨a1.fVars⟩:B5) a2 a3) fun x2 =>
 some (x2.1,x2.2)
def J6 (n:Nat)(b:Bool):Option (Bool) :=
 some b
def Hq (n:Nat)(a0:Ap)(a1:B5)(a2:Int)(a3:Aw):Option (Bool) :=
 bnd (Tg n a0 (⟨a1.fVars⟩:B5) a2 a3) fun x1 =>
 jon (J6 n) <|
 reg <| cnd (decide (x1.2=0))
  (bnd (D7 n true) fun x4 =>
  J6 n (decide (x1.1.fKind=x4.fKind) && (decide (x1.1.fNum=x4.fNum) && ((x1.1.fText.toList == x4.fText.toList) && true))))
 <| J6 n false
structure Cm where
 fTime:Int
 fSource:Int
 fSeq:Int
deriving DecidableEq,Inhabited
def Y0 (x:Cm):AV:=.agg [aI (x.fTime),aI (x.fSource),aI (x.fSeq)]
structure Ew where
 fVar:Int
 fRef:Cm
deriving DecidableEq,Inhabited
def Ud (x:Ew):AV:=.agg [aI (x.fVar),aI (x.fRef.fTime),aI (x.fRef.fSource),aI (x.fRef.fSeq)]
structure Un where
 fBindings:(List Ew)
deriving DecidableEq,Inhabited
def T6 (n:Nat)(a0:Cm)(a1:Cm):Option (Int) :=
 cnd (!decide (a0.fTime=a1.fTime))
  (cnd (decide (a0.fTime<a1.fTime))
    (some (-1))
  <| some 1)
 <| cnd (!decide (a0.fSource=a1.fSource))
  (cnd (decide (a0.fSource<a1.fSource))
    (some (-1))
  <| some 1)
 <| cnd (decide (a0.fSeq<a1.fSeq))
  (some (-1))
 <| cnd (decide (a1.fSeq<a0.fSeq))
  (some 1)
 <| some 0
structure I9 where
 fScope:Int
 fTime:Int
deriving DecidableEq,Inhabited
def Ul (x:I9):AV:=.agg [aI (x.fScope),aI (x.fTime)]
structure Dj where
 fState:Int
 fBindings:(List Ew)
 fStarts:(List I9)
deriving DecidableEq,Inhabited
def Fn (x:Dj):AV:=.agg [aI (x.fState),.sl 4 (x.fBindings.map Ud),.sl 2 (x.fStarts.map Ul)]
def K5 (n:Nat)(b:Bool):Option (Bool) :=
 some b
def R7 (n:Nat)(a0:Int):Option (Bool) :=
 jon (K5 n) <|
 reg <| cnd (decide (0<=a0))
  (K5 n (decide (a0<=5)))
 <| K5 n false
def Hx (n:Nat)(b:Bool):Option (Bool) :=
 some b
def R6 (n:Nat)(a0:Int)(a1:A6):Option (Bool) :=
 jon (Hx n) <|
 reg <| cnd (decide (a1.fKind=0))
  (Hx n true)
 <| cnd (!decide (a0=1))
  (cnd (!decide (a0=2))
    (Hx n (!decide (a0=3)))
  <| Hx n false)
 <| Hx n false
def Nb (n:Nat)(a0:Int)(a1:A6):Option (Int) :=
 bnd (Gs n a1) fun x1 =>
 cnd (!decide (x1=0))
  (some x1)
 <| bnd (R6 n a0 a1) fun x2 =>
 cnd (!(x2))
  (some 9)
 <| some 0
def Wu (n:Nat)(a0:Int)(a1:A6):Option (A6) :=
 cnd (decide (a0=0))
  (some (⟨0,0,ByteArray.empty⟩))
 <| some a1
def Wm (n:Nat):Option (A6) :=
 some (⟨0,0,ByteArray.empty⟩)
def Wl (n:Nat)(m0:A6)(m1:A6):Option (A6×A6×A6) :=
 some (⟨0,(aA .i64 (m0.fNum+m1.fNum)),ByteArray.empty⟩,m0,m1)
def Wk (n:Nat)(m0:A6)(m1:A6):Option (A6×A6×A6) :=
 some (⟨0,(min m0.fNum m1.fNum),ByteArray.empty⟩,m0,m1)
def Wj (n:Nat)(m0:A6)(m1:A6):Option (A6×A6×A6) :=
 some (⟨0,(max m0.fNum m1.fNum),ByteArray.empty⟩,m0,m1)
def Wh (n:Nat)(m0:A6):Option (A6×A6) :=
 some (m0,m0)
def Wg (n:Nat)(m0:A6):Option (A6×A6) :=
 some (m0,m0)
def Tw (n:Nat)(a0:Int)(a1:A6)(a2:A6):Option (A6) :=
 natc a0 0
  (bnd (Wm n) fun x1 =>
 some x1)
 <| natc a0 1
  (bndM 15 (Wl n a1 a2) fun x2 =>
 some x2.1)
 <| natc a0 2
  (bndM 15 (Wk n a1 a2) fun x3 =>
 some x3.1)
 <| natc a0 3
  (bndM 15 (Wj n a1 a2) fun x4 =>
 some x4.1)
 <| natc a0 4
  (bndM 15 (Wh n a1) fun x5 =>
 some x5.1)
 <| natc a0 5
  (bndM 15 (Wg n a2) fun x6 =>
 some x6.1)
 <| none
def Wv (n:Nat)(a0:Bj)(a1:Bj):Option (Bj) :=
 cnd (decide (a0.fCount=0))
  (some a1)
 <| cnd (decide (a1.fCount=0))
  (some a0)
 <| bnd (Tw n a0.fKind a0.fValue a1.fValue) fun x1 =>
 some (⟨a0.fKind,(aA .i64 (a0.fCount+a1.fCount)),x1⟩)
def Wy (n:Nat)(a0:Bj)(a1:A6)(a2:Int):Option (Bj) :=
 bnd (Wu n a2 a1) fun x1 =>
 bnd (Wv n a0 (⟨a2,1,x1⟩:Bj)) fun x2 =>
 some x2
def Qi (n:Nat)(e:Int)(a1:(List A6))(c:Int->Int->Int->Int->ByteArray->Option (Bj)):Nat->Int×Int×Int×Int×Int×ByteArray->Option (Bj)
 |0,_=>none
 |f+1,b =>
  cnd (decide (b.1<((a1.map Ac).length:Int)))
   (idx a1 b.1 fun g =>
   bnd (Wy n (⟨b.2.1,b.2.2.1,⟨b.2.2.2.1,b.2.2.2.2.1,b.2.2.2.2.2⟩⟩:Bj) g e) fun d =>
   (Qi n e a1 c f) ((aA .i64 (b.1+1)),d.fKind,d.fCount,d.fValue.fKind,d.fValue.fNum,d.fValue.fText))
  <| c b.2.1 b.2.2.1 b.2.2.2.1 b.2.2.2.2.1 b.2.2.2.2.2
def U3 (n:Nat)(a0:Bj)(a1:(List A6))(g:Int):Option (Bj) :=
 Qi n g a1
  (fun b c d e f=>some (⟨b,c,⟨d,e,f⟩⟩)) n (0,a0.fKind,a0.fCount,a0.fValue.fKind,a0.fValue.fNum,a0.fValue.fText)
def My (n:Nat)(a0:Bj)(b:Bool):Option (Int) :=
 cnd (b)
  (some 2)
 <| reg <| cnd (decide (a0.fCount=0))
  (cnd (!((decide (a0.fValue.fKind=0) && (decide (a0.fValue.fNum=0) && ((a0.fValue.fText.toList == ByteArray.empty.toList) && true)))))
    (some 3)
  <| some 0)
 <| cnd (decide (a0.fKind=0))
  (cnd (!((decide (a0.fValue.fKind=0) && (decide (a0.fValue.fNum=0) && ((a0.fValue.fText.toList == ByteArray.empty.toList) && true)))))
    (some 3)
  <| some 0)
 <| reg <| cnd (decide (a0.fKind=1))
  (reg <| cnd (decide (a0.fValue.fKind=0))
    (cnd ((a0.fValue.fText.toList == ByteArray.empty.toList))
      (cnd (decide ((aA .i64 (0-(aA .i64 (a0.fCount*1099511627776))))<=a0.fValue.fNum))
        (cnd (!(decide (a0.fValue.fNum<=(aA .i64 (a0.fCount*1099511627776)))))
          (some 3)
        <| some 0)
      <| some 3)
    <| some 3)
  <| some 3)
 <| reg <| bnd (Gs n a0.fValue) fun x3 =>
 cnd (decide (x3=0))
  (bnd (R6 n a0.fKind a0.fValue) fun x4 =>
  cnd (!(x4))
   (some 3)
  <| some 0)
 <| some 3
def U7 (n:Nat)(a0:Bj):Option (Int) :=
 bnd (R7 n a0.fKind) fun x1 =>
 cnd (!(x1))
  (some 1)
 <| jon (My n a0) <|
 reg <| cnd (decide (a0.fCount<0))
  (My n a0 true)
 <| My n a0 (decide (4096<a0.fCount))
def Mv (n:Nat)(a1:A6)(a0:Bj)(b:Bool):Option (A6×Int) :=
 cnd (b)
  (some (a1,0))
 <| some (a0.fValue,0)
def R2 (n:Nat)(a0:Bj)(a1:A6):Option (A6×Int) :=
 bnd (U7 n a0) fun x1 =>
 cnd (!decide (x1=0))
  (some (⟨0,0,ByteArray.empty⟩,x1))
 <| bnd (Nb n a0.fKind a1) fun x2 =>
 cnd (!decide (x2=0))
  (some (⟨0,0,ByteArray.empty⟩,x2))
 <| cnd (decide (a0.fKind=0))
  (some (⟨0,a0.fCount,ByteArray.empty⟩,0))
 <| jon (Mv n a1 a0) <|
 reg <| cnd (decide (a0.fCount=0))
  (Mv n a1 a0 (!decide (a0.fKind=1)))
 <| Mv n a1 a0 false
def R8 (n:Nat)(a2:A6)(a1:(List A6))(a0:Int)(b:Option (A6×Int)):Nat->Int->Option (A6×Int)
 |0,_=>none
 |d+1,c =>
  cnd (decide (c<((a1.map Ac).length:Int)))
   (idx a1 c fun f =>
   bnd (Nb n a0 f) fun e =>
   cnd (!decide (e=0))
    (some (⟨0,0,ByteArray.empty⟩,e))
   <| (R8 n a2 a1 a0 b d) (aA .i64 (c+1)))
  <| b
def Ri (n:Nat)(a0:Int)(a1:(List A6))(a2:A6):Option (A6×Int) :=
 bnd (R7 n a0) fun x1 =>
 cnd (!(x1))
  (some (⟨0,0,ByteArray.empty⟩,1))
 <| cnd (decide (4096<((a1.map Ac).length:Int)))
  (some (⟨0,0,ByteArray.empty⟩,5))
 <| R8 n a2 a1 a0
  (bnd (U3 n (⟨a0,0,⟨0,0,ByteArray.empty⟩⟩:Bj) a1 a0) fun c =>
 bnd (R2 n c a2) fun b =>
 some (b.1,b.2)) n 0
def Xc (n:Nat)(a0:Int):Option (Bool) :=
 some (!decide (a0=a0))
def Ex (n:Nat)(a0:Int)(a1:Int):Option (Int) :=
 bnd (Xc n a0) fun x1 =>
 bnd (Xc n a1) fun x2 =>
 cnd (x1)
  (cnd (x2)
    (some 0)
  <| some (-1))
 <| cnd (x2)
  (some 1)
 <| cnd (decide (a0<a1))
  (some (-1))
 <| cnd (decide (a1<a0))
  (some 1)
 <| some 0
def Xd (n:Nat)(a0:(List Int))(b:Option (Int)):Nat->Int->Option (Int)
 |0,_=>none
 |d+1,c =>
  cnd (decide (c<((a0.map aI).length:Int)))
   (idx a0 c fun e =>
   cnd (!decide (e=0))
    (some e)
   <| (Xd n a0 b d) (aA .i64 (c+1)))
  <| b
def O1 (n:Nat)(a0:(List Int)):Option (Int) :=
 Xd n a0
  (some 0) n 0
def zkq (n:Nat)(a0:Cm)(a1:Cm):Option (Int) :=
 bnd (Ex n a0.fTime a1.fTime) fun x1 =>
 bnd (Ex n a0.fSource a1.fSource) fun x2 =>
 bnd (Ex n a0.fSeq a1.fSeq) fun x3 =>
 bnd (O1 n ([x1,x2,x3])) fun x4 =>
 some x4
def za7 (n:Nat)(a0:Ew)(a1:Ew):Option (Int) :=
 bnd (zkq n (⟨a0.fRef.fTime,a0.fRef.fSource,a0.fRef.fSeq⟩:Cm) (⟨a1.fRef.fTime,a1.fRef.fSource,a1.fRef.fSeq⟩:Cm)) fun x1 =>
 bnd (Ex n a0.fVar a1.fVar) fun x2 =>
 bnd (O1 n ([x1,x2])) fun x3 =>
 some x3
def z08 (n:Nat)(a1:(List Ew))(a0:(List Ew))(c:Option (Int)):Nat->Int->Option (Int)
 |0,_=>none
 |f+1,b =>
  cnd (decide (b<((a0.map Ud).length:Int)))
   (idx a0 b fun d =>
   cnd (decide (((a1.map Ud).length:Int)<=b))
    (some 1)
   <| idx a1 b fun e =>
   bnd (za7 n (⟨d.fVar,⟨d.fRef.fTime,d.fRef.fSource,d.fRef.fSeq⟩⟩:Ew) (⟨e.fVar,⟨e.fRef.fTime,e.fRef.fSource,e.fRef.fSeq⟩⟩:Ew)) fun g =>
   cnd (!decide (g=0))
    (some g)
   <| (z08 n a1 a0 c f) (aA .i64 (b+1)))
  <| c
def z86 (n:Nat)(a0:(List Ew))(a1:(List Ew)):Option (Int) :=
 z08 n a1 a0
  (cnd (decide (((a0.map Ud).length:Int)<((a1.map Ud).length:Int)))
  (some (-1))
 <| some 0) n 0
def zcr (n:Nat)(a0:Un)(a1:Un):Option (Int) :=
 bnd (z86 n a0.fBindings a1.fBindings) fun x1 =>
 some x1
def zcq (n:Nat)(a0:I9)(a1:I9):Option (Int) :=
 bnd (Ex n a0.fScope a1.fScope) fun x1 =>
 bnd (Ex n a0.fTime a1.fTime) fun x2 =>
 bnd (O1 n ([x1,x2])) fun x3 =>
 some x3
def z02 (n:Nat)(a1:(List I9))(a0:(List I9))(c:Option (Int)):Nat->Int->Option (Int)
 |0,_=>none
 |d+1,b =>
  cnd (decide (b<((a0.map Ul).length:Int)))
   (idx a0 b fun f =>
   cnd (decide (((a1.map Ul).length:Int)<=b))
    (some 1)
   <| idx a1 b fun g =>
   bnd (zcq n f g) fun e =>
   cnd (!decide (e=0))
    (some e)
   <| (z02 n a1 a0 c d) (aA .i64 (b+1)))
  <| c
def z49 (n:Nat)(a0:(List I9))(a1:(List I9)):Option (Int) :=
 z02 n a1 a0
  (cnd (decide (((a0.map Ul).length:Int)<((a1.map Ul).length:Int)))
  (some (-1))
 <| some 0) n 0
def zgy (n:Nat)(a0:Dj)(a1:Dj):Option (Int) :=
 bnd (Ex n a0.fState a1.fState) fun x1 =>
 bnd (zcr n (⟨a0.fBindings⟩:Un) (⟨a1.fBindings⟩:Un)) fun x2 =>
 bnd (z49 n a0.fStarts a1.fStarts) fun x3 =>
 bnd (O1 n ([x1,x2,x3])) fun x4 =>
 some x4
attribute [irreducible] J7 Eo G6 Jg M5 H9 Bx Hh M6 M7 Jh E7 Mf J1 Dr G4 H8 Nd Nh Ni Ki Hy Bz Nj Nk Kk Eh Ms Jy Jz D8 Dw Dx Ji Ha Ls Lt Lu Jr Lf Ld Iu H5 E5 Lq Lp J6      K5 Hx My Mv 
noncomputable section
end
end Go.Proofs.YthbogefcfhmpgaaGreat
