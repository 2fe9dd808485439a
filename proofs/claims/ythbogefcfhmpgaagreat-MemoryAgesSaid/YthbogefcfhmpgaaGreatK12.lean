/- What some functions compute, over plain values. -/
import Derived.Test.YthbogefcfhmpgaaGreatK11
set_option linter.unusedVariables false
set_option linter.unusedSimpArgs false
set_option maxRecDepth 100000
set_option maxHeartbeats 8000000
namespace Go.Proofs.YthbogefcfhmpgaaGreat
open Go.RowKit
open IntKind renaming wrap->aA
structure A5 where
 fKind:Int
 fNum:Int
 fText:ByteArray
deriving DecidableEq,Inhabited
def Aa (x:A5):AV:=.agg [aI (x.fKind),aI (x.fNum),.str (x.fText)]
abbrev Bv (x:A5):List AV:=[aI (x.fKind),aI (x.fNum),.str (x.fText)]
structure Ak where
 fOp:Int
 fArgs:(List AV)
 fVar:Int
 fField:Int
 fKind:Int
 fValue:A5
deriving Inhabited
def Ah (x:Ak):AV:=.agg [aI (x.fOp),.sl 8 (x.fArgs.map idA),aI (x.fVar),aI (x.fField),aI (x.fKind),aI (x.fValue.fKind),aI (x.fValue.fNum),.str (x.fValue.fText)]
abbrev Co (x:Ak):List AV:=[aI (x.fOp),.sl 8 (x.fArgs.map idA),aI (x.fVar),aI (x.fField),aI (x.fKind),aI (x.fValue.fKind),aI (x.fValue.fNum),.str (x.fValue.fText)]
def Bs:AV->Option Ak
 |.agg [.int .i64 c0,.sl 8 c1,.int .i64 c2,.int .i64 c3,.int .i64 c4,.int .i64 c5,.int .i64 c6,.str c7]=>some ⟨c0,c1,c2,c3,c4,⟨c5,c6,c7⟩⟩
 |_=>none
theorem De (a:AV)(y:Ak)(h:Bs a=some y):a=Ah y:=by
 unfold Bs at h
 split at h
 ·injection h with h;subst h;simp [Ah,aI,Ng]
 ·cases h
theorem Pw (y:Ak):Bs (Ah y)=some y:=by simp [Bs,Ah,aI,Ng]
def Ic (n:Nat)(b:Ak->Int->Option (Int))(a1:Int)(a0:Ak)(c:Int×Int)(d:Int->Option (Int))(e:(Int×Int)->Option (Int))(f:Bool):Option (Int) :=
 cnd (f)
  (idxD Bs a0.fArgs c.2 fun g =>
  bnd (b g a1) fun h =>
  e ((aA .i64 (c.1+h)),(aA .i64 (c.2+1))))
 <| d c.1
def Gt (n:Nat)(b:Ak->Int->Option (Int))(a1:Int)(a0:Ak)(c:Int->Option (Int)):Nat->Int×Int->Option (Int)
 |0,_=>none
 |e+1,d =>
  jon (Ic n b a1 a0 d c (Gt n b a1 a0 c e)) <|
  reg <| cnd (decide (d.2<((a0.fArgs.map idA).length:Int)))
   (Ic n b a1 a0 d c (Gt n b a1 a0 c e) (decide (d.1<=a1)))
  <| Ic n b a1 a0 d c (Gt n b a1 a0 c e) false
def Eu:Nat->Ak->Int->Option (Int)
 |0,_,_=>none
 |n+1,a0,a1 =>
 Gt n (Eu n) a1 a0
  (fun b=>some b) n (1,0)
def L9 (n:Nat)(b:Ak->Option (Int))(a0:Ak)(d:Int->Option (Int)):Nat->Int×Int->Option (Int)
 |0,_=>none
 |e+1,c =>
  cnd (decide (c.2<((a0.fArgs.map idA).length:Int)))
   (idxD Bs a0.fArgs c.2 fun f =>
   bnd (b f) fun g =>
   (L9 n b a0 d e) ((max c.1 g),(aA .i64 (c.2+1))))
  <| d c.1
def Et:Nat->Ak->Option (Int)
 |0,_=>none
 |n+1,a0 =>
 L9 n (Et n) a0
  (fun b=>some (aA .i64 (b+1))) n (0,0)
def Dq (n:Nat)(b:Bool):Option (Int) :=
 cnd (b)
  (some 2)
 <| some (-1)
def En (n:Nat)(a0:Int)(b:Bool):Option (Int) :=
 cnd (b)
  (some 0)
 <| cnd (decide (a0=12))
  (some 1)
 <| jon (Dq n) <|
 reg <| cnd (decide (a0=5))
  (Dq n (decide (a0=5)))
 <| reg <| cnd (decide (a0=6))
  (Dq n (decide (a0=6)))
 <| reg <| cnd (decide (a0=7))
  (Dq n (decide (a0=7)))
 <| reg <| cnd (decide (a0=8))
  (Dq n (decide (a0=8)))
 <| reg <| cnd (decide (a0=9))
  (Dq n (decide (a0=9)))
 <| reg <| cnd (decide (a0=10))
  (Dq n (decide (a0=10)))
 <| Dq n (decide (a0=11))
def Ot (n:Nat)(a0:Int):Option (Int) :=
 jon (En n a0) <|
 reg <| cnd (decide (a0=0))
  (En n a0 (decide (a0=0)))
 <| reg <| cnd (decide (a0=1))
  (En n a0 (decide (a0=1)))
 <| reg <| cnd (decide (a0=2))
  (En n a0 (decide (a0=2)))
 <| reg <| cnd (decide (a0=3))
  (En n a0 (decide (a0=3)))
 <| En n a0 (decide (a0=4))
def Gw (n:Nat)(b:Bool)(c:Bool):Option (Bool×Bool) :=
 some (c,b)
def Im (n:Nat)(a0:Int)(b:Bool):Option (Bool×Bool) :=
 jon (Gw n b) <|
 reg <| cnd (b)
  (Gw n b true)
 <| cnd (decide (a0=2))
  (Gw n b true)
 <| Gw n b (decide (a0=3))
def P1 (n:Nat)(a0:Int):Option (Bool×Bool) :=
 jon (Im n a0) <|
 reg <| cnd (decide (a0=1))
  (Im n a0 true)
 <| Im n a0 (decide (a0=4))
def Fp (n:Nat)(a0:A5):Option (Int) :=
 cnd (decide (a0.fKind<0))
  (some 1)
 <| cnd (decide (2<a0.fKind))
  (some 1)
 <| cnd (decide (a0.fKind=2))
  (cnd (!decide (a0.fNum=0))
    (some 3)
  <| cnd (decide (64<((a0.fText.size:Nat):Int)))
   (some 13)
  <| some 0)
 <| cnd (!(a0.fText.toList == ByteArray.empty.toList))
  (some 3)
 <| cnd (decide (a0.fKind=1))
  (cnd (decide (a0.fNum<0))
    (some 2)
  <| cnd (decide (1<a0.fNum))
   (some 2)
  <| cnd (decide (a0.fNum<(-1099511627776)))
   (some 2)
  <| cnd (decide (1099511627776<a0.fNum))
   (some 2)
  <| some 0)
 <| cnd (decide (a0.fNum<(-1099511627776)))
  (some 2)
 <| cnd (decide (1099511627776<a0.fNum))
  (some 2)
 <| some 0
def Fj (n:Nat)(b:Bool):Option (Bool) :=
 some b
def J2 (n:Nat)(a0:Int)(a1:A5):Option (Bool) :=
 jon (Fj n) <|
 reg <| cnd (decide (a1.fKind=0))
  (Fj n true)
 <| cnd (decide (a0=0))
  (Fj n true)
 <| cnd (decide (a0=4))
  (Fj n true)
 <| Fj n (decide (a0=5))
def Bp (n:Nat)(b:Bool):Option (Int) :=
 cnd (b)
  (some 3)
 <| some 0
def Fk (n:Nat)(a0:Ak)(x2:Bool×Bool)(b:Bool)(c:Bool):Option (Int) :=
 cnd (c)
  (some 9)
 <| jon (Bp n) <|
 reg <| cnd (!(x2.1))
  (cnd (!decide (a0.fVar=0))
    (Bp n true)
  <| cnd (!(x2.2))
   (cnd (!decide (a0.fField=0))
     (Bp n true)
   <| cnd (!(decide (a0.fOp=4)))
    (cnd (!decide (a0.fKind=0))
      (Bp n true)
    <| cnd (!(b))
     (Bp n (!(decide (a0.fValue.fKind=0) && (decide (a0.fValue.fNum=0) && ((a0.fValue.fText.toList == ByteArray.empty.toList) && true)))))
    <| Bp n false)
   <| cnd (!(b))
    (Bp n (!(decide (a0.fValue.fKind=0) && (decide (a0.fValue.fNum=0) && ((a0.fValue.fText.toList == ByteArray.empty.toList) && true)))))
   <| Bp n false)
  <| cnd (!(decide (a0.fOp=4)))
   (cnd (!decide (a0.fKind=0))
     (Bp n true)
   <| cnd (!(b))
    (Bp n (!(decide (a0.fValue.fKind=0) && (decide (a0.fValue.fNum=0) && ((a0.fValue.fText.toList == ByteArray.empty.toList) && true)))))
   <| Bp n false)
  <| cnd (!(b))
   (Bp n (!(decide (a0.fValue.fKind=0) && (decide (a0.fValue.fNum=0) && ((a0.fValue.fText.toList == ByteArray.empty.toList) && true)))))
  <| Bp n false)
 <| cnd (!(x2.2))
  (cnd (!decide (a0.fField=0))
    (Bp n true)
  <| cnd (!(decide (a0.fOp=4)))
   (cnd (!decide (a0.fKind=0))
     (Bp n true)
   <| cnd (!(b))
    (Bp n (!(decide (a0.fValue.fKind=0) && (decide (a0.fValue.fNum=0) && ((a0.fValue.fText.toList == ByteArray.empty.toList) && true)))))
   <| Bp n false)
  <| cnd (!(b))
   (Bp n (!(decide (a0.fValue.fKind=0) && (decide (a0.fValue.fNum=0) && ((a0.fValue.fText.toList == ByteArray.empty.toList) && true)))))
  <| Bp n false)
 <| cnd (!(decide (a0.fOp=4)))
  (cnd (!decide (a0.fKind=0))
    (Bp n true)
  <| cnd (!(b))
   (Bp n (!(decide (a0.fValue.fKind=0) && (decide (a0.fValue.fNum=0) && ((a0.fValue.fText.toList == ByteArray.empty.toList) && true)))))
  <| Bp n false)
 <| cnd (!(b))
  (Bp n (!(decide (a0.fValue.fKind=0) && (decide (a0.fValue.fNum=0) && ((a0.fValue.fText.toList == ByteArray.empty.toList) && true)))))
 <| Bp n false
def Io (n:Nat)(a0:Ak)(x2:Bool×Bool)(b:Bool)(_:Unit):Option (Int) :=
 jon (Fk n a0 x2 b) <|
 reg <| cnd (decide (a0.fOp=4))
  (bnd (J2 n a0.fKind a0.fValue) fun c =>
  cnd (!(c))
   (Fk n a0 x2 b true)
  <| cnd (decide (a0.fKind=1))
   (Fk n a0 x2 b (!(decide (a0.fValue.fKind=0) && (decide (a0.fValue.fNum=0) && ((a0.fValue.fText.toList == ByteArray.empty.toList) && true)))))
  <| Fk n a0 x2 b false)
 <| Fk n a0 x2 b false
def Ip (n:Nat)(a0:Ak)(x2:Bool×Bool)(b:Bool):Option (Int) :=
 jon (Io n a0 x2 b) <|
 reg <| cnd (b)
  (bnd (Fp n a0.fValue) fun c =>
  cnd (!decide (c=0))
   (some c)
  <| Io n a0 x2 b ())
 <| Io n a0 x2 b ()
def Gx (n:Nat)(a0:Ak)(x2:Bool×Bool)(b:Bool):Option (Int) :=
 cnd (b)
  (some 1)
 <| jon (Ip n a0 x2) <|
 reg <| cnd (decide (a0.fOp=4))
  (Ip n a0 x2 true)
 <| Ip n a0 x2 (decide (a0.fOp=0))
def Dd (n:Nat)(a0:Ak)(x2:Bool×Bool)(b:Bool):Option (Int) :=
 cnd (b)
  (some 2)
 <| jon (Gx n a0 x2) <|
 reg <| cnd (decide (a0.fOp=4))
  (cnd (decide (a0.fKind<1))
    (Gx n a0 x2 true)
  <| Gx n a0 x2 (decide (5<a0.fKind)))
 <| Gx n a0 x2 false
def P2 (n:Nat)(a0:Ak):Option (Int) :=
 bnd (Ot n a0.fOp) fun x1 =>
 cnd (decide (x1<0))
  (some 1)
 <| cnd (!decide (((a0.fArgs.map idA).length:Int)=x1))
  (some 15)
 <| bnd (P1 n a0.fOp) fun x2 =>
 jon (Dd n a0 x2) <|
 reg <| cnd (x2.1)
  (cnd (decide (a0.fVar<0))
    (Dd n a0 x2 true)
  <| cnd (decide (16<=a0.fVar))
   (Dd n a0 x2 true)
  <| cnd (x2.2)
   (cnd (decide (a0.fField<0))
     (Dd n a0 x2 true)
   <| Dd n a0 x2 (decide (8<=a0.fField)))
  <| Dd n a0 x2 false)
 <| cnd (x2.2)
  (cnd (decide (a0.fField<0))
    (Dd n a0 x2 true)
  <| Dd n a0 x2 (decide (8<=a0.fField)))
 <| Dd n a0 x2 false
def L8 (n:Nat)(b:Ak->Option (Int))(a0:Ak)(c:Option (Int)):Nat->Int->Option (Int)
 |0,_=>none
 |e+1,d =>
  cnd (decide (d<((a0.fArgs.map idA).length:Int)))
   (idxD Bs a0.fArgs d fun g =>
   bnd (b g) fun f =>
   cnd (!decide (f=0))
    (some f)
   <| (L8 n b a0 c e) (aA .i64 (d+1)))
  <| c
def Fo:Nat->Ak->Option (Int)
 |0,_=>none
 |n+1,a0 =>
 bnd (P2 n a0) fun x1 =>
 cnd (!decide (x1=0))
  (some x1)
 <| L8 n (Fo n) a0
  (some 0) n 0
def Ew (n:Nat)(a0:Ak):Option (Int) :=
 bnd (Eu n a0 64) fun x1 =>
 cnd (decide (64<x1))
  (some 5)
 <| bnd (Et n a0) fun x2 =>
 cnd (decide (12<x2))
  (some 12)
 <| bnd (Fo n a0) fun x3 =>
 some x3
structure B5 where
 fScope:Int
 fType:Int
 fVar:Int
 fCond:Ak
deriving Inhabited
def B0 (x:B5):AV:=.agg [aI (x.fScope),aI (x.fType),aI (x.fVar),aI (x.fCond.fOp),.sl 8 (x.fCond.fArgs.map idA),aI (x.fCond.fVar),aI (x.fCond.fField),aI (x.fCond.fKind),aI (x.fCond.fValue.fKind),aI (x.fCond.fValue.fNum),.str (x.fCond.fValue.fText)]
abbrev Q6 (x:B5):List AV:=[aI (x.fScope),aI (x.fType),aI (x.fVar),aI (x.fCond.fOp),.sl 8 (x.fCond.fArgs.map idA),aI (x.fCond.fVar),aI (x.fCond.fField),aI (x.fCond.fKind),aI (x.fCond.fValue.fKind),aI (x.fCond.fValue.fNum),.str (x.fCond.fValue.fText)]
structure Dw where
 fGuards:(List B5)
deriving Inhabited
def Aj (x:Dw):AV:=.agg [.sl 11 (x.fGuards.map B0)]
structure C0 where
 fScope:Int
 fSpan:Int
deriving DecidableEq,Inhabited
def Bj (x:C0):AV:=.agg [aI (x.fScope),aI (x.fSpan)]
structure Ab where
 fFrom:Int
 fTo:Int
 fVar:Int
 fType:Int
 fCond:Ak
 fOpens:(List Int)
 fCloses:(List Int)
 fChecks:(List AV)
 fLimits:(List C0)
 fInside:(List Int)
deriving Inhabited
def A7 (x:Ab):AV:=.agg [aI (x.fFrom),aI (x.fTo),aI (x.fVar),aI (x.fType),aI (x.fCond.fOp),.sl 8 (x.fCond.fArgs.map idA),aI (x.fCond.fVar),aI (x.fCond.fField),aI (x.fCond.fKind),aI (x.fCond.fValue.fKind),aI (x.fCond.fValue.fNum),.str (x.fCond.fValue.fText),.sl 1 (x.fOpens.map aI),.sl 1 (x.fCloses.map aI),.sl 8 (x.fChecks.map idA),.sl 2 (x.fLimits.map Bj),.sl 1 (x.fInside.map aI)]
abbrev Bt (x:Ab):List AV:=[aI (x.fFrom),aI (x.fTo),aI (x.fVar),aI (x.fType),aI (x.fCond.fOp),.sl 8 (x.fCond.fArgs.map idA),aI (x.fCond.fVar),aI (x.fCond.fField),aI (x.fCond.fKind),aI (x.fCond.fValue.fKind),aI (x.fCond.fValue.fNum),.str (x.fCond.fValue.fText),.sl 1 (x.fOpens.map aI),.sl 1 (x.fCloses.map aI),.sl 8 (x.fChecks.map idA),.sl 2 (x.fLimits.map Bj),.sl 1 (x.fInside.map aI)]
structure A8 where
 fVars:Int
 fScopes:Int
 fStates:(List Dw)
 fEdges:(List Ab)
deriving Inhabited
def B4 (x:A8):AV:=.agg [aI (x.fVars),aI (x.fScopes),.sl 1 (x.fStates.map Aj),.sl 17 (x.fEdges.map A7)]
abbrev Ao (x:A8):List AV:=[aI (x.fVars),aI (x.fScopes),.sl 1 (x.fStates.map Aj),.sl 17 (x.fEdges.map A7)]
def Iv (n:Nat)(b:Bool):Option (Bool) :=
 some b
def Ce (n:Nat)(a0:Int)(a1:Int):Option (Bool) :=
 jon (Iv n) <|
 reg <| cnd (decide (a0<0))
  (Iv n true)
 <| Iv n (decide (a1<a0))
def Kw (n:Nat)(a1:(List B5))(a0:A8)(c:Int)(b:Option (Int)):Nat->Int->Option (Int)
 |0,_=>none
 |e+1,d =>
  cnd (decide (d<c))
   (idx a1 d fun f =>
   idx a1 c fun g =>
   cnd (decide (f.fScope=g.fScope))
    (some 7)
   <| (Kw n a1 a0 c b e) (aA .i64 (d+1)))
  <| b
def Gq (n:Nat)(a1:(List B5))(a0:A8)(b:Int)(c:Int->Option (Int))(e:Bool):Option (Int) :=
 cnd (e)
  (some 2)
 <| Kw n a1 a0 b
  (idx a1 b fun f =>
 bnd (Ew n f.fCond) fun d =>
 cnd (!decide (d=0))
  (some d)
 <| c (aA .i64 (b+1))) n 0
def El (n:Nat)(a1:(List B5))(a0:A8)(b:Option (Int)):Nat->Int->Option (Int)
 |0,_=>none
 |d+1,c =>
  cnd (decide (c<((a1.map B0).length:Int)))
   (jon (Gq n a1 a0 c (El n a1 a0 b d)) <|
   reg <| idx a1 c fun e =>
   bnd (Ce n e.fScope (aA .i64 (a0.fScopes-1))) fun f =>
   cnd (f)
    (Gq n a1 a0 c (El n a1 a0 b d) true)
   <| idx a1 c fun g =>
   bnd (Ce n g.fType 15) fun h =>
   cnd (h)
    (Gq n a1 a0 c (El n a1 a0 b d) true)
   <| idx a1 c fun j =>
   bnd (Ce n j.fVar (aA .i64 (a0.fVars-1))) fun k =>
   Gq n a1 a0 c (El n a1 a0 b d) k)
  <| b
def Ok (n:Nat)(a0:A8)(a1:(List B5)):Option (Int) :=
 cnd (decide (64<((a1.map B0).length:Int)))
  (some 5)
 <| El n a1 a0
  (some 0) n 0
def Kv (n:Nat)(a1:Int)(a0:(List Int))(c:Int)(b:Option (Int)):Nat->Int->Option (Int)
 |0,_=>none
 |e+1,d =>
  cnd (decide (d<c))
   (idx a0 d fun f =>
   idx a0 c fun g =>
   cnd (decide (f=g))
    (some 7)
   <| (Kv n a1 a0 c b e) (aA .i64 (d+1)))
  <| b
def I5 (n:Nat)(a1:Int)(a0:(List Int))(c:Option (Int)):Nat->Int->Option (Int)
 |0,_=>none
 |d+1,b =>
  cnd (decide (b<((a0.map aI).length:Int)))
   (idx a0 b fun e =>
   bnd (Ce n e (aA .i64 (a1-1))) fun f =>
   cnd (f)
    (some 2)
   <| Kv n a1 a0 b
    ((I5 n a1 a0 c d) (aA .i64 (b+1))) n 0)
  <| c
def Ln (n:Nat)(a0:(List Int))(a1:Int):Option (Int) :=
 I5 n a1 a0
  (some 0) n 0
def Ib (n:Nat)(a1:Ab)(b:Option (Int)):Nat->Int->Option (Int)
 |0,_=>none
 |d+1,c =>
  cnd (decide (c<((a1.fLimits.map Bj).length:Int)))
   (idx a1.fLimits c fun e =>
   bnd (Ce n e.fSpan 1099511627776) fun f =>
   cnd (f)
    (some 2)
   <| (Ib n a1 b d) (aA .i64 (c+1)))
  <| b
def Fh (n:Nat)(a1:Ab)(a0:A8)(b:(List Int))(c:Option (Int)):Nat->Int->Option (Int)
 |0,_=>none
 |f+1,d =>
  cnd (decide (d<4))
   (idx ([a1.fOpens,a1.fCloses,a1.fInside,b]:List (List Int)) d fun g =>
   bnd (Ln n g a0.fScopes) fun e =>
   cnd (!decide (e=0))
    (some e)
   <| (Fh n a1 a0 b c f) (aA .i64 (d+1)))
  <| c
def L5 (n:Nat)(a1:Ab)(a0:A8)(c:(List Int)->Option (Int)):Nat->Int×(List Int)->Option (Int)
 |0,_=>none
 |d+1,b =>
  cnd (decide (b.1<((a1.fLimits.map Bj).length:Int)))
   (idx a1.fLimits b.1 fun e =>
   app b.2 [e.fScope] 8 fun f =>
   (L5 n a1 a0 c d) ((aA .i64 (b.1+1)),f))
  <| c b.2
def Lv (n:Nat)(a0:A8)(a1:Ab):Option (Int) :=
 L5 n a1 a0
  (fun b=>frz 7026 <| reg <| Fh n a1 a0 b
  (Ib n a1
  (some 0) n 0) n 0) n (0,[])
def Lg (n:Nat)(a1:Ab)(a0:A8)(b:Option (Int)):Nat->Int->Option (Int)
 |0,_=>none
 |d+1,c =>
  cnd (decide (c<((a1.fChecks.map idA).length:Int)))
   (idxD Bs a1.fChecks c fun f =>
   bnd (Ew n f) fun e =>
   cnd (!decide (e=0))
    (some e)
   <| (Lg n a1 a0 b d) (aA .i64 (c+1)))
  <| b
def D2 (n:Nat)(a2:Int)(a1:Ab)(a0:A8)(b:Bool):Option (Int) :=
 cnd (b)
  (some 2)
 <| cnd (decide (a1.fFrom<a2))
  (some 14)
 <| bnd (Ew n a1.fCond) fun x8 =>
 cnd (!decide (x8=0))
  (some x8)
 <| cnd (decide (64<((a1.fChecks.map idA).length:Int)))
  (some 5)
 <| Lg n a1 a0
  (bnd (Lv n a0 a1) fun c =>
 some c) n 0
def Oz (n:Nat)(a0:A8)(a1:Ab)(a2:Int):Option (Int) :=
 jon (D2 n a2 a1 a0) <|
 reg <| bnd (Ce n a1.fFrom (aA .i64 (((a0.fStates.map Aj).length:Int)-1))) fun b =>
 cnd (b)
  (D2 n a2 a1 a0 true)
 <| cnd (!decide (a1.fTo=(-1)))
  (bnd (Ce n a1.fTo (aA .i64 (((a0.fStates.map Aj).length:Int)-1))) fun c =>
  cnd (c)
   (D2 n a2 a1 a0 true)
  <| bnd (Ce n a1.fVar (aA .i64 (a0.fVars-1))) fun d =>
  cnd (d)
   (D2 n a2 a1 a0 true)
  <| bnd (Ce n a1.fType 15) fun e =>
  D2 n a2 a1 a0 e)
 <| bnd (Ce n a1.fVar (aA .i64 (a0.fVars-1))) fun f =>
 cnd (f)
  (D2 n a2 a1 a0 true)
 <| bnd (Ce n a1.fType 15) fun g =>
 D2 n a2 a1 a0 g
def L6 (n:Nat)(a0:A8)(c:Option (Int)):Nat->Int×Int->Option (Int)
 |0,_=>none
 |d+1,b =>
  cnd (decide (b.2<((a0.fEdges.map A7).length:Int)))
   (idx a0.fEdges b.2 fun f =>
   bnd (Oz n a0 f b.1) fun e =>
   cnd (!decide (e=0))
    (some e)
   <| idx a0.fEdges b.2 fun g =>
   (L6 n a0 c d) (g.fFrom,(aA .i64 (b.2+1))))
  <| c
def L7 (n:Nat)(a0:A8)(b:Option (Int)):Nat->Int->Option (Int)
 |0,_=>none
 |d+1,c =>
  cnd (decide (c<((a0.fStates.map Aj).length:Int)))
   (idx a0.fStates c fun f =>
   bnd (Ok n a0 f.fGuards) fun e =>
   cnd (!decide (e=0))
    (some e)
   <| (L7 n a0 b d) (aA .i64 (c+1)))
  <| b
def Em (n:Nat)(a0:A8)(b:Bool):Option (Int) :=
 cnd (b)
  (some 5)
 <| L7 n a0
  (L6 n a0
  (some 0) n (0,0)) n 0
def Fi (n:Nat)(a0:A8)(b:Bool):Option (Int) :=
 cnd (b)
  (some 2)
 <| jon (Em n a0) <|
 reg <| cnd (decide (((a0.fStates.map Aj).length:Int)<1))
  (Em n a0 true)
 <| cnd (decide (256<((a0.fStates.map Aj).length:Int)))
  (Em n a0 true)
 <| Em n a0 (decide (2048<((a0.fEdges.map A7).length:Int)))
def Es (n:Nat)(a0:A8):Option (Int) :=
 jon (Fi n a0) <|
 reg <| bnd (Ce n a0.fVars 16) fun b =>
 cnd (b)
  (Fi n a0 true)
 <| bnd (Ce n a0.fScopes 64) fun c =>
 Fi n a0 c
def N2 (n:Nat)(b:Ak->Option (Int×Int))(a0:Ak)(d:Int->Int->Option (Int×Int)):Nat->Int×Int×Int->Option (Int×Int)
 |0,_=>none
 |e+1,c =>
  cnd (decide (c.2.2<((a0.fArgs.map idA).length:Int)))
   (idxD Bs a0.fArgs c.2.2 fun g =>
   bnd (b g) fun f =>
   (N2 n b a0 d e) ((aA .i64 (c.1+f.1)),(max c.2.1 f.2),(aA .i64 (c.2.2+1))))
  <| d c.1 c.2.1
def Ga:Nat->Ak->Option (Int×Int)
 |0,_=>none
 |n+1,a0 =>
 N2 n (Ga n) a0
  (fun b c=>some (b,(aA .i64 (c+1)))) n (1,0,0)
def Jn (n:Nat)(a0:Int)(b:Bool):Option (Int×Bool) :=
 cnd (b)
  (some (0,false))
 <| cnd (decide (a0<5))
  (some (0,true))
 <| cnd (decide (a0=12))
  (some (1,true))
 <| some (2,true)
def Q2 (n:Nat)(a0:Int):Option (Int×Bool) :=
 jon (Jn n a0) <|
 reg <| cnd (decide (a0<0))
  (Jn n a0 true)
 <| Jn n a0 (decide (12<a0))
def Jp (n:Nat)(b:Bool):Option (Bool×Bool) :=
 cnd (b)
  (some (true,false))
 <| some (false,false)
def Jq (n:Nat)(a0:Int)(b:Bool):Option (Bool×Bool) :=
 cnd (b)
  (some (true,true))
 <| jon (Jp n) <|
 reg <| cnd (decide (a0=2))
  (Jp n (decide (a0=2)))
 <| Jp n (decide (a0=3))
def N5 (n:Nat)(a0:Int):Option (Bool×Bool) :=
 jon (Jq n a0) <|
 reg <| cnd (decide (a0=1))
  (Jq n a0 (decide (a0=1)))
 <| Jq n a0 (decide (a0=4))
def Jt (n:Nat)(a0:A5):Option (Int) :=
 cnd (decide (a0.fKind=0))
  (cnd (decide (a0.fNum<(-1099511627776)))
    (some 2)
  <| cnd (decide (1099511627776<a0.fNum))
   (some 2)
  <| cnd (decide (a0.fKind=1))
   (cnd (!decide (a0.fNum=0))
     (cnd (!decide (a0.fNum=1))
       (some 2)
     <| cnd (decide (64<((a0.fText.size:Nat):Int)))
      (some 13)
     <| some 0)
   <| cnd (decide (64<((a0.fText.size:Nat):Int)))
    (some 13)
   <| some 0)
  <| cnd (decide (64<((a0.fText.size:Nat):Int)))
   (some 13)
  <| some 0)
 <| cnd (decide (a0.fKind=1))
  (cnd (!decide (a0.fNum=0))
    (cnd (!decide (a0.fNum=1))
      (some 2)
    <| cnd (decide (64<((a0.fText.size:Nat):Int)))
     (some 13)
    <| some 0)
  <| cnd (decide (64<((a0.fText.size:Nat):Int)))
   (some 13)
  <| some 0)
 <| cnd (decide (64<((a0.fText.size:Nat):Int)))
  (some 13)
 <| some 0
def F5 (n:Nat)(a0:A5):Option (Int) :=
 cnd (decide (a0.fKind=0))
  (cnd (decide (a0.fKind=0))
    (cnd (!(a0.fText.toList == ByteArray.empty.toList))
      (some 3)
    <| bnd (Jt n a0) fun x1 =>
    some x1)
  <| cnd (decide (a0.fKind=2))
   (cnd (!decide (a0.fNum=0))
     (some 3)
   <| bnd (Jt n a0) fun x2 =>
   some x2)
  <| some 1)
 <| cnd (decide (a0.fKind=1))
  (cnd (!(a0.fText.toList == ByteArray.empty.toList))
    (some 3)
  <| bnd (Jt n a0) fun x3 =>
  some x3)
 <| cnd (decide (a0.fKind=2))
  (cnd (!decide (a0.fNum=0))
    (some 3)
  <| bnd (Jt n a0) fun x4 =>
  some x4)
 <| some 1
def Hk (n:Nat)(b:Bool):Option (Bool) :=
 some b
def Q1 (n:Nat)(a0:Int)(a1:A5):Option (Bool) :=
 jon (Hk n) <|
 reg <| cnd (decide (a1.fKind=0))
  (Hk n true)
 <| cnd (decide (a0=4))
  (Hk n true)
 <| Hk n (decide (a0=5))
def Fz (n:Nat)(b:Bool):Option (Int) :=
 cnd (b)
  (some 9)
 <| some 0
def Ps (n:Nat)(a0:Ak):Option (Int) :=
 bnd (F5 n a0.fValue) fun x1 =>
 cnd (!decide (x1=0))
  (some x1)
 <| jon (Fz n) <|
 reg <| cnd (decide (a0.fOp=4))
  (bnd (Q1 n a0.fKind a0.fValue) fun x4 =>
  cnd (!(x4))
   (Fz n true)
  <| cnd (decide (a0.fKind=1))
   (Fz n (!(decide (a0.fValue.fKind=0) && (decide (a0.fValue.fNum=0) && ((a0.fValue.fText.toList == ByteArray.empty.toList) && true)))))
  <| Fz n false)
 <| Fz n false
def Bq (n:Nat)(b:Bool):Option (Int) :=
 cnd (b)
  (some 3)
 <| some 0
def Jr (n:Nat)(a0:Ak)(x2:Bool×Bool)(b:Bool)(_:Unit):Option (Int) :=
 jon (Bq n) <|
 reg <| cnd (!(x2.1))
  (cnd (!decide (a0.fVar=0))
    (Bq n true)
  <| cnd (!(x2.2))
   (cnd (!decide (a0.fField=0))
     (Bq n true)
   <| cnd (!(decide (a0.fOp=4)))
    (cnd (!decide (a0.fKind=0))
      (Bq n true)
    <| cnd (!(b))
     (Bq n (!(decide (a0.fValue.fKind=0) && (decide (a0.fValue.fNum=0) && ((a0.fValue.fText.toList == ByteArray.empty.toList) && true)))))
    <| Bq n false)
   <| cnd (!(b))
    (Bq n (!(decide (a0.fValue.fKind=0) && (decide (a0.fValue.fNum=0) && ((a0.fValue.fText.toList == ByteArray.empty.toList) && true)))))
   <| Bq n false)
  <| cnd (!(decide (a0.fOp=4)))
   (cnd (!decide (a0.fKind=0))
     (Bq n true)
   <| cnd (!(b))
    (Bq n (!(decide (a0.fValue.fKind=0) && (decide (a0.fValue.fNum=0) && ((a0.fValue.fText.toList == ByteArray.empty.toList) && true)))))
   <| Bq n false)
  <| cnd (!(b))
   (Bq n (!(decide (a0.fValue.fKind=0) && (decide (a0.fValue.fNum=0) && ((a0.fValue.fText.toList == ByteArray.empty.toList) && true)))))
  <| Bq n false)
 <| cnd (!(x2.2))
  (cnd (!decide (a0.fField=0))
    (Bq n true)
  <| cnd (!(decide (a0.fOp=4)))
   (cnd (!decide (a0.fKind=0))
     (Bq n true)
   <| cnd (!(b))
    (Bq n (!(decide (a0.fValue.fKind=0) && (decide (a0.fValue.fNum=0) && ((a0.fValue.fText.toList == ByteArray.empty.toList) && true)))))
   <| Bq n false)
  <| cnd (!(b))
   (Bq n (!(decide (a0.fValue.fKind=0) && (decide (a0.fValue.fNum=0) && ((a0.fValue.fText.toList == ByteArray.empty.toList) && true)))))
  <| Bq n false)
 <| cnd (!(decide (a0.fOp=4)))
  (cnd (!decide (a0.fKind=0))
    (Bq n true)
  <| cnd (!(b))
   (Bq n (!(decide (a0.fValue.fKind=0) && (decide (a0.fValue.fNum=0) && ((a0.fValue.fText.toList == ByteArray.empty.toList) && true)))))
  <| Bq n false)
 <| cnd (!(b))
  (Bq n (!(decide (a0.fValue.fKind=0) && (decide (a0.fValue.fNum=0) && ((a0.fValue.fText.toList == ByteArray.empty.toList) && true)))))
 <| Bq n false
def Js (n:Nat)(a0:Ak)(x2:Bool×Bool)(b:Bool):Option (Int) :=
 jon (Jr n a0 x2 b) <|
 reg <| cnd (b)
  (bnd (Ps n a0) fun x8 =>
  cnd (!decide (x8=0))
   (some x8)
  <| Jr n a0 x2 b ())
 <| Jr n a0 x2 b ()
def Hm (n:Nat)(a0:Ak)(x2:Bool×Bool)(b:Bool):Option (Int) :=
 cnd (b)
  (some 1)
 <| jon (Js n a0 x2) <|
 reg <| cnd (decide (a0.fOp=4))
  (Js n a0 x2 true)
 <| Js n a0 x2 (decide (a0.fOp=0))
def Df (n:Nat)(a0:Ak)(x2:Bool×Bool)(b:Bool):Option (Int) :=
 cnd (b)
  (some 2)
 <| jon (Hm n a0 x2) <|
 reg <| cnd (decide (a0.fOp=4))
  (cnd (decide (a0.fKind<1))
    (Hm n a0 x2 true)
  <| Hm n a0 x2 (decide (5<a0.fKind)))
 <| Hm n a0 x2 false
def Q9 (n:Nat)(a0:Ak):Option (Int) :=
 bnd (Q2 n a0.fOp) fun x1 =>
 cnd (!(x1.2))
  (some 1)
 <| cnd (!decide (((a0.fArgs.map idA).length:Int)=x1.1))
  (some 15)
 <| bnd (N5 n a0.fOp) fun x2 =>
 jon (Df n a0 x2) <|
 reg <| cnd (x2.1)
  (cnd (decide (a0.fVar<0))
    (Df n a0 x2 true)
  <| cnd (decide (16<=a0.fVar))
   (Df n a0 x2 true)
  <| cnd (x2.2)
   (cnd (decide (a0.fField<0))
     (Df n a0 x2 true)
   <| Df n a0 x2 (decide (8<=a0.fField)))
  <| Df n a0 x2 false)
 <| cnd (x2.2)
  (cnd (decide (a0.fField<0))
    (Df n a0 x2 true)
  <| Df n a0 x2 (decide (8<=a0.fField)))
 <| Df n a0 x2 false
def Mz (n:Nat)(b:Ak->Option (Int))(a0:Ak)(c:Option (Int)):Nat->Int->Option (Int)
 |0,_=>none
 |e+1,d =>
  cnd (decide (d<((a0.fArgs.map idA).length:Int)))
   (idxD Bs a0.fArgs d fun g =>
   bnd (b g) fun f =>
   cnd (!decide (f=0))
    (some f)
   <| (Mz n b a0 c e) (aA .i64 (d+1)))
  <| c
def G7:Nat->Ak->Option (Int)
 |0,_=>none
 |n+1,a0 =>
 bnd (Q9 n a0) fun x1 =>
 cnd (!decide (x1=0))
  (some x1)
 <| Mz n (G7 n) a0
  (some 0) n 0
def G8 (n:Nat)(a0:Ak):Option (Int) :=
 bnd (Ga n a0) fun x1 =>
 cnd (decide (64<x1.1))
  (some 5)
 <| cnd (decide (12<x1.2))
  (some 12)
 <| bnd (G7 n a0) fun x2 =>
 some x2
def J4 (n:Nat)(b:Bool):Option (Bool) :=
 some b
def Dr (n:Nat)(a0:Int)(a1:Int):Option (Bool) :=
 jon (J4 n) <|
 reg <| cnd (decide (0<=a0))
  (J4 n (decide (a0<a1)))
 <| J4 n false
def M4 (n:Nat)(a0:B5)(a1:B5):Option (Bool) :=
 some (decide (a0.fScope=a1.fScope))
def Lw (n:Nat)(d:B5)(a0:(List B5))(c:Option (Int)):Nat->Int->Option (Int)
 |0,_=>none
 |e+1,b =>
  cnd (decide (b<((a0.map B0).length:Int)))
   (idx a0 b fun f =>
   bnd (M4 n f d) fun g =>
   cnd (g)
    (some b)
   <| (Lw n d a0 c e) (aA .i64 (b+1)))
  <| c
def Ph (n:Nat)(a0:(List B5))(b:B5):Option (Int) :=
 Lw n b a0
  (some (-1)) n 0
def Lx (n:Nat)(a0:(List B5))(b:B5):Option (Bool) :=
 bnd (Ph n a0 b) fun x1 =>
 some (decide (0<=x1))
def H7 (n:Nat)(a1:(List B5))(a0:A8)(b:Int)(c:Int->Option (Int))(d:B5)(f:Bool):Option (Int) :=
 cnd (f)
  (some 2)
 <| sls a1 0 b fun g =>
 bnd (Lx n g d) fun h =>
 cnd (h)
  (some 7)
 <| bnd (G8 n d.fCond) fun e =>
 cnd (!decide (e=0))
  (some e)
 <| c (aA .i64 (b+1))
def Ex (n:Nat)(a1:(List B5))(a0:A8)(b:Option (Int)):Nat->Int->Option (Int)
 |0,_=>none
 |d+1,c =>
  cnd (decide (c<((a1.map B0).length:Int)))
   (idx a1 c fun e =>
   jon (H7 n a1 a0 c (Ex n a1 a0 b d) e) <|
   reg <| bnd (Dr n e.fScope a0.fScopes) fun f =>
   cnd (!(f))
    (H7 n a1 a0 c (Ex n a1 a0 b d) e true)
   <| bnd (Dr n e.fType 16) fun g =>
   cnd (!(g))
    (H7 n a1 a0 c (Ex n a1 a0 b d) e true)
   <| bnd (Dr n e.fVar a0.fVars) fun h =>
   H7 n a1 a0 c (Ex n a1 a0 b d) e !(h))
  <| b
def Pn (n:Nat)(a0:A8)(a1:(List B5)):Option (Int) :=
 cnd (decide (64<((a1.map B0).length:Int)))
  (some 5)
 <| Ex n a1 a0
  (some 0) n 0
def Lu (n:Nat)(a0:(List C0))(c:(List Int)->Option ((List Int))):Nat->Int×(List Int)->Option ((List Int))
 |0,_=>none
 |d+1,b =>
  cnd (decide (b.1<((a0.map Bj).length:Int)))
   (idx a0 b.1 fun e =>
   app b.2 [e.fScope] 8 fun f =>
   (Lu n a0 c d) ((aA .i64 (b.1+1)),f))
  <| c b.2
def M9 (n:Nat)(a0:(List C0)):Option ((List Int)) :=
 Lu n a0
  (fun b=>some b) n (0,[])
def Mi (n:Nat)(a1:Int)(a0:(List Int))(c:Option (Int)):Nat->Int->Option (Int)
 |0,_=>none
 |d+1,b =>
  cnd (decide (b<((a0.map aI).length:Int)))
   (idx a0 b fun e =>
   cnd (decide (a1=e))
    (some b)
   <| (Mi n a1 a0 c d) (aA .i64 (b+1)))
  <| c
def Sv (n:Nat)(a0:(List Int))(a1:Int):Option (Int) :=
 Mi n a1 a0
  (some (-1)) n 0
def Eb (n:Nat)(a0:(List Int))(a1:Int):Option (Bool) :=
 bnd (Sv n a0 a1) fun x1 =>
 some (decide (0<=x1))
def Ft (n:Nat)(a1:(List (List Int)))(a0:A8)(g:Int)(d:(List Int))(c:Option (Int)):Nat->Int->Option (Int)
 |0,_=>none
 |e+1,b =>
  cnd (decide (b<((d.map aI).length:Int)))
   (idx d b fun f =>
   bnd (Dr n f a0.fScopes) fun h =>
   cnd (!(h))
    (some 2)
   <| sls d 0 b fun j =>
   bnd (Eb n j f) fun k =>
   cnd (k)
    (some 7)
   <| (Ft n a1 a0 g d c e) (aA .i64 (b+1)))
  <| c
def H6 (n:Nat)(a1:(List (List Int)))(a0:A8)(c:Option (Int)):Nat->Int->Option (Int)
 |0,_=>none
 |d+1,b =>
  cnd (decide (b<(((List.map (fun q=>AV.sl 1 (List.map aI q)) (a1)).length:Nat):Int)))
   (idx a1 b fun e =>
   Ft n a1 a0 b e
    ((H6 n a1 a0 c d) (aA .i64 (b+1))) n 0)
  <| c
def Pm (n:Nat)(a0:A8)(a1:(List (List Int))):Option (Int) :=
 H6 n a1 a0
  (some 0) n 0
def H8 (n:Nat)(b:Bool):Option (Bool) :=
 some b
def Hg (n:Nat)(a0:C0):Option (Bool) :=
 jon (H8 n) <|
 reg <| cnd (decide (a0.fSpan<0))
  (H8 n true)
 <| H8 n (decide (1099511627776<a0.fSpan))
def Ky (n:Nat)(a0:(List C0))(c:Option (Int)):Nat->Int->Option (Int)
 |0,_=>none
 |d+1,b =>
  cnd (decide (b<((a0.map Bj).length:Int)))
   (idx a0 b fun e =>
   bnd (Hg n e) fun f =>
   cnd (f)
    (some b)
   <| (Ky n a0 c d) (aA .i64 (b+1)))
  <| c
def Om (n:Nat)(a0:(List C0)):Option (Int) :=
 Ky n a0
  (some (-1)) n 0
def Kz (n:Nat)(a0:(List C0)):Option (Bool) :=
 bnd (Om n a0) fun x1 =>
 some (decide (0<=x1))
def G1 (n:Nat)(a1:Ab)(a0:A8)(b:Option (Int)):Nat->Int->Option (Int)
 |0,_=>none
 |d+1,c =>
  cnd (decide (c<((a1.fChecks.map idA).length:Int)))
   (idxD Bs a1.fChecks c fun f =>
   bnd (G8 n f) fun e =>
   cnd (!decide (e=0))
    (some e)
   <| (G1 n a1 a0 b d) (aA .i64 (c+1)))
  <| b
def Cn (n:Nat)(a2:Int)(a1:Ab)(a0:A8)(c:Bool):Option (Int) :=
 cnd (c)
  (some 2)
 <| cnd (decide (a1.fFrom<a2))
  (some 14)
 <| bnd (G8 n a1.fCond) fun x5 =>
 cnd (!decide (x5=0))
  (some x5)
 <| cnd (decide (64<((a1.fChecks.map idA).length:Int)))
  (some 5)
 <| G1 n a1 a0
  (bnd (M9 n a1.fLimits) fun d =>
 bnd (Pm n a0 ([a1.fOpens,a1.fCloses,a1.fInside,d])) fun b =>
 cnd (!decide (b=0))
  (some b)
 <| bnd (Kz n a1.fLimits) fun e =>
 cnd (e)
  (some 2)
 <| some 0) n 0
def Hj (n:Nat)(a0:A8)(a1:Ab)(a2:Int):Option (Int) :=
 jon (Cn n a2 a1 a0) <|
 reg <| bnd (Dr n a1.fFrom ((a0.fStates.map Aj).length:Int)) fun b =>
 cnd (!(b))
  (Cn n a2 a1 a0 true)
 <| cnd (decide (a1.fTo<(-1)))
  (Cn n a2 a1 a0 true)
 <| cnd (decide (((a0.fStates.map Aj).length:Int)<=a1.fTo))
  (Cn n a2 a1 a0 true)
 <| bnd (Dr n a1.fVar a0.fVars) fun c =>
 cnd (!(c))
  (Cn n a2 a1 a0 true)
 <| bnd (Dr n a1.fType 16) fun d =>
 Cn n a2 a1 a0 !(d)
def Fv (n:Nat)(a0:A8)(c:Option (Int)):Nat->Int×Int->Option (Int)
 |0,_=>none
 |d+1,b =>
  cnd (decide (b.2<((a0.fEdges.map A7).length:Int)))
   (idx a0.fEdges b.2 fun e =>
   bnd (Hj n a0 e b.1) fun f =>
   cnd (!decide (f=0))
    (some f)
   <| (Fv n a0 c d) (e.fFrom,(aA .i64 (b.2+1))))
  <| c
def Fw (n:Nat)(a0:A8)(b:Option (Int)):Nat->Int->Option (Int)
 |0,_=>none
 |d+1,c =>
  cnd (decide (c<((a0.fStates.map Aj).length:Int)))
   (idx a0.fStates c fun f =>
   bnd (Pn n a0 f.fGuards) fun e =>
   cnd (!decide (e=0))
    (some e)
   <| (Fw n a0 b d) (aA .i64 (c+1)))
  <| b
def D5 (n:Nat)(a0:A8)(b:Bool):Option (Int) :=
 cnd (b)
  (some 5)
 <| Fw n a0
  (Fv n a0
  (some 0) n (0,0)) n 0
def D6 (n:Nat)(a0:A8)(b:Bool):Option (Int) :=
 cnd (b)
  (some 2)
 <| jon (D5 n a0) <|
 reg <| cnd (decide (((a0.fStates.map Aj).length:Int)<1))
  (D5 n a0 true)
 <| cnd (decide (256<((a0.fStates.map Aj).length:Int)))
  (D5 n a0 true)
 <| D5 n a0 (decide (2048<((a0.fEdges.map A7).length:Int)))
def Bz (n:Nat)(a0:A8):Option (Int) :=
 jon (D6 n a0) <|
 reg <| cnd (decide (a0.fVars<0))
  (D6 n a0 true)
 <| cnd (decide (16<a0.fVars))
  (D6 n a0 true)
 <| cnd (decide (a0.fScopes<0))
  (D6 n a0 true)
 <| D6 n a0 (decide (64<a0.fScopes))
def Lh (n:Nat)(b:Bool):Option (Bool) :=
 some b
def S9 (n:Nat)(a0:Int):Option (Bool) :=
 jon (Lh n) <|
 reg <| cnd (decide (0<=a0))
  (Lh n (decide (a0<=5)))
 <| Lh n false
structure Bg where
 fKind:Int
 fCount:Int
 fValue:A5
deriving DecidableEq,Inhabited
def G3 (x:Bg):AV:=.agg [aI (x.fKind),aI (x.fCount),aI (x.fValue.fKind),aI (x.fValue.fNum),.str (x.fValue.fText)]
abbrev Za (x:Bg):List AV:=[aI (x.fKind),aI (x.fCount),aI (x.fValue.fKind),aI (x.fValue.fNum),.str (x.fValue.fText)]
def Ie (n:Nat)(b:Bool):Option (Int) :=
 cnd (b)
  (some 3)
 <| some 0
def O7 (n:Nat)(b:Bool):Option (Int) :=
 cnd (b)
  (some 3)
 <| some 0
def O8 (n:Nat)(a0:Bg)(b:Bool):Option (Int) :=
 cnd (b)
  (cnd (!(decide (a0.fValue.fKind=0) && (decide (a0.fValue.fNum=0) && ((a0.fValue.fText.toList == ByteArray.empty.toList) && true))))
    (some 3)
  <| some 0)
 <| cnd (decide (a0.fKind=1))
  (jon (Ie n) <|
  reg <| cnd (!decide (a0.fValue.fKind=0))
   (Ie n true)
  <| cnd (!(a0.fValue.fText.toList == ByteArray.empty.toList))
   (Ie n true)
  <| cnd (decide (a0.fValue.fNum<(aA .i64 (0-(aA .i64 (a0.fCount*1099511627776))))))
   (Ie n true)
  <| Ie n (decide ((aA .i64 (a0.fCount*1099511627776))<a0.fValue.fNum)))
 <| jon (O7 n) <|
 reg <| bnd (Fp n a0.fValue) fun x8 =>
 cnd (!decide (x8=0))
  (O7 n true)
 <| bnd (J2 n a0.fKind a0.fValue) fun x9 =>
 O7 n !(x9)
def O9 (n:Nat)(a0:Bg)(b:Bool):Option (Int) :=
 cnd (b)
  (some 2)
 <| jon (O8 n a0) <|
 reg <| cnd (decide (a0.fCount=0))
  (O8 n a0 true)
 <| O8 n a0 (decide (a0.fKind=0))
def Rz (n:Nat)(a0:Bg):Option (Int) :=
 bnd (S9 n a0.fKind) fun x1 =>
 cnd (!(x1))
  (some 1)
 <| jon (O9 n a0) <|
 reg <| cnd (decide (a0.fCount<0))
  (O9 n a0 true)
 <| O9 n a0 (decide (4096<a0.fCount))
def Rx (n:Nat)(a0:Int)(a1:A5):Option (Int) :=
 bnd (Fp n a1) fun x1 =>
 cnd (!decide (x1=0))
  (some x1)
 <| bnd (J2 n a0 a1) fun x2 =>
 cnd (!(x2))
  (some 9)
 <| some 0
def V5 (n:Nat)(a0:Int)(a1:A5)(a2:A5):Option (A5) :=
 cnd (decide (a0=1))
  (some (⟨0,(aA .i64 (a1.fNum+a2.fNum)),ByteArray.empty⟩))
 <| cnd (decide (a0=2))
  (some (⟨0,(min a1.fNum a2.fNum),ByteArray.empty⟩))
 <| cnd (decide (a0=3))
  (some (⟨0,(max a1.fNum a2.fNum),ByteArray.empty⟩))
 <| cnd (decide (a0=4))
  (some a1)
 <| cnd (decide (a0=5))
  (some a2)
 <| some (⟨0,0,ByteArray.empty⟩)
def Lq (n:Nat)(a0:Bg)(b:Int×Int×ByteArray):Option (Bg×Int) :=
 some (⟨a0.fKind,(aA .i64 (a0.fCount+1)),⟨b.1,b.2.1,b.2.2⟩⟩,0)
def Vp (n:Nat)(a0:Bg)(a1:A5):Option (Bg×Int) :=
 bnd (Rz n a0) fun x1 =>
 cnd (!decide (x1=0))
  (some (⟨0,0,⟨0,0,ByteArray.empty⟩⟩,x1))
 <| bnd (Rx n a0.fKind a1) fun x2 =>
 cnd (!decide (x2=0))
  (some (⟨0,0,⟨0,0,ByteArray.empty⟩⟩,x2))
 <| cnd (decide (a0.fCount=4096))
  (some (⟨0,0,⟨0,0,ByteArray.empty⟩⟩,5))
 <| jon (Lq n a0) <|
 reg <| cnd (decide (a0.fKind=0))
  (Lq n a0 (0,0,ByteArray.empty))
 <| reg <| cnd (decide (0<a0.fCount))
  (bnd (V5 n a0.fKind a0.fValue a1) fun x7 =>
  Lq n a0 (x7.fKind,x7.fNum,x7.fText))
 <| Lq n a0 (a1.fKind,a1.fNum,a1.fText)
def O3 (n:Nat)(a1:A5)(a0:Bg)(b:Bool):Option (A5×Int) :=
 cnd (b)
  (some (a1,0))
 <| some (a0.fValue,0)
def Ro (n:Nat)(a0:Bg)(a1:A5):Option (A5×Int) :=
 bnd (Rz n a0) fun x1 =>
 cnd (!decide (x1=0))
  (some (⟨0,0,ByteArray.empty⟩,x1))
 <| bnd (Rx n a0.fKind a1) fun x2 =>
 cnd (!decide (x2=0))
  (some (⟨0,0,ByteArray.empty⟩,x2))
 <| cnd (decide (a0.fKind=0))
  (some (⟨0,a0.fCount,ByteArray.empty⟩,0))
 <| jon (O3 n a1 a0) <|
 reg <| cnd (decide (a0.fCount=0))
  (O3 n a1 a0 (!decide (a0.fKind=1)))
 <| O3 n a1 a0 false
def Ry (n:Nat)(a2:A5)(a1:(List A5))(d:Int->Int->Int->Int->ByteArray->Option (A5×Int)):Nat->Int×Int×Int×Int×Int×ByteArray->Option (A5×Int)
 |0,_=>none
 |e+1,b =>
  cnd (decide (b.1<((a1.map Aa).length:Int)))
   (idx a1 b.1 fun f =>
   bnd (Vp n (⟨b.2.1,b.2.2.1,⟨b.2.2.2.1,b.2.2.2.2.1,b.2.2.2.2.2⟩⟩:Bg) f) fun c =>
   cnd (!decide (c.2=0))
    (some (⟨0,0,ByteArray.empty⟩,c.2))
   <| (Ry n a2 a1 d e) ((aA .i64 (b.1+1)),c.1.fKind,c.1.fCount,c.1.fValue.fKind,c.1.fValue.fNum,c.1.fValue.fText))
  <| d b.2.1 b.2.2.1 b.2.2.2.1 b.2.2.2.2.1 b.2.2.2.2.2
def Sh (n:Nat)(a0:Int)(a1:(List A5))(a2:A5):Option (A5×Int) :=
 bnd (S9 n a0) fun x1 =>
 cnd (!(x1))
  (some (⟨0,0,ByteArray.empty⟩,1))
 <| cnd (decide (4096<((a1.map Aa).length:Int)))
  (some (⟨0,0,ByteArray.empty⟩,5))
 <| Ry n a2 a1
  (fun b c d e f=>bnd (Ro n (⟨b,c,⟨d,e,f⟩⟩:Bg) a2) fun g =>
 some (g.1,g.2)) n (0,a0,0,0,0,ByteArray.empty)
structure Aw where
 fSource:Int
 fSeq:Int
 fType:Int
 fTime:Int
 fValues:(List A5)
deriving DecidableEq,Inhabited
def Ar (x:Aw):AV:=.agg [aI (x.fSource),aI (x.fSeq),aI (x.fType),aI (x.fTime),.sl 3 (x.fValues.map Aa)]
abbrev z7o (x:Aw):List AV:=[aI (x.fSource),aI (x.fSeq),aI (x.fType),aI (x.fTime),.sl 3 (x.fValues.map Aa)]
structure Bf where
 fVars:(List (List Aw))
deriving DecidableEq,Inhabited
def zbx (x:Bf):AV:=.agg [.sl 1 (List.map (fun q=>AV.sl 5 (List.map Ar q)) (x.fVars))]
def O2 (n:Nat)(a1:Int)(a0:Bf)(b:Bool):Option ((List Aw)) :=
 cnd (b)
  (some [])
 <| idx a0.fVars a1 fun x2 =>
 some x2
def Ol (n:Nat)(a0:Bf)(a1:Int):Option ((List Aw)) :=
 jon (O2 n a1 a0) <|
 reg <| cnd (decide (a1<0))
  (O2 n a1 a0 true)
 <| O2 n a1 a0 (decide ((((List.map (fun q=>AV.sl 5 (List.map Ar q)) (a0.fVars)).length:Nat):Int)<=a1))
def Z6 (n:Nat)(a0:Bf)(a1:Int)(a2:Int)(a3:Aw):Option (Aw×Bool) :=
 cnd (decide (a1=a2))
  (some (a3,true))
 <| bnd (Ol n (⟨a0.fVars⟩:Bf) a1) fun x1 =>
 cnd (decide (((x1.map Ar).length:Int)=0))
  (some (⟨0,0,0,0,[]⟩,false))
 <| idx x1 (aA .i64 (((x1.map Ar).length:Int)-1)) fun x2 =>
 some (x2,true)
def Rb (n:Nat)(a0:Ak)(x2:(List Aw))(c:(List A5)->Option (A5×Int)):Nat->Int×(List A5)->Option (A5×Int)
 |0,_=>none
 |d+1,b =>
  cnd (decide (b.1<((x2.map Ar).length:Int)))
   (idx x2 b.1 fun e =>
   cnd (decide (((e.fValues.map Aa).length:Int)<=a0.fField))
    (some (⟨0,0,ByteArray.empty⟩,6))
   <| idx x2 b.1 fun f =>
   idx f.fValues a0.fField fun g =>
   app b.2 [g] 32 fun h =>
   (Rb n a0 x2 c d) ((aA .i64 (b.1+1)),h))
  <| c b.2
def S8 (n:Nat)(a0:Ak)(a1:Bf)(a2:Int)(a3:Aw):Option (A5×Int) :=
 cnd (decide (a0.fOp=0))
  (some (a0.fValue,0))
 <| cnd (decide (a0.fOp=3))
  (bnd (Ol n (⟨a1.fVars⟩:Bf) a0.fVar) fun x1 =>
  some (⟨0,((x1.map Ar).length:Int),ByteArray.empty⟩,0))
 <| cnd (decide (a0.fOp=4))
  (bnd (Ol n (⟨a1.fVars⟩:Bf) a0.fVar) fun x2 =>
  Rb n a0 x2
   (fun c=>bnd (Sh n a0.fKind c a0.fValue) fun d =>
  some (d.1,d.2)) n (0,[]))
 <| bnd (Z6 n (⟨a1.fVars⟩:Bf) a0.fVar a2 a3) fun b =>
 cnd (!(b.2))
  (some (⟨0,0,ByteArray.empty⟩,10))
 <| cnd (decide (a0.fOp=2))
  (some (⟨0,b.1.fTime,ByteArray.empty⟩,0))
 <| cnd (decide (((b.1.fValues.map Aa).length:Int)<=a0.fField))
  (some (⟨0,0,ByteArray.empty⟩,6))
 <| idx b.1.fValues a0.fField fun f =>
 bnd (Fp n f) fun e =>
 cnd (!decide (e=0))
  (some (⟨0,0,ByteArray.empty⟩,e))
 <| idx b.1.fValues a0.fField fun g =>
 some (g,0)
def Km (n:Nat)(b:Bool):Option (Int) :=
 cnd (b)
  (some 1)
 <| some (-1)
def Hy (n:Nat)(a0:Int)(b:Bool):Option (Int) :=
 cnd (b)
  (some 0)
 <| jon (Km n) <|
 reg <| cnd (decide (a0=10))
  (Km n (decide (a0=10)))
 <| reg <| cnd (decide (a0=11))
  (Km n (decide (a0=11)))
 <| Km n (decide (a0=12))
def V3 (n:Nat)(a0:Int):Option (Int) :=
 jon (Hy n a0) <|
 reg <| cnd (decide (a0=5))
  (Hy n a0 (decide (a0=5)))
 <| reg <| cnd (decide (a0=6))
  (Hy n a0 (decide (a0=6)))
 <| reg <| cnd (decide (a0=7))
  (Hy n a0 (decide (a0=7)))
 <| Hy n a0 (decide (a0=8))
def Gk (n:Nat)(a1:(List Int))(a0:Int)(c:Int)(b:Int->Option (Int))(d:Bool):Option (Int) :=
 cnd (d)
  (some 9)
 <| b (aA .i64 (c+1))
def Ff (n:Nat)(a1:(List Int))(a0:Int)(b:Option (Int)):Nat->Int->Option (Int)
 |0,_=>none
 |d+1,c =>
  cnd (decide (c<((a1.map aI).length:Int)))
   (bnd (V3 n a0) fun e =>
   jon (Gk n a1 a0 c (Ff n a1 a0 b d)) <|
   reg <| cnd (decide (0<=e))
    (idx a1 c fun f =>
    cnd (!decide (f=e))
     (Gk n a1 a0 c (Ff n a1 a0 b d) true)
    <| cnd (decide (a0=9))
     (idx a1 c fun g =>
     idx a1 0 fun h =>
     Gk n a1 a0 c (Ff n a1 a0 b d) (!decide (g=h)))
    <| Gk n a1 a0 c (Ff n a1 a0 b d) false)
   <| cnd (decide (a0=9))
    (idx a1 c fun j =>
    idx a1 0 fun k =>
    Gk n a1 a0 c (Ff n a1 a0 b d) (!decide (j=k)))
   <| Gk n a1 a0 c (Ff n a1 a0 b d) false)
  <| b
def Z0 (n:Nat)(a0:Int)(a1:(List Int)):Option (Int) :=
 Ff n a1 a0
  (some 0) n 0
def D4 (n:Nat)(a0:Bool):Option (A5) :=
 cnd (a0)
  (some (⟨1,1,ByteArray.empty⟩))
 <| some (⟨1,0,ByteArray.empty⟩)
def O5 (n:Nat)(b:Int×Int×ByteArray):Option (A5) :=
 some (⟨b.1,b.2.1,b.2.2⟩)
def O4 (n:Nat)(b:Int×Int×ByteArray):Option (A5) :=
 some (⟨b.1,b.2.1,b.2.2⟩)
def Ou (n:Nat)(a0:Int)(a1:(List A5)):Option (A5) :=
 cnd (decide (a0=5))
  (idx a1 0 fun x1 =>
  idx a1 1 fun x2 =>
  some (⟨0,(aA .i64 (x1.fNum+x2.fNum)),ByteArray.empty⟩))
 <| cnd (decide (a0=6))
  (idx a1 0 fun x3 =>
  idx a1 1 fun x4 =>
  some (⟨0,(aA .i64 (x3.fNum-x4.fNum)),ByteArray.empty⟩))
 <| cnd (decide (a0=7))
  (idx a1 0 fun x5 =>
  idx a1 1 fun x6 =>
  bnd (D4 n (decide (x5.fNum<x6.fNum))) fun x7 =>
  some x7)
 <| cnd (decide (a0=8))
  (idx a1 0 fun x8 =>
  idx a1 1 fun x9 =>
  bnd (D4 n (decide (x8.fNum<=x9.fNum))) fun h =>
  some h)
 <| cnd (decide (a0=9))
  (idx a1 0 fun b =>
  idx a1 1 fun c =>
  bnd (D4 n (decide (b.fKind=c.fKind) && (decide (b.fNum=c.fNum) && ((b.fText.toList == c.fText.toList) && true)))) fun j =>
  some j)
 <| cnd (decide (a0=10))
  (jon (O5 n) <|
  reg <| idx a1 0 fun k =>
  cnd (decide (k.fNum=1))
   (idx a1 1 fun l =>
   bnd (D4 n (decide (l.fNum=1))) fun d =>
   O5 n (d.fKind,d.fNum,d.fText))
  <| bnd (D4 n false) fun e =>
  O5 n (e.fKind,e.fNum,e.fText))
 <| cnd (decide (a0=11))
  (jon (O4 n) <|
  reg <| idx a1 0 fun o =>
  cnd (decide (o.fNum=1))
   (bnd (D4 n true) fun f =>
   O4 n (f.fKind,f.fNum,f.fText))
  <| idx a1 1 fun p =>
  bnd (D4 n (decide (p.fNum=1))) fun g =>
  O4 n (g.fKind,g.fNum,g.fText))
 <| idx a1 0 fun q =>
 bnd (D4 n (!decide (q.fNum=1))) fun s =>
 some s
def Re (n:Nat)(b:Ak->Bf->Int->Aw->Option (A5×Int))(a3:Aw)(a2:Int)(a1:Bf)(a0:Ak)(d:(List A5)->(List Int)->Option (A5×Int)):Nat->Int×(List A5)×(List Int)->Option (A5×Int)
 |0,_=>none
 |f+1,c =>
  cnd (decide (c.1<((a0.fArgs.map idA).length:Int)))
   (idxD Bs a0.fArgs c.1 fun g =>
   bnd (b g (⟨a1.fVars⟩:Bf) a2 a3) fun e =>
   cnd (!decide (e.2=0))
    (some (⟨0,0,ByteArray.empty⟩,e.2))
   <| app c.2.1 [e.1] 32 fun h =>
   app c.2.2 [e.1.fKind] 8 fun j =>
   (Re n b a3 a2 a1 a0 d f) ((aA .i64 (c.1+1)),h,j))
  <| d c.2.1 c.2.2
def M2:Nat->Ak->Bf->Int->Aw->Option (A5×Int)
 |0,_,_,_,_=>none
 |n+1,a0,a1,a2,a3 =>
 cnd (decide (((a0.fArgs.map idA).length:Int)=0))
  (bnd (S8 n a0 (⟨a1.fVars⟩:Bf) a2 a3) fun x1 =>
  some (x1.1,x1.2))
 <| Re n (M2 n) a3 a2 a1 a0
  (fun b c=>bnd (Z0 n a0.fOp c) fun d =>
 cnd (!decide (d=0))
  (some (⟨0,0,ByteArray.empty⟩,d))
 <| bnd (Ou n a0.fOp b) fun e =>
 some (e,0)) n (0,[],[])
def Z7 (n:Nat)(a0:Ak)(a1:Bf)(a2:Int)(a3:Aw):Option (A5×Int) :=
 bnd (Ew n a0) fun x1 =>
 cnd (!decide (x1=0))
  (some (⟨0,0,ByteArray.empty⟩,x1))
 <| bnd (M2 n a0 (⟨a1.fVars⟩:Bf) a2 a3) fun x2 =>
 some (x2.1,x2.2)
def O6 (n:Nat)(b:Bool):Option (Bool) :=
 some b
def Vl (n:Nat)(a0:Ak)(a1:Bf)(a2:Int)(a3:Aw):Option (Bool) :=
 bnd (Z7 n a0 (⟨a1.fVars⟩:Bf) a2 a3) fun x1 =>
 jon (O6 n) <|
 reg <| cnd (decide (x1.2=0))
  (bnd (D4 n true) fun x4 =>
  O6 n (decide (x1.1.fKind=x4.fKind) && (decide (x1.1.fNum=x4.fNum) && ((x1.1.fText.toList == x4.fText.toList) && true))))
 <| O6 n false
structure Dy where
 fTime:Int
 fSource:Int
 fSeq:Int
deriving DecidableEq,Inhabited
def zj6 (x:Dy):AV:=.agg [aI (x.fTime),aI (x.fSource),aI (x.fSeq)]
structure Ds where
 fVar:Int
 fRef:Dy
deriving DecidableEq,Inhabited
def Py (x:Ds):AV:=.agg [aI (x.fVar),aI (x.fRef.fTime),aI (x.fRef.fSource),aI (x.fRef.fSeq)]
structure Q7 where
 fBindings:(List Ds)
deriving DecidableEq,Inhabited
structure G9 where
 fScope:Int
 fTime:Int
deriving DecidableEq,Inhabited
def Q5 (x:G9):AV:=.agg [aI (x.fScope),aI (x.fTime)]
structure Cz where
 fState:Int
 fBindings:(List Ds)
 fStarts:(List G9)
deriving DecidableEq,Inhabited
def Ec (x:Cz):AV:=.agg [aI (x.fState),.sl 4 (x.fBindings.map Py),.sl 2 (x.fStarts.map Q5)]
def Hb (n:Nat)(b:Bool):Option (Bool) :=
 some b
def Mr (n:Nat)(a0:Int):Option (Bool) :=
 jon (Hb n) <|
 reg <| cnd (decide (0<=a0))
  (Hb n (decide (a0<=5)))
 <| Hb n false
def Fy (n:Nat)(b:Bool):Option (Bool) :=
 some b
def Mq (n:Nat)(a0:Int)(a1:A5):Option (Bool) :=
 jon (Fy n) <|
 reg <| cnd (decide (a1.fKind=0))
  (Fy n true)
 <| cnd (!decide (a0=1))
  (cnd (!decide (a0=2))
    (Fy n (!decide (a0=3)))
  <| Fy n false)
 <| Fy n false
def Jj (n:Nat)(a0:Int)(a1:A5):Option (Int) :=
 bnd (F5 n a1) fun x1 =>
 cnd (!decide (x1=0))
  (some x1)
 <| bnd (Mq n a0 a1) fun x2 =>
 cnd (!(x2))
  (some 9)
 <| some 0
def Sj (n:Nat)(a0:Int)(a1:A5):Option (A5) :=
 cnd (decide (a0=0))
  (some (⟨0,0,ByteArray.empty⟩))
 <| some a1
def S6 (n:Nat):Option (A5) :=
 some (⟨0,0,ByteArray.empty⟩)
def S5 (n:Nat)(m0:A5)(m1:A5):Option (A5×A5×A5) :=
 some (⟨0,(aA .i64 (m0.fNum+m1.fNum)),ByteArray.empty⟩,m0,m1)
def S4 (n:Nat)(m0:A5)(m1:A5):Option (A5×A5×A5) :=
 some (⟨0,(min m0.fNum m1.fNum),ByteArray.empty⟩,m0,m1)
def S3 (n:Nat)(m0:A5)(m1:A5):Option (A5×A5×A5) :=
 some (⟨0,(max m0.fNum m1.fNum),ByteArray.empty⟩,m0,m1)
def S2 (n:Nat)(m0:A5):Option (A5×A5) :=
 some (m0,m0)
def S1 (n:Nat)(m0:A5):Option (A5×A5) :=
 some (m0,m0)
def Pf (n:Nat)(a0:Int)(a1:A5)(a2:A5):Option (A5) :=
 natc a0 0
  (bnd (S6 n) fun x1 =>
 some x1)
 <| natc a0 1
  (bndM 15 (S5 n a1 a2) fun x2 =>
 some x2.1)
 <| natc a0 2
  (bndM 15 (S4 n a1 a2) fun x3 =>
 some x3.1)
 <| natc a0 3
  (bndM 15 (S3 n a1 a2) fun x4 =>
 some x4.1)
 <| natc a0 4
  (bndM 15 (S2 n a1) fun x5 =>
 some x5.1)
 <| natc a0 5
  (bndM 15 (S1 n a2) fun x6 =>
 some x6.1)
 <| none
def Sk (n:Nat)(a0:Bg)(a1:Bg):Option (Bg) :=
 cnd (decide (a0.fCount=0))
  (some a1)
 <| cnd (decide (a1.fCount=0))
  (some a0)
 <| bnd (Pf n a0.fKind a0.fValue a1.fValue) fun x1 =>
 some (⟨a0.fKind,(aA .i64 (a0.fCount+a1.fCount)),x1⟩)
def Sr (n:Nat)(a0:Bg)(a1:A5)(a2:Int):Option (Bg) :=
 bnd (Sj n a2 a1) fun x1 =>
 bnd (Sk n a0 (⟨a2,1,x1⟩:Bg)) fun x2 =>
 some x2
def M0 (n:Nat)(e:Int)(a1:(List A5))(c:Int->Int->Int->Int->ByteArray->Option (Bg)):Nat->Int×Int×Int×Int×Int×ByteArray->Option (Bg)
 |0,_=>none
 |f+1,b =>
  cnd (decide (b.1<((a1.map Aa).length:Int)))
   (idx a1 b.1 fun g =>
   bnd (Sr n (⟨b.2.1,b.2.2.1,⟨b.2.2.2.1,b.2.2.2.2.1,b.2.2.2.2.2⟩⟩:Bg) g e) fun d =>
   (M0 n e a1 c f) ((aA .i64 (b.1+1)),d.fKind,d.fCount,d.fValue.fKind,d.fValue.fNum,d.fValue.fText))
  <| c b.2.1 b.2.2.1 b.2.2.2.1 b.2.2.2.2.1 b.2.2.2.2.2
def Po (n:Nat)(a0:Bg)(a1:(List A5))(g:Int):Option (Bg) :=
 M0 n g a1
  (fun b c d e f=>some (⟨b,c,⟨d,e,f⟩⟩)) n (0,a0.fKind,a0.fCount,a0.fValue.fKind,a0.fValue.fNum,a0.fValue.fText)
def J9 (n:Nat)(a0:Bg)(b:Bool):Option (Int) :=
 cnd (b)
  (some 2)
 <| reg <| cnd (decide (a0.fCount=0))
  (cnd (!((decide (a0.fValue.fKind=0) && (decide (a0.fValue.fNum=0) && ((a0.fValue.fText.toList == ByteArray.empty.toList) && true)))))
    (some 3)
  <| some 0)
 <| cnd (decide (a0.fKind=0))
  (cnd (!((decide (a0.fValue.fKind=0) && (decide (a0.fValue.fNum=0) && ((a0.fValue.fText.toList == ByteArray.empty.toList) && true)))))
    (some 3)
  <| some 0)
 <| reg <| cnd (decide (a0.fKind=1))
  (reg <| cnd (decide (a0.fValue.fKind=0))
    (cnd ((a0.fValue.fText.toList == ByteArray.empty.toList))
      (cnd (decide ((aA .i64 (0-(aA .i64 (a0.fCount*1099511627776))))<=a0.fValue.fNum))
        (cnd (!(decide (a0.fValue.fNum<=(aA .i64 (a0.fCount*1099511627776)))))
          (some 3)
        <| some 0)
      <| some 3)
    <| some 3)
  <| some 3)
 <| reg <| bnd (F5 n a0.fValue) fun x3 =>
 cnd (decide (x3=0))
  (bnd (Mq n a0.fKind a0.fValue) fun x4 =>
  cnd (!(x4))
   (some 3)
  <| some 0)
 <| some 3
def Pr (n:Nat)(a0:Bg):Option (Int) :=
 bnd (Mr n a0.fKind) fun x1 =>
 cnd (!(x1))
  (some 1)
 <| jon (J9 n a0) <|
 reg <| cnd (decide (a0.fCount<0))
  (J9 n a0 true)
 <| J9 n a0 (decide (4096<a0.fCount))
def J7 (n:Nat)(a1:A5)(a0:Bg)(b:Bool):Option (A5×Int) :=
 cnd (b)
  (some (a1,0))
 <| some (a0.fValue,0)
def Mg (n:Nat)(a0:Bg)(a1:A5):Option (A5×Int) :=
 bnd (Pr n a0) fun x1 =>
 cnd (!decide (x1=0))
  (some (⟨0,0,ByteArray.empty⟩,x1))
 <| bnd (Jj n a0.fKind a1) fun x2 =>
 cnd (!decide (x2=0))
  (some (⟨0,0,ByteArray.empty⟩,x2))
 <| cnd (decide (a0.fKind=0))
  (some (⟨0,a0.fCount,ByteArray.empty⟩,0))
 <| jon (J7 n a1 a0) <|
 reg <| cnd (decide (a0.fCount=0))
  (J7 n a1 a0 (!decide (a0.fKind=1)))
 <| J7 n a1 a0 false
def Ms (n:Nat)(a2:A5)(a1:(List A5))(a0:Int)(b:Option (A5×Int)):Nat->Int->Option (A5×Int)
 |0,_=>none
 |d+1,c =>
  cnd (decide (c<((a1.map Aa).length:Int)))
   (idx a1 c fun f =>
   bnd (Jj n a0 f) fun e =>
   cnd (!decide (e=0))
    (some (⟨0,0,ByteArray.empty⟩,e))
   <| (Ms n a2 a1 a0 b d) (aA .i64 (c+1)))
  <| b
def N3 (n:Nat)(a0:Int)(a1:(List A5))(a2:A5):Option (A5×Int) :=
 bnd (Mr n a0) fun x1 =>
 cnd (!(x1))
  (some (⟨0,0,ByteArray.empty⟩,1))
 <| cnd (decide (4096<((a1.map Aa).length:Int)))
  (some (⟨0,0,ByteArray.empty⟩,5))
 <| Ms n a2 a1 a0
  (bnd (Po n (⟨a0,0,⟨0,0,ByteArray.empty⟩⟩:Bg) a1 a0) fun c =>
 bnd (Mg n c a2) fun b =>
 some (b.1,b.2)) n 0
def Ta (n:Nat)(a0:Int):Option (Bool) :=
 some (!decide (a0=a0))
def Dt (n:Nat)(a0:Int)(a1:Int):Option (Int) :=
 bnd (Ta n a0) fun x1 =>
 bnd (Ta n a1) fun x2 =>
 cnd (x1)
  (cnd (x2)
    (some 0)
  <| some (-1))
 <| cnd (x2)
  (some 1)
 <| cnd (decide (a0<a1))
  (some (-1))
 <| cnd (decide (a1<a0))
  (some 1)
 <| some 0
def Tb (n:Nat)(a0:(List Int))(b:Option (Int)):Nat->Int->Option (Int)
 |0,_=>none
 |d+1,c =>
  cnd (decide (c<((a0.map aI).length:Int)))
   (idx a0 c fun e =>
   cnd (!decide (e=0))
    (some e)
   <| (Tb n a0 b d) (aA .i64 (c+1)))
  <| b
def K5 (n:Nat)(a0:(List Int)):Option (Int) :=
 Tb n a0
  (some 0) n 0
def zcx (n:Nat)(a0:Dy)(a1:Dy):Option (Int) :=
 bnd (Dt n a0.fTime a1.fTime) fun x1 =>
 bnd (Dt n a0.fSource a1.fSource) fun x2 =>
 bnd (Dt n a0.fSeq a1.fSeq) fun x3 =>
 bnd (K5 n ([x1,x2,x3])) fun x4 =>
 some x4
def z69 (n:Nat)(a0:Ds)(a1:Ds):Option (Int) :=
 bnd (zcx n (⟨a0.fRef.fTime,a0.fRef.fSource,a0.fRef.fSeq⟩:Dy) (⟨a1.fRef.fTime,a1.fRef.fSource,a1.fRef.fSeq⟩:Dy)) fun x1 =>
 bnd (Dt n a0.fVar a1.fVar) fun x2 =>
 bnd (K5 n ([x1,x2])) fun x3 =>
 some x3
def Z1 (n:Nat)(a1:(List Ds))(a0:(List Ds))(c:Option (Int)):Nat->Int->Option (Int)
 |0,_=>none
 |f+1,b =>
  cnd (decide (b<((a0.map Py).length:Int)))
   (idx a0 b fun d =>
   cnd (decide (((a1.map Py).length:Int)<=b))
    (some 1)
   <| idx a1 b fun e =>
   bnd (z69 n (⟨d.fVar,⟨d.fRef.fTime,d.fRef.fSource,d.fRef.fSeq⟩⟩:Ds) (⟨e.fVar,⟨e.fRef.fTime,e.fRef.fSource,e.fRef.fSeq⟩⟩:Ds)) fun g =>
   cnd (!decide (g=0))
    (some g)
   <| (Z1 n a1 a0 c f) (aA .i64 (b+1)))
  <| c
def z55 (n:Nat)(a0:(List Ds))(a1:(List Ds)):Option (Int) :=
 Z1 n a1 a0
  (cnd (decide (((a0.map Py).length:Int)<((a1.map Py).length:Int)))
  (some (-1))
 <| some 0) n 0
def z7s (n:Nat)(a0:Q7)(a1:Q7):Option (Int) :=
 bnd (z55 n a0.fBindings a1.fBindings) fun x1 =>
 some x1
def z7r (n:Nat)(a0:G9)(a1:G9):Option (Int) :=
 bnd (Dt n a0.fScope a1.fScope) fun x1 =>
 bnd (Dt n a0.fTime a1.fTime) fun x2 =>
 bnd (K5 n ([x1,x2])) fun x3 =>
 some x3
def Yv (n:Nat)(a1:(List G9))(a0:(List G9))(c:Option (Int)):Nat->Int->Option (Int)
 |0,_=>none
 |d+1,b =>
  cnd (decide (b<((a0.map Q5).length:Int)))
   (idx a0 b fun f =>
   cnd (decide (((a1.map Q5).length:Int)<=b))
    (some 1)
   <| idx a1 b fun g =>
   bnd (z7r n f g) fun e =>
   cnd (!decide (e=0))
    (some e)
   <| (Yv n a1 a0 c d) (aA .i64 (b+1)))
  <| c
def z29 (n:Nat)(a0:(List G9))(a1:(List G9)):Option (Int) :=
 Yv n a1 a0
  (cnd (decide (((a0.map Q5).length:Int)<((a1.map Q5).length:Int)))
  (some (-1))
 <| some 0) n 0
def zai (n:Nat)(a0:Cz)(a1:Cz):Option (Int) :=
 bnd (Dt n a0.fState a1.fState) fun x1 =>
 bnd (z7s n (⟨a0.fBindings⟩:Q7) (⟨a1.fBindings⟩:Q7)) fun x2 =>
 bnd (z29 n a0.fStarts a1.fStarts) fun x3 =>
 bnd (K5 n ([x1,x2,x3])) fun x4 =>
 some x4
attribute [irreducible] Ic Dq En Gw Im Fj Bp Fk Io Ip Gx Dd Iv Gq D2 Em Fi Jn Jp Jq Hk Fz Bq Jr Js Hm Df J4 H7 H8 Cn D5 D6 Lh Ie O7 O8 O9 Lq O3 O2 Km Hy Gk O5 O4 O6      Hb Fy J9 J7 
noncomputable section
end
end Go.Proofs.YthbogefcfhmpgaaGreat
