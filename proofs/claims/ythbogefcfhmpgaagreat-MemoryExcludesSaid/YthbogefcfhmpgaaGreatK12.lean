/- What some functions compute, over plain values. -/
import Derived.Test.YthbogefcfhmpgaaGreatK11
set_option linter.unusedVariables false
set_option linter.unusedSimpArgs false
set_option maxRecDepth 100000
set_option maxHeartbeats 8000000
namespace Go.Proofs.YthbogefcfhmpgaaGreat
open Go.RowKit
open IntKind renaming wrap->aA
structure A4 where
 fKind:Int
 fNum:Int
 fText:ByteArray
deriving DecidableEq,Inhabited
def A6 (x:A4):AV:=.agg [aI (x.fKind),aI (x.fNum),.str (x.fText)]
abbrev Bu (x:A4):List AV:=[aI (x.fKind),aI (x.fNum),.str (x.fText)]
structure Ah where
 fOp:Int
 fArgs:(List AV)
 fVar:Int
 fField:Int
 fKind:Int
 fValue:A4
deriving Inhabited
def Ag (x:Ah):AV:=.agg [aI (x.fOp),.sl 8 (x.fArgs.map idA),aI (x.fVar),aI (x.fField),aI (x.fKind),aI (x.fValue.fKind),aI (x.fValue.fNum),.str (x.fValue.fText)]
abbrev Es (x:Ah):List AV:=[aI (x.fOp),.sl 8 (x.fArgs.map idA),aI (x.fVar),aI (x.fField),aI (x.fKind),aI (x.fValue.fKind),aI (x.fValue.fNum),.str (x.fValue.fText)]
def Bs:AV->Option Ah
 |.agg [.int .i64 c0,.sl 8 c1,.int .i64 c2,.int .i64 c3,.int .i64 c4,.int .i64 c5,.int .i64 c6,.str c7]=>some ⟨c0,c1,c2,c3,c4,⟨c5,c6,c7⟩⟩
 |_=>none
theorem E6 (a:AV)(y:Ah)(h:Bs a=some y):a=Ag y:=by
 unfold Bs at h
 split at h
 ·injection h with h;subst h;simp [Ag,aI,Mr]
 ·cases h
theorem Pa (y:Ah):Bs (Ag y)=some y:=by simp [Bs,Ag,aI,Mr]
def Hy (n:Nat)(b:Ah->Int->Option (Int))(a1:Int)(a0:Ah)(c:Int×Int)(d:Int->Option (Int))(e:(Int×Int)->Option (Int))(f:Bool):Option (Int) :=
 cnd (f)
  (idxD Bs a0.fArgs c.2 fun g =>
  bnd (b g a1) fun h =>
  e ((aA .i64 (c.1+h)),(aA .i64 (c.2+1))))
 <| d c.1
def Gn (n:Nat)(b:Ah->Int->Option (Int))(a1:Int)(a0:Ah)(c:Int->Option (Int)):Nat->Int×Int->Option (Int)
 |0,_=>none
 |e+1,d =>
  jon (Hy n b a1 a0 d c (Gn n b a1 a0 c e)) <|
  reg <| cnd (decide (d.2<((a0.fArgs.map idA).length:Int)))
   (Hy n b a1 a0 d c (Gn n b a1 a0 c e) (decide (d.1<=a1)))
  <| Hy n b a1 a0 d c (Gn n b a1 a0 c e) false
def Em:Nat->Ah->Int->Option (Int)
 |0,_,_=>none
 |n+1,a0,a1 =>
 Gn n (Em n) a1 a0
  (fun b=>some b) n (1,0)
def Kx (n:Nat)(b:Ah->Option (Int))(a0:Ah)(d:Int->Option (Int)):Nat->Int×Int->Option (Int)
 |0,_=>none
 |e+1,c =>
  cnd (decide (c.2<((a0.fArgs.map idA).length:Int)))
   (idxD Bs a0.fArgs c.2 fun f =>
   bnd (b f) fun g =>
   (Kx n b a0 d e) ((max c.1 g),(aA .i64 (c.2+1))))
  <| d c.1
def El:Nat->Ah->Option (Int)
 |0,_=>none
 |n+1,a0 =>
 Kx n (El n) a0
  (fun b=>some (aA .i64 (b+1))) n (0,0)
def Ej (n:Nat)(b:Bool):Option (Int) :=
 cnd (b)
  (some 2)
 <| some (-1)
def Gm (n:Nat)(a0:Int)(b:Bool):Option (Int) :=
 cnd (b)
  (some 0)
 <| cnd (decide (a0=12))
  (some 1)
 <| jon (Ej n) <|
 reg <| cnd (decide (a0=5))
  (Ej n (decide (a0=5)))
 <| reg <| cnd (decide (a0=6))
  (Ej n (decide (a0=6)))
 <| reg <| cnd (decide (a0=7))
  (Ej n (decide (a0=7)))
 <| reg <| cnd (decide (a0=8))
  (Ej n (decide (a0=8)))
 <| reg <| cnd (decide (a0=9))
  (Ej n (decide (a0=9)))
 <| reg <| cnd (decide (a0=10))
  (Ej n (decide (a0=10)))
 <| Ej n (decide (a0=11))
def Ui (n:Nat)(a0:Int):Option (Int) :=
 jon (Gm n a0) <|
 reg <| cnd (decide (a0=0))
  (Gm n a0 (decide (a0=0)))
 <| reg <| cnd (decide (a0=1))
  (Gm n a0 (decide (a0=1)))
 <| reg <| cnd (decide (a0=2))
  (Gm n a0 (decide (a0=2)))
 <| reg <| cnd (decide (a0=3))
  (Gm n a0 (decide (a0=3)))
 <| Gm n a0 (decide (a0=4))
def L1 (n:Nat)(b:Bool)(c:Bool):Option (Bool×Bool) :=
 some (c,b)
def Nt (n:Nat)(a0:Int)(b:Bool):Option (Bool×Bool) :=
 jon (L1 n b) <|
 reg <| cnd (b)
  (L1 n b true)
 <| cnd (decide (a0=2))
  (L1 n b true)
 <| L1 n b (decide (a0=3))
def Ul (n:Nat)(a0:Int):Option (Bool×Bool) :=
 jon (Nt n a0) <|
 reg <| cnd (decide (a0=1))
  (Nt n a0 true)
 <| Nt n a0 (decide (a0=4))
def Im (n:Nat)(a0:A4):Option (Int) :=
 cnd (decide (a0.fKind<0))
  (some 1)
 <| cnd (decide (2<a0.fKind))
  (some 1)
 <| cnd (decide (a0.fKind=2))
  (cnd (!decide (a0.fNum=0))
    (some 3)
  <| cnd (decide (64<((a0.fText.size:Nat):Int)))
   (some 13)
  <| some 0)
 <| cnd (!(a0.fText.toList == ByteArray.empty.toList))
  (some 3)
 <| cnd (decide (a0.fKind=1))
  (cnd (decide (a0.fNum<0))
    (some 2)
  <| cnd (decide (1<a0.fNum))
   (some 2)
  <| cnd (decide (a0.fNum<(-1099511627776)))
   (some 2)
  <| cnd (decide (1099511627776<a0.fNum))
   (some 2)
  <| some 0)
 <| cnd (decide (a0.fNum<(-1099511627776)))
  (some 2)
 <| cnd (decide (1099511627776<a0.fNum))
  (some 2)
 <| some 0
def Hz (n:Nat)(b:Bool):Option (Bool) :=
 some b
def O7 (n:Nat)(a0:Int)(a1:A4):Option (Bool) :=
 jon (Hz n) <|
 reg <| cnd (decide (a1.fKind=0))
  (Hz n true)
 <| cnd (decide (a0=0))
  (Hz n true)
 <| cnd (decide (a0=4))
  (Hz n true)
 <| Hz n (decide (a0=5))
def Bp (n:Nat)(b:Bool):Option (Int) :=
 cnd (b)
  (some 3)
 <| some 0
def I8 (n:Nat)(a0:Ah)(x2:Bool×Bool)(b:Bool)(c:Bool):Option (Int) :=
 cnd (c)
  (some 9)
 <| jon (Bp n) <|
 reg <| cnd (!(x2.1))
  (cnd (!decide (a0.fVar=0))
    (Bp n true)
  <| cnd (!(x2.2))
   (cnd (!decide (a0.fField=0))
     (Bp n true)
   <| cnd (!(decide (a0.fOp=4)))
    (cnd (!decide (a0.fKind=0))
      (Bp n true)
    <| cnd (!(b))
     (Bp n (!(decide (a0.fValue.fKind=0) && (decide (a0.fValue.fNum=0) && ((a0.fValue.fText.toList == ByteArray.empty.toList) && true)))))
    <| Bp n false)
   <| cnd (!(b))
    (Bp n (!(decide (a0.fValue.fKind=0) && (decide (a0.fValue.fNum=0) && ((a0.fValue.fText.toList == ByteArray.empty.toList) && true)))))
   <| Bp n false)
  <| cnd (!(decide (a0.fOp=4)))
   (cnd (!decide (a0.fKind=0))
     (Bp n true)
   <| cnd (!(b))
    (Bp n (!(decide (a0.fValue.fKind=0) && (decide (a0.fValue.fNum=0) && ((a0.fValue.fText.toList == ByteArray.empty.toList) && true)))))
   <| Bp n false)
  <| cnd (!(b))
   (Bp n (!(decide (a0.fValue.fKind=0) && (decide (a0.fValue.fNum=0) && ((a0.fValue.fText.toList == ByteArray.empty.toList) && true)))))
  <| Bp n false)
 <| cnd (!(x2.2))
  (cnd (!decide (a0.fField=0))
    (Bp n true)
  <| cnd (!(decide (a0.fOp=4)))
   (cnd (!decide (a0.fKind=0))
     (Bp n true)
   <| cnd (!(b))
    (Bp n (!(decide (a0.fValue.fKind=0) && (decide (a0.fValue.fNum=0) && ((a0.fValue.fText.toList == ByteArray.empty.toList) && true)))))
   <| Bp n false)
  <| cnd (!(b))
   (Bp n (!(decide (a0.fValue.fKind=0) && (decide (a0.fValue.fNum=0) && ((a0.fValue.fText.toList == ByteArray.empty.toList) && true)))))
  <| Bp n false)
 <| cnd (!(decide (a0.fOp=4)))
  (cnd (!decide (a0.fKind=0))
    (Bp n true)
  <| cnd (!(b))
   (Bp n (!(decide (a0.fValue.fKind=0) && (decide (a0.fValue.fNum=0) && ((a0.fValue.fText.toList == ByteArray.empty.toList) && true)))))
  <| Bp n false)
 <| cnd (!(b))
  (Bp n (!(decide (a0.fValue.fKind=0) && (decide (a0.fValue.fNum=0) && ((a0.fValue.fText.toList == ByteArray.empty.toList) && true)))))
 <| Bp n false
def Nu (n:Nat)(a0:Ah)(x2:Bool×Bool)(b:Bool)(_:Unit):Option (Int) :=
 jon (I8 n a0 x2 b) <|
 reg <| cnd (decide (a0.fOp=4))
  (bnd (O7 n a0.fKind a0.fValue) fun c =>
  cnd (!(c))
   (I8 n a0 x2 b true)
  <| cnd (decide (a0.fKind=1))
   (I8 n a0 x2 b (!(decide (a0.fValue.fKind=0) && (decide (a0.fValue.fNum=0) && ((a0.fValue.fText.toList == ByteArray.empty.toList) && true)))))
  <| I8 n a0 x2 b false)
 <| I8 n a0 x2 b false
def Nv (n:Nat)(a0:Ah)(x2:Bool×Bool)(b:Bool):Option (Int) :=
 jon (Nu n a0 x2 b) <|
 reg <| cnd (b)
  (bnd (Im n a0.fValue) fun c =>
  cnd (!decide (c=0))
   (some c)
  <| Nu n a0 x2 b ())
 <| Nu n a0 x2 b ()
def L2 (n:Nat)(a0:Ah)(x2:Bool×Bool)(b:Bool):Option (Int) :=
 cnd (b)
  (some 1)
 <| jon (Nv n a0 x2) <|
 reg <| cnd (decide (a0.fOp=4))
  (Nv n a0 x2 true)
 <| Nv n a0 x2 (decide (a0.fOp=0))
def E1 (n:Nat)(a0:Ah)(x2:Bool×Bool)(b:Bool):Option (Int) :=
 cnd (b)
  (some 2)
 <| jon (L2 n a0 x2) <|
 reg <| cnd (decide (a0.fOp=4))
  (cnd (decide (a0.fKind<1))
    (L2 n a0 x2 true)
  <| L2 n a0 x2 (decide (5<a0.fKind)))
 <| L2 n a0 x2 false
def Um (n:Nat)(a0:Ah):Option (Int) :=
 bnd (Ui n a0.fOp) fun x1 =>
 cnd (decide (x1<0))
  (some 1)
 <| cnd (!decide (((a0.fArgs.map idA).length:Int)=x1))
  (some 15)
 <| bnd (Ul n a0.fOp) fun x2 =>
 jon (E1 n a0 x2) <|
 reg <| cnd (x2.1)
  (cnd (decide (a0.fVar<0))
    (E1 n a0 x2 true)
  <| cnd (decide (16<=a0.fVar))
   (E1 n a0 x2 true)
  <| cnd (x2.2)
   (cnd (decide (a0.fField<0))
     (E1 n a0 x2 true)
   <| E1 n a0 x2 (decide (8<=a0.fField)))
  <| E1 n a0 x2 false)
 <| cnd (x2.2)
  (cnd (decide (a0.fField<0))
    (E1 n a0 x2 true)
  <| E1 n a0 x2 (decide (8<=a0.fField)))
 <| E1 n a0 x2 false
def R0 (n:Nat)(b:Ah->Option (Int))(a0:Ah)(c:Option (Int)):Nat->Int->Option (Int)
 |0,_=>none
 |e+1,d =>
  cnd (decide (d<((a0.fArgs.map idA).length:Int)))
   (idxD Bs a0.fArgs d fun g =>
   bnd (b g) fun f =>
   cnd (!decide (f=0))
    (some f)
   <| (R0 n b a0 c e) (aA .i64 (d+1)))
  <| c
def Lh:Nat->Ah->Option (Int)
 |0,_=>none
 |n+1,a0 =>
 bnd (Um n a0) fun x1 =>
 cnd (!decide (x1=0))
  (some x1)
 <| R0 n (Lh n) a0
  (some 0) n 0
def Gy (n:Nat)(a0:Ah):Option (Int) :=
 bnd (Em n a0 64) fun x1 =>
 cnd (decide (64<x1))
  (some 5)
 <| bnd (El n a0) fun x2 =>
 cnd (decide (12<x2))
  (some 12)
 <| bnd (Lh n a0) fun x3 =>
 some x3
structure B0 where
 fScope:Int
 fType:Int
 fVar:Int
 fCond:Ah
deriving Inhabited
def B4 (x:B0):AV:=.agg [aI (x.fScope),aI (x.fType),aI (x.fVar),aI (x.fCond.fOp),.sl 8 (x.fCond.fArgs.map idA),aI (x.fCond.fVar),aI (x.fCond.fField),aI (x.fCond.fKind),aI (x.fCond.fValue.fKind),aI (x.fCond.fValue.fNum),.str (x.fCond.fValue.fText)]
abbrev Pq (x:B0):List AV:=[aI (x.fScope),aI (x.fType),aI (x.fVar),aI (x.fCond.fOp),.sl 8 (x.fCond.fArgs.map idA),aI (x.fCond.fVar),aI (x.fCond.fField),aI (x.fCond.fKind),aI (x.fCond.fValue.fKind),aI (x.fCond.fValue.fNum),.str (x.fCond.fValue.fText)]
structure D1 where
 fGuards:(List B0)
deriving Inhabited
def Al (x:D1):AV:=.agg [.sl 11 (x.fGuards.map B4)]
structure Bz where
 fScope:Int
 fSpan:Int
deriving DecidableEq,Inhabited
def Bi (x:Bz):AV:=.agg [aI (x.fScope),aI (x.fSpan)]
structure Ac where
 fFrom:Int
 fTo:Int
 fVar:Int
 fType:Int
 fCond:Ah
 fOpens:(List Int)
 fCloses:(List Int)
 fChecks:(List AV)
 fLimits:(List Bz)
 fInside:(List Int)
deriving Inhabited
def A5 (x:Ac):AV:=.agg [aI (x.fFrom),aI (x.fTo),aI (x.fVar),aI (x.fType),aI (x.fCond.fOp),.sl 8 (x.fCond.fArgs.map idA),aI (x.fCond.fVar),aI (x.fCond.fField),aI (x.fCond.fKind),aI (x.fCond.fValue.fKind),aI (x.fCond.fValue.fNum),.str (x.fCond.fValue.fText),.sl 1 (x.fOpens.map aI),.sl 1 (x.fCloses.map aI),.sl 8 (x.fChecks.map idA),.sl 2 (x.fLimits.map Bi),.sl 1 (x.fInside.map aI)]
abbrev Cj (x:Ac):List AV:=[aI (x.fFrom),aI (x.fTo),aI (x.fVar),aI (x.fType),aI (x.fCond.fOp),.sl 8 (x.fCond.fArgs.map idA),aI (x.fCond.fVar),aI (x.fCond.fField),aI (x.fCond.fKind),aI (x.fCond.fValue.fKind),aI (x.fCond.fValue.fNum),.str (x.fCond.fValue.fText),.sl 1 (x.fOpens.map aI),.sl 1 (x.fCloses.map aI),.sl 8 (x.fChecks.map idA),.sl 2 (x.fLimits.map Bi),.sl 1 (x.fInside.map aI)]
structure A8 where
 fVars:Int
 fScopes:Int
 fStates:(List D1)
 fEdges:(List Ac)
deriving Inhabited
def Br (x:A8):AV:=.agg [aI (x.fVars),aI (x.fScopes),.sl 1 (x.fStates.map Al),.sl 17 (x.fEdges.map A5)]
abbrev B1 (x:A8):List AV:=[aI (x.fVars),aI (x.fScopes),.sl 1 (x.fStates.map Al),.sl 17 (x.fEdges.map A5)]
def O1 (n:Nat)(b:Bool):Option (Bool) :=
 some b
def Cr (n:Nat)(a0:Int)(a1:Int):Option (Bool) :=
 jon (O1 n) <|
 reg <| cnd (decide (a0<0))
  (O1 n true)
 <| O1 n (decide (a1<a0))
def Qt (n:Nat)(a1:(List B0))(a0:A8)(c:Int)(b:Option (Int)):Nat->Int->Option (Int)
 |0,_=>none
 |e+1,d =>
  cnd (decide (d<c))
   (idx a1 d fun f =>
   idx a1 c fun g =>
   cnd (decide (f.fScope=g.fScope))
    (some 7)
   <| (Qt n a1 a0 c b e) (aA .i64 (d+1)))
  <| b
def Ko (n:Nat)(a1:(List B0))(a0:A8)(b:Int)(c:Int->Option (Int))(e:Bool):Option (Int) :=
 cnd (e)
  (some 2)
 <| Qt n a1 a0 b
  (idx a1 b fun f =>
 bnd (Gy n f.fCond) fun d =>
 cnd (!decide (d=0))
  (some d)
 <| c (aA .i64 (b+1))) n 0
def Gj (n:Nat)(a1:(List B0))(a0:A8)(b:Option (Int)):Nat->Int->Option (Int)
 |0,_=>none
 |d+1,c =>
  cnd (decide (c<((a1.map B4).length:Int)))
   (jon (Ko n a1 a0 c (Gj n a1 a0 b d)) <|
   reg <| idx a1 c fun e =>
   bnd (Cr n e.fScope (aA .i64 (a0.fScopes-1))) fun f =>
   cnd (f)
    (Ko n a1 a0 c (Gj n a1 a0 b d) true)
   <| idx a1 c fun g =>
   bnd (Cr n g.fType 15) fun h =>
   cnd (h)
    (Ko n a1 a0 c (Gj n a1 a0 b d) true)
   <| idx a1 c fun j =>
   bnd (Cr n j.fVar (aA .i64 (a0.fVars-1))) fun k =>
   Ko n a1 a0 c (Gj n a1 a0 b d) k)
  <| b
def Ub (n:Nat)(a0:A8)(a1:(List B0)):Option (Int) :=
 cnd (decide (64<((a1.map B4).length:Int)))
  (some 5)
 <| Gj n a1 a0
  (some 0) n 0
def Qs (n:Nat)(a1:Int)(a0:(List Int))(c:Int)(b:Option (Int)):Nat->Int->Option (Int)
 |0,_=>none
 |e+1,d =>
  cnd (decide (d<c))
   (idx a0 d fun f =>
   idx a0 c fun g =>
   cnd (decide (f=g))
    (some 7)
   <| (Qs n a1 a0 c b e) (aA .i64 (d+1)))
  <| b
def Ng (n:Nat)(a1:Int)(a0:(List Int))(c:Option (Int)):Nat->Int->Option (Int)
 |0,_=>none
 |d+1,b =>
  cnd (decide (b<((a0.map aI).length:Int)))
   (idx a0 b fun e =>
   bnd (Cr n e (aA .i64 (a1-1))) fun f =>
   cnd (f)
    (some 2)
   <| Qs n a1 a0 b
    ((Ng n a1 a0 c d) (aA .i64 (b+1))) n 0)
  <| c
def Re (n:Nat)(a0:(List Int))(a1:Int):Option (Int) :=
 Ng n a1 a0
  (some 0) n 0
def Nj (n:Nat)(a1:Ac)(b:Option (Int)):Nat->Int->Option (Int)
 |0,_=>none
 |d+1,c =>
  cnd (decide (c<((a1.fLimits.map Bi).length:Int)))
   (idx a1.fLimits c fun e =>
   bnd (Cr n e.fSpan 1099511627776) fun f =>
   cnd (f)
    (some 2)
   <| (Nj n a1 b d) (aA .i64 (c+1)))
  <| b
def Hw (n:Nat)(a1:Ac)(a0:A8)(b:(List Int))(c:Option (Int)):Nat->Int->Option (Int)
 |0,_=>none
 |f+1,d =>
  cnd (decide (d<4))
   (idx ([a1.fOpens,a1.fCloses,a1.fInside,b]:List (List Int)) d fun g =>
   bnd (Re n g a0.fScopes) fun e =>
   cnd (!decide (e=0))
    (some e)
   <| (Hw n a1 a0 b c f) (aA .i64 (d+1)))
  <| c
def Qx (n:Nat)(a1:Ac)(a0:A8)(c:(List Int)->Option (Int)):Nat->Int×(List Int)->Option (Int)
 |0,_=>none
 |d+1,b =>
  cnd (decide (b.1<((a1.fLimits.map Bi).length:Int)))
   (idx a1.fLimits b.1 fun e =>
   app b.2 [e.fScope] 8 fun f =>
   (Qx n a1 a0 c d) ((aA .i64 (b.1+1)),f))
  <| c b.2
def Rq (n:Nat)(a0:A8)(a1:Ac):Option (Int) :=
 Qx n a1 a0
  (fun b=>frz 7026 <| reg <| Hw n a1 a0 b
  (Nj n a1
  (some 0) n 0) n 0) n (0,[])
def R2 (n:Nat)(a1:Ac)(a0:A8)(b:Option (Int)):Nat->Int->Option (Int)
 |0,_=>none
 |d+1,c =>
  cnd (decide (c<((a1.fChecks.map idA).length:Int)))
   (idxD Bs a1.fChecks c fun f =>
   bnd (Gy n f) fun e =>
   cnd (!decide (e=0))
    (some e)
   <| (R2 n a1 a0 b d) (aA .i64 (c+1)))
  <| b
def Dc (n:Nat)(a2:Int)(a1:Ac)(a0:A8)(b:Bool):Option (Int) :=
 cnd (b)
  (some 2)
 <| cnd (decide (a1.fFrom<a2))
  (some 14)
 <| bnd (Gy n a1.fCond) fun x8 =>
 cnd (!decide (x8=0))
  (some x8)
 <| cnd (decide (64<((a1.fChecks.map idA).length:Int)))
  (some 5)
 <| R2 n a1 a0
  (bnd (Rq n a0 a1) fun c =>
 some c) n 0
def Uk (n:Nat)(a0:A8)(a1:Ac)(a2:Int):Option (Int) :=
 jon (Dc n a2 a1 a0) <|
 reg <| bnd (Cr n a1.fFrom (aA .i64 (((a0.fStates.map Al).length:Int)-1))) fun b =>
 cnd (b)
  (Dc n a2 a1 a0 true)
 <| cnd (!decide (a1.fTo=(-1)))
  (bnd (Cr n a1.fTo (aA .i64 (((a0.fStates.map Al).length:Int)-1))) fun c =>
  cnd (c)
   (Dc n a2 a1 a0 true)
  <| bnd (Cr n a1.fVar (aA .i64 (a0.fVars-1))) fun d =>
  cnd (d)
   (Dc n a2 a1 a0 true)
  <| bnd (Cr n a1.fType 15) fun e =>
  Dc n a2 a1 a0 e)
 <| bnd (Cr n a1.fVar (aA .i64 (a0.fVars-1))) fun f =>
 cnd (f)
  (Dc n a2 a1 a0 true)
 <| bnd (Cr n a1.fType 15) fun g =>
 Dc n a2 a1 a0 g
def Qy (n:Nat)(a0:A8)(c:Option (Int)):Nat->Int×Int->Option (Int)
 |0,_=>none
 |d+1,b =>
  cnd (decide (b.2<((a0.fEdges.map A5).length:Int)))
   (idx a0.fEdges b.2 fun f =>
   bnd (Uk n a0 f b.1) fun e =>
   cnd (!decide (e=0))
    (some e)
   <| idx a0.fEdges b.2 fun g =>
   (Qy n a0 c d) (g.fFrom,(aA .i64 (b.2+1))))
  <| c
def Qz (n:Nat)(a0:A8)(b:Option (Int)):Nat->Int->Option (Int)
 |0,_=>none
 |d+1,c =>
  cnd (decide (c<((a0.fStates.map Al).length:Int)))
   (idx a0.fStates c fun f =>
   bnd (Ub n a0 f.fGuards) fun e =>
   cnd (!decide (e=0))
    (some e)
   <| (Qz n a0 b d) (aA .i64 (c+1)))
  <| b
def Gl (n:Nat)(a0:A8)(b:Bool):Option (Int) :=
 cnd (b)
  (some 5)
 <| Qz n a0
  (Qy n a0
  (some 0) n (0,0)) n 0
def Hx (n:Nat)(a0:A8)(b:Bool):Option (Int) :=
 cnd (b)
  (some 2)
 <| jon (Gl n a0) <|
 reg <| cnd (decide (((a0.fStates.map Al).length:Int)<1))
  (Gl n a0 true)
 <| cnd (decide (256<((a0.fStates.map Al).length:Int)))
  (Gl n a0 true)
 <| Gl n a0 (decide (2048<((a0.fEdges.map A5).length:Int)))
def Uh (n:Nat)(a0:A8):Option (Int) :=
 jon (Hx n a0) <|
 reg <| bnd (Cr n a0.fVars 16) fun b =>
 cnd (b)
  (Hx n a0 true)
 <| bnd (Cr n a0.fScopes 64) fun c =>
 Hx n a0 c
def Mb (n:Nat)(b:Ah->Option (Int×Int))(a0:Ah)(d:Int->Int->Option (Int×Int)):Nat->Int×Int×Int->Option (Int×Int)
 |0,_=>none
 |e+1,c =>
  cnd (decide (c.2.2<((a0.fArgs.map idA).length:Int)))
   (idxD Bs a0.fArgs c.2.2 fun g =>
   bnd (b g) fun f =>
   (Mb n b a0 d e) ((aA .i64 (c.1+f.1)),(max c.2.1 f.2),(aA .i64 (c.2.2+1))))
  <| d c.1 c.2.1
def G4:Nat->Ah->Option (Int×Int)
 |0,_=>none
 |n+1,a0 =>
 Mb n (G4 n) a0
  (fun b c=>some (b,(aA .i64 (c+1)))) n (1,0,0)
def Jg (n:Nat)(a0:Int)(b:Bool):Option (Int×Bool) :=
 cnd (b)
  (some (0,false))
 <| cnd (decide (a0<5))
  (some (0,true))
 <| cnd (decide (a0=12))
  (some (1,true))
 <| some (2,true)
def Pm (n:Nat)(a0:Int):Option (Int×Bool) :=
 jon (Jg n a0) <|
 reg <| cnd (decide (a0<0))
  (Jg n a0 true)
 <| Jg n a0 (decide (12<a0))
def Jj (n:Nat)(b:Bool):Option (Bool×Bool) :=
 cnd (b)
  (some (true,false))
 <| some (false,false)
def Jk (n:Nat)(a0:Int)(b:Bool):Option (Bool×Bool) :=
 cnd (b)
  (some (true,true))
 <| jon (Jj n) <|
 reg <| cnd (decide (a0=2))
  (Jj n (decide (a0=2)))
 <| Jj n (decide (a0=3))
def Me (n:Nat)(a0:Int):Option (Bool×Bool) :=
 jon (Jk n a0) <|
 reg <| cnd (decide (a0=1))
  (Jk n a0 (decide (a0=1)))
 <| Jk n a0 (decide (a0=4))
def Jn (n:Nat)(a0:A4):Option (Int) :=
 cnd (decide (a0.fKind=0))
  (cnd (decide (a0.fNum<(-1099511627776)))
    (some 2)
  <| cnd (decide (1099511627776<a0.fNum))
   (some 2)
  <| cnd (decide (a0.fKind=1))
   (cnd (!decide (a0.fNum=0))
     (cnd (!decide (a0.fNum=1))
       (some 2)
     <| cnd (decide (64<((a0.fText.size:Nat):Int)))
      (some 13)
     <| some 0)
   <| cnd (decide (64<((a0.fText.size:Nat):Int)))
    (some 13)
   <| some 0)
  <| cnd (decide (64<((a0.fText.size:Nat):Int)))
   (some 13)
  <| some 0)
 <| cnd (decide (a0.fKind=1))
  (cnd (!decide (a0.fNum=0))
    (cnd (!decide (a0.fNum=1))
      (some 2)
    <| cnd (decide (64<((a0.fText.size:Nat):Int)))
     (some 13)
    <| some 0)
  <| cnd (decide (64<((a0.fText.size:Nat):Int)))
   (some 13)
  <| some 0)
 <| cnd (decide (64<((a0.fText.size:Nat):Int)))
  (some 13)
 <| some 0
def Er (n:Nat)(a0:A4):Option (Int) :=
 cnd (decide (a0.fKind=0))
  (cnd (decide (a0.fKind=0))
    (cnd (!(a0.fText.toList == ByteArray.empty.toList))
      (some 3)
    <| bnd (Jn n a0) fun x1 =>
    some x1)
  <| cnd (decide (a0.fKind=2))
   (cnd (!decide (a0.fNum=0))
     (some 3)
   <| bnd (Jn n a0) fun x2 =>
   some x2)
  <| some 1)
 <| cnd (decide (a0.fKind=1))
  (cnd (!(a0.fText.toList == ByteArray.empty.toList))
    (some 3)
  <| bnd (Jn n a0) fun x3 =>
  some x3)
 <| cnd (decide (a0.fKind=2))
  (cnd (!decide (a0.fNum=0))
    (some 3)
  <| bnd (Jn n a0) fun x4 =>
  some x4)
 <| some 1
def Hc (n:Nat)(b:Bool):Option (Bool) :=
 some b
def Pk (n:Nat)(a0:Int)(a1:A4):Option (Bool) :=
 jon (Hc n) <|
 reg <| cnd (decide (a1.fKind=0))
  (Hc n true)
 <| cnd (decide (a0=4))
  (Hc n true)
 <| Hc n (decide (a0=5))
def Fj (n:Nat)(b:Bool):Option (Int) :=
 cnd (b)
  (some 9)
 <| some 0
def P6 (n:Nat)(a0:Ah):Option (Int) :=
 bnd (Er n a0.fValue) fun x1 =>
 cnd (!decide (x1=0))
  (some x1)
 <| jon (Fj n) <|
 reg <| cnd (decide (a0.fOp=4))
  (bnd (Pk n a0.fKind a0.fValue) fun x4 =>
  cnd (!(x4))
   (Fj n true)
  <| cnd (decide (a0.fKind=1))
   (Fj n (!(decide (a0.fValue.fKind=0) && (decide (a0.fValue.fNum=0) && ((a0.fValue.fText.toList == ByteArray.empty.toList) && true)))))
  <| Fj n false)
 <| Fj n false
def Bl (n:Nat)(b:Bool):Option (Int) :=
 cnd (b)
  (some 3)
 <| some 0
def Jl (n:Nat)(a0:Ah)(x2:Bool×Bool)(b:Bool)(_:Unit):Option (Int) :=
 jon (Bl n) <|
 reg <| cnd (!(x2.1))
  (cnd (!decide (a0.fVar=0))
    (Bl n true)
  <| cnd (!(x2.2))
   (cnd (!decide (a0.fField=0))
     (Bl n true)
   <| cnd (!(decide (a0.fOp=4)))
    (cnd (!decide (a0.fKind=0))
      (Bl n true)
    <| cnd (!(b))
     (Bl n (!(decide (a0.fValue.fKind=0) && (decide (a0.fValue.fNum=0) && ((a0.fValue.fText.toList == ByteArray.empty.toList) && true)))))
    <| Bl n false)
   <| cnd (!(b))
    (Bl n (!(decide (a0.fValue.fKind=0) && (decide (a0.fValue.fNum=0) && ((a0.fValue.fText.toList == ByteArray.empty.toList) && true)))))
   <| Bl n false)
  <| cnd (!(decide (a0.fOp=4)))
   (cnd (!decide (a0.fKind=0))
     (Bl n true)
   <| cnd (!(b))
    (Bl n (!(decide (a0.fValue.fKind=0) && (decide (a0.fValue.fNum=0) && ((a0.fValue.fText.toList == ByteArray.empty.toList) && true)))))
   <| Bl n false)
  <| cnd (!(b))
   (Bl n (!(decide (a0.fValue.fKind=0) && (decide (a0.fValue.fNum=0) && ((a0.fValue.fText.toList == ByteArray.empty.toList) && true)))))
  <| Bl n false)
 <| cnd (!(x2.2))
  (cnd (!decide (a0.fField=0))
    (Bl n true)
  <| cnd (!(decide (a0.fOp=4)))
   (cnd (!decide (a0.fKind=0))
     (Bl n true)
   <| cnd (!(b))
    (Bl n (!(decide (a0.fValue.fKind=0) && (decide (a0.fValue.fNum=0) && ((a0.fValue.fText.toList == ByteArray.empty.toList) && true)))))
   <| Bl n false)
  <| cnd (!(b))
   (Bl n (!(decide (a0.fValue.fKind=0) && (decide (a0.fValue.fNum=0) && ((a0.fValue.fText.toList == ByteArray.empty.toList) && true)))))
  <| Bl n false)
 <| cnd (!(decide (a0.fOp=4)))
  (cnd (!decide (a0.fKind=0))
    (Bl n true)
  <| cnd (!(b))
   (Bl n (!(decide (a0.fValue.fKind=0) && (decide (a0.fValue.fNum=0) && ((a0.fValue.fText.toList == ByteArray.empty.toList) && true)))))
  <| Bl n false)
 <| cnd (!(b))
  (Bl n (!(decide (a0.fValue.fKind=0) && (decide (a0.fValue.fNum=0) && ((a0.fValue.fText.toList == ByteArray.empty.toList) && true)))))
 <| Bl n false
def Jm (n:Nat)(a0:Ah)(x2:Bool×Bool)(b:Bool):Option (Int) :=
 jon (Jl n a0 x2 b) <|
 reg <| cnd (b)
  (bnd (P6 n a0) fun x8 =>
  cnd (!decide (x8=0))
   (some x8)
  <| Jl n a0 x2 b ())
 <| Jl n a0 x2 b ()
def Hd (n:Nat)(a0:Ah)(x2:Bool×Bool)(b:Bool):Option (Int) :=
 cnd (b)
  (some 1)
 <| jon (Jm n a0 x2) <|
 reg <| cnd (decide (a0.fOp=4))
  (Jm n a0 x2 true)
 <| Jm n a0 x2 (decide (a0.fOp=0))
def D9 (n:Nat)(a0:Ah)(x2:Bool×Bool)(b:Bool):Option (Int) :=
 cnd (b)
  (some 2)
 <| jon (Hd n a0 x2) <|
 reg <| cnd (decide (a0.fOp=4))
  (cnd (decide (a0.fKind<1))
    (Hd n a0 x2 true)
  <| Hd n a0 x2 (decide (5<a0.fKind)))
 <| Hd n a0 x2 false
def Pv (n:Nat)(a0:Ah):Option (Int) :=
 bnd (Pm n a0.fOp) fun x1 =>
 cnd (!(x1.2))
  (some 1)
 <| cnd (!decide (((a0.fArgs.map idA).length:Int)=x1.1))
  (some 15)
 <| bnd (Me n a0.fOp) fun x2 =>
 jon (D9 n a0 x2) <|
 reg <| cnd (x2.1)
  (cnd (decide (a0.fVar<0))
    (D9 n a0 x2 true)
  <| cnd (decide (16<=a0.fVar))
   (D9 n a0 x2 true)
  <| cnd (x2.2)
   (cnd (decide (a0.fField<0))
     (D9 n a0 x2 true)
   <| D9 n a0 x2 (decide (8<=a0.fField)))
  <| D9 n a0 x2 false)
 <| cnd (x2.2)
  (cnd (decide (a0.fField<0))
    (D9 n a0 x2 true)
  <| D9 n a0 x2 (decide (8<=a0.fField)))
 <| D9 n a0 x2 false
def M7 (n:Nat)(b:Ah->Option (Int))(a0:Ah)(c:Option (Int)):Nat->Int->Option (Int)
 |0,_=>none
 |e+1,d =>
  cnd (decide (d<((a0.fArgs.map idA).length:Int)))
   (idxD Bs a0.fArgs d fun g =>
   bnd (b g) fun f =>
   cnd (!decide (f=0))
    (some f)
   <| (M7 n b a0 c e) (aA .i64 (d+1)))
  <| c
def G1:Nat->Ah->Option (Int)
 |0,_=>none
 |n+1,a0 =>
 bnd (Pv n a0) fun x1 =>
 cnd (!decide (x1=0))
  (some x1)
 <| M7 n (G1 n) a0
  (some 0) n 0
def G2 (n:Nat)(a0:Ah):Option (Int) :=
 bnd (G4 n a0) fun x1 =>
 cnd (decide (64<x1.1))
  (some 5)
 <| cnd (decide (12<x1.2))
  (some 12)
 <| bnd (G1 n a0) fun x2 =>
 some x2
def Iq (n:Nat)(b:Bool):Option (Bool) :=
 some b
def De (n:Nat)(a0:Int)(a1:Int):Option (Bool) :=
 jon (Iq n) <|
 reg <| cnd (decide (0<=a0))
  (Iq n (decide (a0<a1)))
 <| Iq n false
def Lq (n:Nat)(a0:B0)(a1:B0):Option (Bool) :=
 some (decide (a0.fScope=a1.fScope))
def Li (n:Nat)(d:B0)(a0:(List B0))(c:Option (Int)):Nat->Int->Option (Int)
 |0,_=>none
 |e+1,b =>
  cnd (decide (b<((a0.map B4).length:Int)))
   (idx a0 b fun f =>
   bnd (Lq n f d) fun g =>
   cnd (g)
    (some b)
   <| (Li n d a0 c e) (aA .i64 (b+1)))
  <| c
def Ow (n:Nat)(a0:(List B0))(b:B0):Option (Int) :=
 Li n b a0
  (some (-1)) n 0
def Lj (n:Nat)(a0:(List B0))(b:B0):Option (Bool) :=
 bnd (Ow n a0 b) fun x1 =>
 some (decide (0<=x1))
def H0 (n:Nat)(a1:(List B0))(a0:A8)(b:Int)(c:Int->Option (Int))(d:B0)(f:Bool):Option (Int) :=
 cnd (f)
  (some 2)
 <| sls a1 0 b fun g =>
 bnd (Lj n g d) fun h =>
 cnd (h)
  (some 7)
 <| bnd (G2 n d.fCond) fun e =>
 cnd (!decide (e=0))
  (some e)
 <| c (aA .i64 (b+1))
def En (n:Nat)(a1:(List B0))(a0:A8)(b:Option (Int)):Nat->Int->Option (Int)
 |0,_=>none
 |d+1,c =>
  cnd (decide (c<((a1.map B4).length:Int)))
   (idx a1 c fun e =>
   jon (H0 n a1 a0 c (En n a1 a0 b d) e) <|
   reg <| bnd (De n e.fScope a0.fScopes) fun f =>
   cnd (!(f))
    (H0 n a1 a0 c (En n a1 a0 b d) e true)
   <| bnd (De n e.fType 16) fun g =>
   cnd (!(g))
    (H0 n a1 a0 c (En n a1 a0 b d) e true)
   <| bnd (De n e.fVar a0.fVars) fun h =>
   H0 n a1 a0 c (En n a1 a0 b d) e !(h))
  <| b
def P0 (n:Nat)(a0:A8)(a1:(List B0)):Option (Int) :=
 cnd (decide (64<((a1.map B4).length:Int)))
  (some 5)
 <| En n a1 a0
  (some 0) n 0
def Ld (n:Nat)(a0:(List Bz))(c:(List Int)->Option ((List Int))):Nat->Int×(List Int)->Option ((List Int))
 |0,_=>none
 |d+1,b =>
  cnd (decide (b.1<((a0.map Bi).length:Int)))
   (idx a0 b.1 fun e =>
   app b.2 [e.fScope] 8 fun f =>
   (Ld n a0 c d) ((aA .i64 (b.1+1)),f))
  <| c b.2
def Lu (n:Nat)(a0:(List Bz)):Option ((List Int)) :=
 Ld n a0
  (fun b=>some b) n (0,[])
def Lx (n:Nat)(a1:Int)(a0:(List Int))(c:Option (Int)):Nat->Int->Option (Int)
 |0,_=>none
 |d+1,b =>
  cnd (decide (b<((a0.map aI).length:Int)))
   (idx a0 b fun e =>
   cnd (decide (a1=e))
    (some b)
   <| (Lx n a1 a0 c d) (aA .i64 (b+1)))
  <| c
def Si (n:Nat)(a0:(List Int))(a1:Int):Option (Int) :=
 Lx n a1 a0
  (some (-1)) n 0
def E4 (n:Nat)(a0:(List Int))(a1:Int):Option (Bool) :=
 bnd (Si n a0 a1) fun x1 =>
 some (decide (0<=x1))
def Fd (n:Nat)(a1:(List (List Int)))(a0:A8)(g:Int)(d:(List Int))(c:Option (Int)):Nat->Int->Option (Int)
 |0,_=>none
 |e+1,b =>
  cnd (decide (b<((d.map aI).length:Int)))
   (idx d b fun f =>
   bnd (De n f a0.fScopes) fun h =>
   cnd (!(h))
    (some 2)
   <| sls d 0 b fun j =>
   bnd (E4 n j f) fun k =>
   cnd (k)
    (some 7)
   <| (Fd n a1 a0 g d c e) (aA .i64 (b+1)))
  <| c
def Gz (n:Nat)(a1:(List (List Int)))(a0:A8)(c:Option (Int)):Nat->Int->Option (Int)
 |0,_=>none
 |d+1,b =>
  cnd (decide (b<(((List.map (fun q=>AV.sl 1 (List.map aI q)) (a1)).length:Nat):Int)))
   (idx a1 b fun e =>
   Fd n a1 a0 b e
    ((Gz n a1 a0 c d) (aA .i64 (b+1))) n 0)
  <| c
def Oz (n:Nat)(a0:A8)(a1:(List (List Int))):Option (Int) :=
 Gz n a1 a0
  (some 0) n 0
def H3 (n:Nat)(b:Bool):Option (Bool) :=
 some b
def H8 (n:Nat)(a0:Bz):Option (Bool) :=
 jon (H3 n) <|
 reg <| cnd (decide (a0.fSpan<0))
  (H3 n true)
 <| H3 n (decide (1099511627776<a0.fSpan))
def Kq (n:Nat)(a0:(List Bz))(c:Option (Int)):Nat->Int->Option (Int)
 |0,_=>none
 |d+1,b =>
  cnd (decide (b<((a0.map Bi).length:Int)))
   (idx a0 b fun e =>
   bnd (H8 n e) fun f =>
   cnd (f)
    (some b)
   <| (Kq n a0 c d) (aA .i64 (b+1)))
  <| c
def O3 (n:Nat)(a0:(List Bz)):Option (Int) :=
 Kq n a0
  (some (-1)) n 0
def Kr (n:Nat)(a0:(List Bz)):Option (Bool) :=
 bnd (O3 n a0) fun x1 =>
 some (decide (0<=x1))
def Fk (n:Nat)(a1:Ac)(a0:A8)(b:Option (Int)):Nat->Int->Option (Int)
 |0,_=>none
 |d+1,c =>
  cnd (decide (c<((a1.fChecks.map idA).length:Int)))
   (idxD Bs a1.fChecks c fun f =>
   bnd (G2 n f) fun e =>
   cnd (!decide (e=0))
    (some e)
   <| (Fk n a1 a0 b d) (aA .i64 (c+1)))
  <| b
def Ci (n:Nat)(a2:Int)(a1:Ac)(a0:A8)(c:Bool):Option (Int) :=
 cnd (c)
  (some 2)
 <| cnd (decide (a1.fFrom<a2))
  (some 14)
 <| bnd (G2 n a1.fCond) fun x5 =>
 cnd (!decide (x5=0))
  (some x5)
 <| cnd (decide (64<((a1.fChecks.map idA).length:Int)))
  (some 5)
 <| Fk n a1 a0
  (bnd (Lu n a1.fLimits) fun d =>
 bnd (Oz n a0 ([a1.fOpens,a1.fCloses,a1.fInside,d])) fun b =>
 cnd (!decide (b=0))
  (some b)
 <| bnd (Kr n a1.fLimits) fun e =>
 cnd (e)
  (some 2)
 <| some 0) n 0
def Hb (n:Nat)(a0:A8)(a1:Ac)(a2:Int):Option (Int) :=
 jon (Ci n a2 a1 a0) <|
 reg <| bnd (De n a1.fFrom ((a0.fStates.map Al).length:Int)) fun b =>
 cnd (!(b))
  (Ci n a2 a1 a0 true)
 <| cnd (decide (a1.fTo<(-1)))
  (Ci n a2 a1 a0 true)
 <| cnd (decide (((a0.fStates.map Al).length:Int)<=a1.fTo))
  (Ci n a2 a1 a0 true)
 <| bnd (De n a1.fVar a0.fVars) fun c =>
 cnd (!(c))
  (Ci n a2 a1 a0 true)
 <| bnd (De n a1.fType 16) fun d =>
 Ci n a2 a1 a0 !(d)
def Fg (n:Nat)(a0:A8)(c:Option (Int)):Nat->Int×Int->Option (Int)
 |0,_=>none
 |d+1,b =>
  cnd (decide (b.2<((a0.fEdges.map A5).length:Int)))
   (idx a0.fEdges b.2 fun e =>
   bnd (Hb n a0 e b.1) fun f =>
   cnd (!decide (f=0))
    (some f)
   <| (Fg n a0 c d) (e.fFrom,(aA .i64 (b.2+1))))
  <| c
def Fh (n:Nat)(a0:A8)(b:Option (Int)):Nat->Int->Option (Int)
 |0,_=>none
 |d+1,c =>
  cnd (decide (c<((a0.fStates.map Al).length:Int)))
   (idx a0.fStates c fun f =>
   bnd (P0 n a0 f.fGuards) fun e =>
   cnd (!decide (e=0))
    (some e)
   <| (Fh n a0 b d) (aA .i64 (c+1)))
  <| b
def Cy (n:Nat)(a0:A8)(b:Bool):Option (Int) :=
 cnd (b)
  (some 5)
 <| Fh n a0
  (Fg n a0
  (some 0) n (0,0)) n 0
def Cz (n:Nat)(a0:A8)(b:Bool):Option (Int) :=
 cnd (b)
  (some 2)
 <| jon (Cy n a0) <|
 reg <| cnd (decide (((a0.fStates.map Al).length:Int)<1))
  (Cy n a0 true)
 <| cnd (decide (256<((a0.fStates.map Al).length:Int)))
  (Cy n a0 true)
 <| Cy n a0 (decide (2048<((a0.fEdges.map A5).length:Int)))
def C3 (n:Nat)(a0:A8):Option (Int) :=
 jon (Cz n a0) <|
 reg <| cnd (decide (a0.fVars<0))
  (Cz n a0 true)
 <| cnd (decide (16<a0.fVars))
  (Cz n a0 true)
 <| cnd (decide (a0.fScopes<0))
  (Cz n a0 true)
 <| Cz n a0 (decide (64<a0.fScopes))
def L3 (n:Nat)(b:Bool):Option (Bool) :=
 some b
def S5 (n:Nat)(a0:Int):Option (Bool) :=
 jon (L3 n) <|
 reg <| cnd (decide (0<=a0))
  (L3 n (decide (a0<=5)))
 <| L3 n false
structure Bf where
 fKind:Int
 fCount:Int
 fValue:A4
deriving DecidableEq,Inhabited
def Fn (x:Bf):AV:=.agg [aI (x.fKind),aI (x.fCount),aI (x.fValue.fKind),aI (x.fValue.fNum),.str (x.fValue.fText)]
abbrev Xu (x:Bf):List AV:=[aI (x.fKind),aI (x.fCount),aI (x.fValue.fKind),aI (x.fValue.fNum),.str (x.fValue.fText)]
def I0 (n:Nat)(b:Bool):Option (Int) :=
 cnd (b)
  (some 3)
 <| some 0
def Nn (n:Nat)(b:Bool):Option (Int) :=
 cnd (b)
  (some 3)
 <| some 0
def Np (n:Nat)(a0:Bf)(b:Bool):Option (Int) :=
 cnd (b)
  (cnd (!(decide (a0.fValue.fKind=0) && (decide (a0.fValue.fNum=0) && ((a0.fValue.fText.toList == ByteArray.empty.toList) && true))))
    (some 3)
  <| some 0)
 <| cnd (decide (a0.fKind=1))
  (jon (I0 n) <|
  reg <| cnd (!decide (a0.fValue.fKind=0))
   (I0 n true)
  <| cnd (!(a0.fValue.fText.toList == ByteArray.empty.toList))
   (I0 n true)
  <| cnd (decide (a0.fValue.fNum<(aA .i64 (0-(aA .i64 (a0.fCount*1099511627776))))))
   (I0 n true)
  <| I0 n (decide ((aA .i64 (a0.fCount*1099511627776))<a0.fValue.fNum)))
 <| jon (Nn n) <|
 reg <| bnd (Im n a0.fValue) fun x8 =>
 cnd (!decide (x8=0))
  (Nn n true)
 <| bnd (O7 n a0.fKind a0.fValue) fun x9 =>
 Nn n !(x9)
def Nq (n:Nat)(a0:Bf)(b:Bool):Option (Int) :=
 cnd (b)
  (some 2)
 <| jon (Np n a0) <|
 reg <| cnd (decide (a0.fCount=0))
  (Np n a0 true)
 <| Np n a0 (decide (a0.fKind=0))
def Rt (n:Nat)(a0:Bf):Option (Int) :=
 bnd (S5 n a0.fKind) fun x1 =>
 cnd (!(x1))
  (some 1)
 <| jon (Nq n a0) <|
 reg <| cnd (decide (a0.fCount<0))
  (Nq n a0 true)
 <| Nq n a0 (decide (4096<a0.fCount))
def Rr (n:Nat)(a0:Int)(a1:A4):Option (Int) :=
 bnd (Im n a1) fun x1 =>
 cnd (!decide (x1=0))
  (some x1)
 <| bnd (O7 n a0 a1) fun x2 =>
 cnd (!(x2))
  (some 9)
 <| some 0
def U8 (n:Nat)(a0:Int)(a1:A4)(a2:A4):Option (A4) :=
 cnd (decide (a0=1))
  (some (⟨0,(aA .i64 (a1.fNum+a2.fNum)),ByteArray.empty⟩))
 <| cnd (decide (a0=2))
  (some (⟨0,(min a1.fNum a2.fNum),ByteArray.empty⟩))
 <| cnd (decide (a0=3))
  (some (⟨0,(max a1.fNum a2.fNum),ByteArray.empty⟩))
 <| cnd (decide (a0=4))
  (some a1)
 <| cnd (decide (a0=5))
  (some a2)
 <| some (⟨0,0,ByteArray.empty⟩)
def L8 (n:Nat)(a0:Bf)(b:Int×Int×ByteArray):Option (Bf×Int) :=
 some (⟨a0.fKind,(aA .i64 (a0.fCount+1)),⟨b.1,b.2.1,b.2.2⟩⟩,0)
def Uo (n:Nat)(a0:Bf)(a1:A4):Option (Bf×Int) :=
 bnd (Rt n a0) fun x1 =>
 cnd (!decide (x1=0))
  (some (⟨0,0,⟨0,0,ByteArray.empty⟩⟩,x1))
 <| bnd (Rr n a0.fKind a1) fun x2 =>
 cnd (!decide (x2=0))
  (some (⟨0,0,⟨0,0,ByteArray.empty⟩⟩,x2))
 <| cnd (decide (a0.fCount=4096))
  (some (⟨0,0,⟨0,0,ByteArray.empty⟩⟩,5))
 <| jon (L8 n a0) <|
 reg <| cnd (decide (a0.fKind=0))
  (L8 n a0 (0,0,ByteArray.empty))
 <| reg <| cnd (decide (0<a0.fCount))
  (bnd (U8 n a0.fKind a0.fValue a1) fun x7 =>
  L8 n a0 (x7.fKind,x7.fNum,x7.fText))
 <| L8 n a0 (a1.fKind,a1.fNum,a1.fText)
def Ni (n:Nat)(a1:A4)(a0:Bf)(b:Bool):Option (A4×Int) :=
 cnd (b)
  (some (a1,0))
 <| some (a0.fValue,0)
def Rg (n:Nat)(a0:Bf)(a1:A4):Option (A4×Int) :=
 bnd (Rt n a0) fun x1 =>
 cnd (!decide (x1=0))
  (some (⟨0,0,ByteArray.empty⟩,x1))
 <| bnd (Rr n a0.fKind a1) fun x2 =>
 cnd (!decide (x2=0))
  (some (⟨0,0,ByteArray.empty⟩,x2))
 <| cnd (decide (a0.fKind=0))
  (some (⟨0,a0.fCount,ByteArray.empty⟩,0))
 <| jon (Ni n a1 a0) <|
 reg <| cnd (decide (a0.fCount=0))
  (Ni n a1 a0 (!decide (a0.fKind=1)))
 <| Ni n a1 a0 false
def Rs (n:Nat)(a2:A4)(a1:(List A4))(d:Int->Int->Int->Int->ByteArray->Option (A4×Int)):Nat->Int×Int×Int×Int×Int×ByteArray->Option (A4×Int)
 |0,_=>none
 |e+1,b =>
  cnd (decide (b.1<((a1.map A6).length:Int)))
   (idx a1 b.1 fun f =>
   bnd (Uo n (⟨b.2.1,b.2.2.1,⟨b.2.2.2.1,b.2.2.2.2.1,b.2.2.2.2.2⟩⟩:Bf) f) fun c =>
   cnd (!decide (c.2=0))
    (some (⟨0,0,ByteArray.empty⟩,c.2))
   <| (Rs n a2 a1 d e) ((aA .i64 (b.1+1)),c.1.fKind,c.1.fCount,c.1.fValue.fKind,c.1.fValue.fNum,c.1.fValue.fText))
  <| d b.2.1 b.2.2.1 b.2.2.2.1 b.2.2.2.2.1 b.2.2.2.2.2
def S9 (n:Nat)(a0:Int)(a1:(List A4))(a2:A4):Option (A4×Int) :=
 bnd (S5 n a0) fun x1 =>
 cnd (!(x1))
  (some (⟨0,0,ByteArray.empty⟩,1))
 <| cnd (decide (4096<((a1.map A6).length:Int)))
  (some (⟨0,0,ByteArray.empty⟩,5))
 <| Rs n a2 a1
  (fun b c d e f=>bnd (Rg n (⟨b,c,⟨d,e,f⟩⟩:Bf) a2) fun g =>
 some (g.1,g.2)) n (0,a0,0,0,0,ByteArray.empty)
structure Au where
 fSource:Int
 fSeq:Int
 fType:Int
 fTime:Int
 fValues:(List A4)
deriving DecidableEq,Inhabited
def Am (x:Au):AV:=.agg [aI (x.fSource),aI (x.fSeq),aI (x.fType),aI (x.fTime),.sl 3 (x.fValues.map A6)]
abbrev Yz (x:Au):List AV:=[aI (x.fSource),aI (x.fSeq),aI (x.fType),aI (x.fTime),.sl 3 (x.fValues.map A6)]
structure Be where
 fVars:(List (List Au))
deriving DecidableEq,Inhabited
def z8o (x:Be):AV:=.agg [.sl 1 (List.map (fun q=>AV.sl 5 (List.map Am q)) (x.fVars))]
def Nh (n:Nat)(a1:Int)(a0:Be)(b:Bool):Option ((List Au)) :=
 cnd (b)
  (some [])
 <| idx a0.fVars a1 fun x2 =>
 some x2
def O2 (n:Nat)(a0:Be)(a1:Int):Option ((List Au)) :=
 jon (Nh n a1 a0) <|
 reg <| cnd (decide (a1<0))
  (Nh n a1 a0 true)
 <| Nh n a1 a0 (decide ((((List.map (fun q=>AV.sl 5 (List.map Am q)) (a0.fVars)).length:Nat):Int)<=a1))
def Xq (n:Nat)(a0:Be)(a1:Int)(a2:Int)(a3:Au):Option (Au×Bool) :=
 cnd (decide (a1=a2))
  (some (a3,true))
 <| bnd (O2 n (⟨a0.fVars⟩:Be) a1) fun x1 =>
 cnd (decide (((x1.map Am).length:Int)=0))
  (some (⟨0,0,0,0,[]⟩,false))
 <| idx x1 (aA .i64 (((x1.map Am).length:Int)-1)) fun x2 =>
 some (x2,true)
def R3 (n:Nat)(a0:Ah)(x2:(List Au))(c:(List A4)->Option (A4×Int)):Nat->Int×(List A4)->Option (A4×Int)
 |0,_=>none
 |d+1,b =>
  cnd (decide (b.1<((x2.map Am).length:Int)))
   (idx x2 b.1 fun e =>
   cnd (decide (((e.fValues.map A6).length:Int)<=a0.fField))
    (some (⟨0,0,ByteArray.empty⟩,6))
   <| idx x2 b.1 fun f =>
   idx f.fValues a0.fField fun g =>
   app b.2 [g] 32 fun h =>
   (R3 n a0 x2 c d) ((aA .i64 (b.1+1)),h))
  <| c b.2
def S4 (n:Nat)(a0:Ah)(a1:Be)(a2:Int)(a3:Au):Option (A4×Int) :=
 cnd (decide (a0.fOp=0))
  (some (a0.fValue,0))
 <| cnd (decide (a0.fOp=3))
  (bnd (O2 n (⟨a1.fVars⟩:Be) a0.fVar) fun x1 =>
  some (⟨0,((x1.map Am).length:Int),ByteArray.empty⟩,0))
 <| cnd (decide (a0.fOp=4))
  (bnd (O2 n (⟨a1.fVars⟩:Be) a0.fVar) fun x2 =>
  R3 n a0 x2
   (fun c=>bnd (S9 n a0.fKind c a0.fValue) fun d =>
  some (d.1,d.2)) n (0,[]))
 <| bnd (Xq n (⟨a1.fVars⟩:Be) a0.fVar a2 a3) fun b =>
 cnd (!(b.2))
  (some (⟨0,0,ByteArray.empty⟩,10))
 <| cnd (decide (a0.fOp=2))
  (some (⟨0,b.1.fTime,ByteArray.empty⟩,0))
 <| cnd (decide (((b.1.fValues.map A6).length:Int)<=a0.fField))
  (some (⟨0,0,ByteArray.empty⟩,6))
 <| idx b.1.fValues a0.fField fun f =>
 bnd (Im n f) fun e =>
 cnd (!decide (e=0))
  (some (⟨0,0,ByteArray.empty⟩,e))
 <| idx b.1.fValues a0.fField fun g =>
 some (g,0)
def Kc (n:Nat)(b:Bool):Option (Int) :=
 cnd (b)
  (some 1)
 <| some (-1)
def Hn (n:Nat)(a0:Int)(b:Bool):Option (Int) :=
 cnd (b)
  (some 0)
 <| jon (Kc n) <|
 reg <| cnd (decide (a0=10))
  (Kc n (decide (a0=10)))
 <| reg <| cnd (decide (a0=11))
  (Kc n (decide (a0=11)))
 <| Kc n (decide (a0=12))
def U7 (n:Nat)(a0:Int):Option (Int) :=
 jon (Hn n a0) <|
 reg <| cnd (decide (a0=5))
  (Hn n a0 (decide (a0=5)))
 <| reg <| cnd (decide (a0=6))
  (Hn n a0 (decide (a0=6)))
 <| reg <| cnd (decide (a0=7))
  (Hn n a0 (decide (a0=7)))
 <| Hn n a0 (decide (a0=8))
def Gh (n:Nat)(a1:(List Int))(a0:Int)(c:Int)(b:Int->Option (Int))(d:Bool):Option (Int) :=
 cnd (d)
  (some 9)
 <| b (aA .i64 (c+1))
def F6 (n:Nat)(a1:(List Int))(a0:Int)(b:Option (Int)):Nat->Int->Option (Int)
 |0,_=>none
 |d+1,c =>
  cnd (decide (c<((a1.map aI).length:Int)))
   (bnd (U7 n a0) fun e =>
   jon (Gh n a1 a0 c (F6 n a1 a0 b d)) <|
   reg <| cnd (decide (0<=e))
    (idx a1 c fun f =>
    cnd (!decide (f=e))
     (Gh n a1 a0 c (F6 n a1 a0 b d) true)
    <| cnd (decide (a0=9))
     (idx a1 c fun g =>
     idx a1 0 fun h =>
     Gh n a1 a0 c (F6 n a1 a0 b d) (!decide (g=h)))
    <| Gh n a1 a0 c (F6 n a1 a0 b d) false)
   <| cnd (decide (a0=9))
    (idx a1 c fun j =>
    idx a1 0 fun k =>
    Gh n a1 a0 c (F6 n a1 a0 b d) (!decide (j=k)))
   <| Gh n a1 a0 c (F6 n a1 a0 b d) false)
  <| b
def Xj (n:Nat)(a0:Int)(a1:(List Int)):Option (Int) :=
 F6 n a1 a0
  (some 0) n 0
def Cw (n:Nat)(a0:Bool):Option (A4) :=
 cnd (a0)
  (some (⟨1,1,ByteArray.empty⟩))
 <| some (⟨1,0,ByteArray.empty⟩)
def Nl (n:Nat)(b:Int×Int×ByteArray):Option (A4) :=
 some (⟨b.1,b.2.1,b.2.2⟩)
def Nk (n:Nat)(b:Int×Int×ByteArray):Option (A4) :=
 some (⟨b.1,b.2.1,b.2.2⟩)
def O6 (n:Nat)(a0:Int)(a1:(List A4)):Option (A4) :=
 cnd (decide (a0=5))
  (idx a1 0 fun x1 =>
  idx a1 1 fun x2 =>
  some (⟨0,(aA .i64 (x1.fNum+x2.fNum)),ByteArray.empty⟩))
 <| cnd (decide (a0=6))
  (idx a1 0 fun x3 =>
  idx a1 1 fun x4 =>
  some (⟨0,(aA .i64 (x3.fNum-x4.fNum)),ByteArray.empty⟩))
 <| cnd (decide (a0=7))
  (idx a1 0 fun x5 =>
  idx a1 1 fun x6 =>
  bnd (Cw n (decide (x5.fNum<x6.fNum))) fun x7 =>
  some x7)
 <| cnd (decide (a0=8))
  (idx a1 0 fun x8 =>
  idx a1 1 fun x9 =>
  bnd (Cw n (decide (x8.fNum<=x9.fNum))) fun h =>
  some h)
 <| cnd (decide (a0=9))
  (idx a1 0 fun b =>
  idx a1 1 fun c =>
  bnd (Cw n (decide (b.fKind=c.fKind) && (decide (b.fNum=c.fNum) && ((b.fText.toList == c.fText.toList) && true)))) fun j =>
  some j)
 <| cnd (decide (a0=10))
  (jon (Nl n) <|
  reg <| idx a1 0 fun k =>
  cnd (decide (k.fNum=1))
   (idx a1 1 fun l =>
   bnd (Cw n (decide (l.fNum=1))) fun d =>
   Nl n (d.fKind,d.fNum,d.fText))
  <| bnd (Cw n false) fun e =>
  Nl n (e.fKind,e.fNum,e.fText))
 <| cnd (decide (a0=11))
  (jon (Nk n) <|
  reg <| idx a1 0 fun o =>
  cnd (decide (o.fNum=1))
   (bnd (Cw n true) fun f =>
   Nk n (f.fKind,f.fNum,f.fText))
  <| idx a1 1 fun p =>
  bnd (Cw n (decide (p.fNum=1))) fun g =>
  Nk n (g.fKind,g.fNum,g.fText))
 <| idx a1 0 fun q =>
 bnd (Cw n (!decide (q.fNum=1))) fun s =>
 some s
def R4 (n:Nat)(b:Ah->Be->Int->Au->Option (A4×Int))(a3:Au)(a2:Int)(a1:Be)(a0:Ah)(d:(List A4)->(List Int)->Option (A4×Int)):Nat->Int×(List A4)×(List Int)->Option (A4×Int)
 |0,_=>none
 |f+1,c =>
  cnd (decide (c.1<((a0.fArgs.map idA).length:Int)))
   (idxD Bs a0.fArgs c.1 fun g =>
   bnd (b g (⟨a1.fVars⟩:Be) a2 a3) fun e =>
   cnd (!decide (e.2=0))
    (some (⟨0,0,ByteArray.empty⟩,e.2))
   <| app c.2.1 [e.1] 32 fun h =>
   app c.2.2 [e.1.fKind] 8 fun j =>
   (R4 n b a3 a2 a1 a0 d f) ((aA .i64 (c.1+1)),h,j))
  <| d c.2.1 c.2.2
def Lm:Nat->Ah->Be->Int->Au->Option (A4×Int)
 |0,_,_,_,_=>none
 |n+1,a0,a1,a2,a3 =>
 cnd (decide (((a0.fArgs.map idA).length:Int)=0))
  (bnd (S4 n a0 (⟨a1.fVars⟩:Be) a2 a3) fun x1 =>
  some (x1.1,x1.2))
 <| R4 n (Lm n) a3 a2 a1 a0
  (fun b c=>bnd (Xj n a0.fOp c) fun d =>
 cnd (!decide (d=0))
  (some (⟨0,0,ByteArray.empty⟩,d))
 <| bnd (O6 n a0.fOp b) fun e =>
 some (e,0)) n (0,[],[])
def Xr (n:Nat)(a0:Ah)(a1:Be)(a2:Int)(a3:Au):Option (A4×Int) :=
 bnd (Gy n a0) fun x1 =>
 cnd (!decide (x1=0))
  (some (⟨0,0,ByteArray.empty⟩,x1))
 <| bnd (Lm n a0 (⟨a1.fVars⟩:Be) a2 a3) fun x2 =>
 some (x2.1,x2.2)
def Nm (n:Nat)(b:Bool):Option (Bool) :=
 some b
def Uj (n:Nat)(a0:Ah)(a1:Be)(a2:Int)(a3:Au):Option (Bool) :=
 bnd (Xr n a0 (⟨a1.fVars⟩:Be) a2 a3) fun x1 =>
 jon (Nm n) <|
 reg <| cnd (decide (x1.2=0))
  (bnd (Cw n true) fun x4 =>
  Nm n (decide (x1.1.fKind=x4.fKind) && (decide (x1.1.fNum=x4.fNum) && ((x1.1.fText.toList == x4.fText.toList) && true))))
 <| Nm n false
structure Da where
 fTime:Int
 fSource:Int
 fSeq:Int
deriving DecidableEq,Inhabited
def zfk (x:Da):AV:=.agg [aI (x.fTime),aI (x.fSource),aI (x.fSeq)]
structure Di where
 fVar:Int
 fRef:Da
deriving DecidableEq,Inhabited
def Ph (x:Di):AV:=.agg [aI (x.fVar),aI (x.fRef.fTime),aI (x.fRef.fSource),aI (x.fRef.fSeq)]
structure Pr where
 fBindings:(List Di)
deriving DecidableEq,Inhabited
structure G3 where
 fScope:Int
 fTime:Int
deriving DecidableEq,Inhabited
def Pp (x:G3):AV:=.agg [aI (x.fScope),aI (x.fTime)]
structure Ct where
 fState:Int
 fBindings:(List Di)
 fStarts:(List G3)
deriving DecidableEq,Inhabited
def E7 (x:Ct):AV:=.agg [aI (x.fState),.sl 4 (x.fBindings.map Ph),.sl 2 (x.fStarts.map Pp)]
def H4 (n:Nat)(b:Bool):Option (Bool) :=
 some b
def M3 (n:Nat)(a0:Int):Option (Bool) :=
 jon (H4 n) <|
 reg <| cnd (decide (0<=a0))
  (H4 n (decide (a0<=5)))
 <| H4 n false
def Fi (n:Nat)(b:Bool):Option (Bool) :=
 some b
def M0 (n:Nat)(a0:Int)(a1:A4):Option (Bool) :=
 jon (Fi n) <|
 reg <| cnd (decide (a1.fKind=0))
  (Fi n true)
 <| cnd (!decide (a0=1))
  (cnd (!decide (a0=2))
    (Fi n (!decide (a0=3)))
  <| Fi n false)
 <| Fi n false
def Jc (n:Nat)(a0:Int)(a1:A4):Option (Int) :=
 bnd (Er n a1) fun x1 =>
 cnd (!decide (x1=0))
  (some x1)
 <| bnd (M0 n a0 a1) fun x2 =>
 cnd (!(x2))
  (some 9)
 <| some 0
def Sc (n:Nat)(a0:Int)(a1:A4):Option (A4) :=
 cnd (decide (a0=0))
  (some (⟨0,0,ByteArray.empty⟩))
 <| some a1
def S1 (n:Nat):Option (A4) :=
 some (⟨0,0,ByteArray.empty⟩)
def Rz (n:Nat)(m0:A4)(m1:A4):Option (A4×A4×A4) :=
 some (⟨0,(aA .i64 (m0.fNum+m1.fNum)),ByteArray.empty⟩,m0,m1)
def Ry (n:Nat)(m0:A4)(m1:A4):Option (A4×A4×A4) :=
 some (⟨0,(min m0.fNum m1.fNum),ByteArray.empty⟩,m0,m1)
def Rx (n:Nat)(m0:A4)(m1:A4):Option (A4×A4×A4) :=
 some (⟨0,(max m0.fNum m1.fNum),ByteArray.empty⟩,m0,m1)
def Rw (n:Nat)(m0:A4):Option (A4×A4) :=
 some (m0,m0)
def Rv (n:Nat)(m0:A4):Option (A4×A4) :=
 some (m0,m0)
def Ou (n:Nat)(a0:Int)(a1:A4)(a2:A4):Option (A4) :=
 natc a0 0
  (bnd (S1 n) fun x1 =>
 some x1)
 <| natc a0 1
  (bndM 15 (Rz n a1 a2) fun x2 =>
 some x2.1)
 <| natc a0 2
  (bndM 15 (Ry n a1 a2) fun x3 =>
 some x3.1)
 <| natc a0 3
  (bndM 15 (Rx n a1 a2) fun x4 =>
 some x4.1)
 <| natc a0 4
  (bndM 15 (Rw n a1) fun x5 =>
 some x5.1)
 <| natc a0 5
  (bndM 15 (Rv n a2) fun x6 =>
 some x6.1)
 <| none
def Sd (n:Nat)(a0:Bf)(a1:Bf):Option (Bf) :=
 cnd (decide (a0.fCount=0))
  (some a1)
 <| cnd (decide (a1.fCount=0))
  (some a0)
 <| bnd (Ou n a0.fKind a0.fValue a1.fValue) fun x1 =>
 some (⟨a0.fKind,(aA .i64 (a0.fCount+a1.fCount)),x1⟩)
def Sf (n:Nat)(a0:Bf)(a1:A4)(a2:Int):Option (Bf) :=
 bnd (Sc n a2 a1) fun x1 =>
 bnd (Sd n a0 (⟨a2,1,x1⟩:Bf)) fun x2 =>
 some x2
def Ll (n:Nat)(e:Int)(a1:(List A4))(c:Int->Int->Int->Int->ByteArray->Option (Bf)):Nat->Int×Int×Int×Int×Int×ByteArray->Option (Bf)
 |0,_=>none
 |f+1,b =>
  cnd (decide (b.1<((a1.map A6).length:Int)))
   (idx a1 b.1 fun g =>
   bnd (Sf n (⟨b.2.1,b.2.2.1,⟨b.2.2.2.1,b.2.2.2.2.1,b.2.2.2.2.2⟩⟩:Bf) g e) fun d =>
   (Ll n e a1 c f) ((aA .i64 (b.1+1)),d.fKind,d.fCount,d.fValue.fKind,d.fValue.fNum,d.fValue.fText))
  <| c b.2.1 b.2.2.1 b.2.2.2.1 b.2.2.2.2.1 b.2.2.2.2.2
def P2 (n:Nat)(a0:Bf)(a1:(List A4))(g:Int):Option (Bf) :=
 Ll n g a1
  (fun b c d e f=>some (⟨b,c,⟨d,e,f⟩⟩)) n (0,a0.fKind,a0.fCount,a0.fValue.fKind,a0.fValue.fNum,a0.fValue.fText)
def Iw (n:Nat)(a0:Bf)(b:Bool):Option (Int) :=
 cnd (b)
  (some 2)
 <| reg <| cnd (decide (a0.fCount=0))
  (cnd (!((decide (a0.fValue.fKind=0) && (decide (a0.fValue.fNum=0) && ((a0.fValue.fText.toList == ByteArray.empty.toList) && true)))))
    (some 3)
  <| some 0)
 <| cnd (decide (a0.fKind=0))
  (cnd (!((decide (a0.fValue.fKind=0) && (decide (a0.fValue.fNum=0) && ((a0.fValue.fText.toList == ByteArray.empty.toList) && true)))))
    (some 3)
  <| some 0)
 <| reg <| cnd (decide (a0.fKind=1))
  (reg <| cnd (decide (a0.fValue.fKind=0))
    (cnd ((a0.fValue.fText.toList == ByteArray.empty.toList))
      (cnd (decide ((aA .i64 (0-(aA .i64 (a0.fCount*1099511627776))))<=a0.fValue.fNum))
        (cnd (!(decide (a0.fValue.fNum<=(aA .i64 (a0.fCount*1099511627776)))))
          (some 3)
        <| some 0)
      <| some 3)
    <| some 3)
  <| some 3)
 <| reg <| bnd (Er n a0.fValue) fun x3 =>
 cnd (decide (x3=0))
  (bnd (M0 n a0.fKind a0.fValue) fun x4 =>
  cnd (!(x4))
   (some 3)
  <| some 0)
 <| some 3
def P5 (n:Nat)(a0:Bf):Option (Int) :=
 bnd (M3 n a0.fKind) fun x1 =>
 cnd (!(x1))
  (some 1)
 <| jon (Iw n a0) <|
 reg <| cnd (decide (a0.fCount<0))
  (Iw n a0 true)
 <| Iw n a0 (decide (4096<a0.fCount))
def Iu (n:Nat)(a1:A4)(a0:Bf)(b:Bool):Option (A4×Int) :=
 cnd (b)
  (some (a1,0))
 <| some (a0.fValue,0)
def Lv (n:Nat)(a0:Bf)(a1:A4):Option (A4×Int) :=
 bnd (P5 n a0) fun x1 =>
 cnd (!decide (x1=0))
  (some (⟨0,0,ByteArray.empty⟩,x1))
 <| bnd (Jc n a0.fKind a1) fun x2 =>
 cnd (!decide (x2=0))
  (some (⟨0,0,ByteArray.empty⟩,x2))
 <| cnd (decide (a0.fKind=0))
  (some (⟨0,a0.fCount,ByteArray.empty⟩,0))
 <| jon (Iu n a1 a0) <|
 reg <| cnd (decide (a0.fCount=0))
  (Iu n a1 a0 (!decide (a0.fKind=1)))
 <| Iu n a1 a0 false
def M4 (n:Nat)(a2:A4)(a1:(List A4))(a0:Int)(b:Option (A4×Int)):Nat->Int->Option (A4×Int)
 |0,_=>none
 |d+1,c =>
  cnd (decide (c<((a1.map A6).length:Int)))
   (idx a1 c fun f =>
   bnd (Jc n a0 f) fun e =>
   cnd (!decide (e=0))
    (some (⟨0,0,ByteArray.empty⟩,e))
   <| (M4 n a2 a1 a0 b d) (aA .i64 (c+1)))
  <| b
def Mc (n:Nat)(a0:Int)(a1:(List A4))(a2:A4):Option (A4×Int) :=
 bnd (M3 n a0) fun x1 =>
 cnd (!(x1))
  (some (⟨0,0,ByteArray.empty⟩,1))
 <| cnd (decide (4096<((a1.map A6).length:Int)))
  (some (⟨0,0,ByteArray.empty⟩,5))
 <| M4 n a2 a1 a0
  (bnd (P2 n (⟨a0,0,⟨0,0,ByteArray.empty⟩⟩:Bf) a1 a0) fun c =>
 bnd (Lv n c a2) fun b =>
 some (b.1,b.2)) n 0
def Px (n:Nat)(a0:Int):Option (Bool) :=
 some (!decide (a0=a0))
def D0 (n:Nat)(a0:Int)(a1:Int):Option (Int) :=
 bnd (Px n a0) fun x1 =>
 bnd (Px n a1) fun x2 =>
 cnd (x1)
  (cnd (x2)
    (some 0)
  <| some (-1))
 <| cnd (x2)
  (some 1)
 <| cnd (decide (a0<a1))
  (some (-1))
 <| cnd (decide (a1<a0))
  (some 1)
 <| some 0
def Py (n:Nat)(a0:(List Int))(b:Option (Int)):Nat->Int->Option (Int)
 |0,_=>none
 |d+1,c =>
  cnd (decide (c<((a0.map aI).length:Int)))
   (idx a0 c fun e =>
   cnd (!decide (e=0))
    (some e)
   <| (Py n a0 b d) (aA .i64 (c+1)))
  <| b
def G5 (n:Nat)(a0:(List Int)):Option (Int) :=
 Py n a0
  (some 0) n 0
def z9p (n:Nat)(a0:Da)(a1:Da):Option (Int) :=
 bnd (D0 n a0.fTime a1.fTime) fun x1 =>
 bnd (D0 n a0.fSource a1.fSource) fun x2 =>
 bnd (D0 n a0.fSeq a1.fSeq) fun x3 =>
 bnd (G5 n ([x1,x2,x3])) fun x4 =>
 some x4
def z52 (n:Nat)(a0:Di)(a1:Di):Option (Int) :=
 bnd (z9p n (⟨a0.fRef.fTime,a0.fRef.fSource,a0.fRef.fSeq⟩:Da) (⟨a1.fRef.fTime,a1.fRef.fSource,a1.fRef.fSeq⟩:Da)) fun x1 =>
 bnd (D0 n a0.fVar a1.fVar) fun x2 =>
 bnd (G5 n ([x1,x2])) fun x3 =>
 some x3
def Xl (n:Nat)(a1:(List Di))(a0:(List Di))(c:Option (Int)):Nat->Int->Option (Int)
 |0,_=>none
 |f+1,b =>
  cnd (decide (b<((a0.map Ph).length:Int)))
   (idx a0 b fun d =>
   cnd (decide (((a1.map Ph).length:Int)<=b))
    (some 1)
   <| idx a1 b fun e =>
   bnd (z52 n (⟨d.fVar,⟨d.fRef.fTime,d.fRef.fSource,d.fRef.fSeq⟩⟩:Di) (⟨e.fVar,⟨e.fRef.fTime,e.fRef.fSource,e.fRef.fSeq⟩⟩:Di)) fun g =>
   cnd (!decide (g=0))
    (some g)
   <| (Xl n a1 a0 c f) (aA .i64 (b+1)))
  <| c
def z40 (n:Nat)(a0:(List Di))(a1:(List Di)):Option (Int) :=
 Xl n a1 a0
  (cnd (decide (((a0.map Ph).length:Int)<((a1.map Ph).length:Int)))
  (some (-1))
 <| some 0) n 0
def z5z (n:Nat)(a0:Pr)(a1:Pr):Option (Int) :=
 bnd (z40 n a0.fBindings a1.fBindings) fun x1 =>
 some x1
def z5y (n:Nat)(a0:G3)(a1:G3):Option (Int) :=
 bnd (D0 n a0.fScope a1.fScope) fun x1 =>
 bnd (D0 n a0.fTime a1.fTime) fun x2 =>
 bnd (G5 n ([x1,x2])) fun x3 =>
 some x3
def Xe (n:Nat)(a1:(List G3))(a0:(List G3))(c:Option (Int)):Nat->Int->Option (Int)
 |0,_=>none
 |d+1,b =>
  cnd (decide (b<((a0.map Pp).length:Int)))
   (idx a0 b fun f =>
   cnd (decide (((a1.map Pp).length:Int)<=b))
    (some 1)
   <| idx a1 b fun g =>
   bnd (z5y n f g) fun e =>
   cnd (!decide (e=0))
    (some e)
   <| (Xe n a1 a0 c d) (aA .i64 (b+1)))
  <| c
def z1m (n:Nat)(a0:(List G3))(a1:(List G3)):Option (Int) :=
 Xe n a1 a0
  (cnd (decide (((a0.map Pp).length:Int)<((a1.map Pp).length:Int)))
  (some (-1))
 <| some 0) n 0
def z7n (n:Nat)(a0:Ct)(a1:Ct):Option (Int) :=
 bnd (D0 n a0.fState a1.fState) fun x1 =>
 bnd (z5z n (⟨a0.fBindings⟩:Pr) (⟨a1.fBindings⟩:Pr)) fun x2 =>
 bnd (z1m n a0.fStarts a1.fStarts) fun x3 =>
 bnd (G5 n ([x1,x2,x3])) fun x4 =>
 some x4
attribute [irreducible] Hy Ej Gm L1 Nt Hz Bp I8 Nu Nv L2 E1 O1 Ko Dc Gl Hx Jg Jj Jk Hc Fj Bl Jl Jm Hd D9 Iq H0 H3 Ci Cy Cz L3 I0 Nn Np Nq L8 Ni Nh Kc Hn Gh Nl Nk Nm      H4 Fi Iw Iu 
noncomputable section
end
end Go.Proofs.YthbogefcfhmpgaaGreat
