/- What some functions compute, over plain values. -/
import Derived.Test.YtidhlpjgifoneaaGreatK17
set_option linter.unusedVariables false
set_option linter.unusedSimpArgs false
set_option maxRecDepth 100000
set_option maxHeartbeats 8000000
namespace Go.Proofs.YtidhlpjgifoneaaGreat
open Go.RowKit
structure z05 where
 fKind:Int
 fNum:Int
 fText:ByteArray
deriving DecidableEq,Inhabited
def z08 (x:z05):AV:=.agg [aI (x.fKind),aI (x.fNum),.str (x.fText)]
abbrev z28 (x:z05):List AV:=[aI (x.fKind),aI (x.fNum),.str (x.fText)]
structure z0s where
 fOp:Int
 fArgs:(List AV)
 fVar:Int
 fField:Int
 fKind:Int
 fValue:z05
deriving Inhabited
def z0l (x:z0s):AV:=.agg [aI (x.fOp),.sl 8 (x.fArgs.map idA),aI (x.fVar),aI (x.fField),aI (x.fKind),aI (x.fValue.fKind),aI (x.fValue.fNum),.str (x.fValue.fText)]
abbrev z8z (x:z0s):List AV:=[aI (x.fOp),.sl 8 (x.fArgs.map idA),aI (x.fVar),aI (x.fField),aI (x.fKind),aI (x.fValue.fKind),aI (x.fValue.fNum),.str (x.fValue.fText)]
def z1z:AV->Option z0s
 |.agg [.int .i64 c0,.sl 8 c1,.int .i64 c2,.int .i64 c3,.int .i64 c4,.int .i64 c5,.int .i64 c6,.str c7]=>some ⟨c0,c1,c2,c3,c4,⟨c5,c6,c7⟩⟩
 |_=>none
theorem z42 (a:AV)(y:z0s)(h:z1z a=some y):a=z0l y:=by
 unfold z1z at h
 split at h
 ·injection h with h;subst h;simp [z0l,aI,zv6]
 ·cases h
theorem zd3 (y:z0s):z1z (z0l y)=some y:=by simp [z1z,z0l,aI,zv6]
def z4z (n:Nat)(b:z0s->Int->Option (Int))(a1:Int)(a0:z0s)(c:Int×Int)(d:Int->Option (Int))(e:(Int×Int)->Option (Int))(f:Bool):Option (Int) :=
 cnd (f)
  (idxD z1z a0.fArgs c.2 fun g =>
  bnd (b g a1) fun h =>
  e ((IntKind.wrap .i64 (c.1+h)),(IntKind.wrap .i64 (c.2+1))))
 <| d c.1
def z3f (n:Nat)(b:z0s->Int->Option (Int))(a1:Int)(a0:z0s)(c:Int->Option (Int)):Nat->Int×Int->Option (Int)
 |0,_=>none
 |e+1,d =>
  jon (z4z n b a1 a0 d c (z3f n b a1 a0 c e)) <|
  reg <| cnd (decide (d.2<((a0.fArgs.map idA).length:Int)))
   (z4z n b a1 a0 d c (z3f n b a1 a0 c e) (decide (d.1<=a1)))
  <| z4z n b a1 a0 d c (z3f n b a1 a0 c e) false
def z33:Nat->z0s->Int->Option (Int)
 |0,_,_=>none
 |n+1,a0,a1 =>
 z3f n (z33 n) a1 a0
  (fun b=>some b) n (1,0)
def z7m (n:Nat)(b:z0s->Option (Int))(a0:z0s)(d:Int->Option (Int)):Nat->Int×Int->Option (Int)
 |0,_=>none
 |e+1,c =>
  cnd (decide (c.2<((a0.fArgs.map idA).length:Int)))
   (idxD z1z a0.fArgs c.2 fun f =>
   bnd (b f) fun g =>
   (z7m n b a0 d e) ((max c.1 g),(IntKind.wrap .i64 (c.2+1))))
  <| d c.1
def z32:Nat->z0s->Option (Int)
 |0,_=>none
 |n+1,a0 =>
 z7m n (z32 n) a0
  (fun b=>some (IntKind.wrap .i64 (b+1))) n (0,0)
def z1e (n:Nat)(b:Bool):Option (Int) :=
 cnd (b)
  (some 2)
 <| some (-1)
def z1w (n:Nat)(a0:Int)(b:Bool):Option (Int) :=
 cnd (b)
  (some 0)
 <| cnd (decide (a0=12))
  (some 1)
 <| jon (z1e n) <|
 reg <| cnd (decide (a0=5))
  (z1e n (decide (a0=5)))
 <| reg <| cnd (decide (a0=6))
  (z1e n (decide (a0=6)))
 <| reg <| cnd (decide (a0=7))
  (z1e n (decide (a0=7)))
 <| reg <| cnd (decide (a0=8))
  (z1e n (decide (a0=8)))
 <| reg <| cnd (decide (a0=9))
  (z1e n (decide (a0=9)))
 <| reg <| cnd (decide (a0=10))
  (z1e n (decide (a0=10)))
 <| z1e n (decide (a0=11))
def zbq (n:Nat)(a0:Int):Option (Int) :=
 jon (z1w n a0) <|
 reg <| cnd (decide (a0=0))
  (z1w n a0 (decide (a0=0)))
 <| reg <| cnd (decide (a0=1))
  (z1w n a0 (decide (a0=1)))
 <| reg <| cnd (decide (a0=2))
  (z1w n a0 (decide (a0=2)))
 <| reg <| cnd (decide (a0=3))
  (z1w n a0 (decide (a0=3)))
 <| z1w n a0 (decide (a0=4))
def z3s (n:Nat)(b:Bool)(c:Bool):Option (Bool×Bool) :=
 some (c,b)
def z5y (n:Nat)(a0:Int)(b:Bool):Option (Bool×Bool) :=
 jon (z3s n b) <|
 reg <| cnd (b)
  (z3s n b true)
 <| cnd (decide (a0=2))
  (z3s n b true)
 <| z3s n b (decide (a0=3))
def zc9 (n:Nat)(a0:Int):Option (Bool×Bool) :=
 jon (z5y n a0) <|
 reg <| cnd (decide (a0=1))
  (z5y n a0 true)
 <| z5y n a0 (decide (a0=4))
def z3w (n:Nat)(a0:z05):Option (Int) :=
 cnd (decide (a0.fKind<0))
  (some 1)
 <| cnd (decide (2<a0.fKind))
  (some 1)
 <| cnd (decide (a0.fKind=2))
  (cnd (!decide (a0.fNum=0))
    (some 3)
  <| cnd (decide (64<((a0.fText.size:Nat):Int)))
   (some 13)
  <| some 0)
 <| cnd (!(a0.fText.toList == ByteArray.empty.toList))
  (some 3)
 <| cnd (decide (a0.fKind=1))
  (cnd (decide (a0.fNum<0))
    (some 2)
  <| cnd (decide (1<a0.fNum))
   (some 2)
  <| cnd (decide (a0.fNum<(-1099511627776)))
   (some 2)
  <| cnd (decide (1099511627776<a0.fNum))
   (some 2)
  <| some 0)
 <| cnd (decide (a0.fNum<(-1099511627776)))
  (some 2)
 <| cnd (decide (1099511627776<a0.fNum))
  (some 2)
 <| some 0
def z2d (n:Nat)(b:Bool):Option (Bool) :=
 some b
def z82 (n:Nat)(a0:Int)(a1:z05):Option (Bool) :=
 jon (z2d n) <|
 reg <| cnd (decide (a1.fKind=0))
  (z2d n true)
 <| cnd (decide (a0=0))
  (z2d n true)
 <| cnd (decide (a0=4))
  (z2d n true)
 <| z2d n (decide (a0=5))
def z0k (n:Nat)(b:Bool):Option (Int) :=
 cnd (b)
  (some 3)
 <| some 0
def z2s (n:Nat)(a0:z0s)(x2:Bool×Bool)(b:Bool)(c:Bool):Option (Int) :=
 cnd (c)
  (some 9)
 <| jon (z0k n) <|
 reg <| cnd (!(x2.1))
  (cnd (!decide (a0.fVar=0))
    (z0k n true)
  <| cnd (!(x2.2))
   (cnd (!decide (a0.fField=0))
     (z0k n true)
   <| cnd (!(decide (a0.fOp=4)))
    (cnd (!decide (a0.fKind=0))
      (z0k n true)
    <| cnd (!(b))
     (z0k n (!(decide (a0.fValue.fKind=0) && (decide (a0.fValue.fNum=0) && ((a0.fValue.fText.toList == ByteArray.empty.toList) && true)))))
    <| z0k n false)
   <| cnd (!(b))
    (z0k n (!(decide (a0.fValue.fKind=0) && (decide (a0.fValue.fNum=0) && ((a0.fValue.fText.toList == ByteArray.empty.toList) && true)))))
   <| z0k n false)
  <| cnd (!(decide (a0.fOp=4)))
   (cnd (!decide (a0.fKind=0))
     (z0k n true)
   <| cnd (!(b))
    (z0k n (!(decide (a0.fValue.fKind=0) && (decide (a0.fValue.fNum=0) && ((a0.fValue.fText.toList == ByteArray.empty.toList) && true)))))
   <| z0k n false)
  <| cnd (!(b))
   (z0k n (!(decide (a0.fValue.fKind=0) && (decide (a0.fValue.fNum=0) && ((a0.fValue.fText.toList == ByteArray.empty.toList) && true)))))
  <| z0k n false)
 <| cnd (!(x2.2))
  (cnd (!decide (a0.fField=0))
    (z0k n true)
  <| cnd (!(decide (a0.fOp=4)))
   (cnd (!decide (a0.fKind=0))
     (z0k n true)
   <| cnd (!(b))
    (z0k n (!(decide (a0.fValue.fKind=0) && (decide (a0.fValue.fNum=0) && ((a0.fValue.fText.toList == ByteArray.empty.toList) && true)))))
   <| z0k n false)
  <| cnd (!(b))
   (z0k n (!(decide (a0.fValue.fKind=0) && (decide (a0.fValue.fNum=0) && ((a0.fValue.fText.toList == ByteArray.empty.toList) && true)))))
  <| z0k n false)
 <| cnd (!(decide (a0.fOp=4)))
  (cnd (!decide (a0.fKind=0))
    (z0k n true)
  <| cnd (!(b))
   (z0k n (!(decide (a0.fValue.fKind=0) && (decide (a0.fValue.fNum=0) && ((a0.fValue.fText.toList == ByteArray.empty.toList) && true)))))
  <| z0k n false)
 <| cnd (!(b))
  (z0k n (!(decide (a0.fValue.fKind=0) && (decide (a0.fValue.fNum=0) && ((a0.fValue.fText.toList == ByteArray.empty.toList) && true)))))
 <| z0k n false
def z5z (n:Nat)(a0:z0s)(x2:Bool×Bool)(b:Bool)(_:Unit):Option (Int) :=
 jon (z2s n a0 x2 b) <|
 reg <| cnd (decide (a0.fOp=4))
  (bnd (z82 n a0.fKind a0.fValue) fun c =>
  cnd (!(c))
   (z2s n a0 x2 b true)
  <| cnd (decide (a0.fKind=1))
   (z2s n a0 x2 b (!(decide (a0.fValue.fKind=0) && (decide (a0.fValue.fNum=0) && ((a0.fValue.fText.toList == ByteArray.empty.toList) && true)))))
  <| z2s n a0 x2 b false)
 <| z2s n a0 x2 b false
def z60 (n:Nat)(a0:z0s)(x2:Bool×Bool)(b:Bool):Option (Int) :=
 jon (z5z n a0 x2 b) <|
 reg <| cnd (b)
  (bnd (z3w n a0.fValue) fun c =>
  cnd (!decide (c=0))
   (some c)
  <| z5z n a0 x2 b ())
 <| z5z n a0 x2 b ()
def z3u (n:Nat)(a0:z0s)(x2:Bool×Bool)(b:Bool):Option (Int) :=
 cnd (b)
  (some 1)
 <| jon (z60 n a0 x2) <|
 reg <| cnd (decide (a0.fOp=4))
  (z60 n a0 x2 true)
 <| z60 n a0 x2 (decide (a0.fOp=0))
def z1c (n:Nat)(a0:z0s)(x2:Bool×Bool)(b:Bool):Option (Int) :=
 cnd (b)
  (some 2)
 <| jon (z3u n a0 x2) <|
 reg <| cnd (decide (a0.fOp=4))
  (cnd (decide (a0.fKind<1))
    (z3u n a0 x2 true)
  <| z3u n a0 x2 (decide (5<a0.fKind)))
 <| z3u n a0 x2 false
def zca (n:Nat)(a0:z0s):Option (Int) :=
 bnd (zbq n a0.fOp) fun x1 =>
 cnd (decide (x1<0))
  (some 1)
 <| cnd (!decide (((a0.fArgs.map idA).length:Int)=x1))
  (some 15)
 <| bnd (zc9 n a0.fOp) fun x2 =>
 jon (z1c n a0 x2) <|
 reg <| cnd (x2.1)
  (cnd (decide (a0.fVar<0))
    (z1c n a0 x2 true)
  <| cnd (decide (16<=a0.fVar))
   (z1c n a0 x2 true)
  <| cnd (x2.2)
   (cnd (decide (a0.fField<0))
     (z1c n a0 x2 true)
   <| z1c n a0 x2 (decide (8<=a0.fField)))
  <| z1c n a0 x2 false)
 <| cnd (x2.2)
  (cnd (decide (a0.fField<0))
    (z1c n a0 x2 true)
  <| z1c n a0 x2 (decide (8<=a0.fField)))
 <| z1c n a0 x2 false
def z7l (n:Nat)(b:z0s->Option (Int))(a0:z0s)(c:Option (Int)):Nat->Int->Option (Int)
 |0,_=>none
 |e+1,d =>
  cnd (decide (d<((a0.fArgs.map idA).length:Int)))
   (idxD z1z a0.fArgs d fun g =>
   bnd (b g) fun f =>
   cnd (!decide (f=0))
    (some f)
   <| (z7l n b a0 c e) (IntKind.wrap .i64 (d+1)))
  <| c
def z3t:Nat->z0s->Option (Int)
 |0,_=>none
 |n+1,a0 =>
 bnd (zca n a0) fun x1 =>
 cnd (!decide (x1=0))
  (some x1)
 <| z7l n (z3t n) a0
  (some 0) n 0
def z34 (n:Nat)(a0:z0s):Option (Int) :=
 bnd (z33 n a0 64) fun x1 =>
 cnd (decide (64<x1))
  (some 5)
 <| bnd (z32 n a0) fun x2 =>
 cnd (decide (12<x2))
  (some 12)
 <| bnd (z3t n a0) fun x3 =>
 some x3
structure z0v where
 fScope:Int
 fType:Int
 fVar:Int
 fCond:z0s
deriving Inhabited
def z0u (x:z0v):AV:=.agg [aI (x.fScope),aI (x.fType),aI (x.fVar),aI (x.fCond.fOp),.sl 8 (x.fCond.fArgs.map idA),aI (x.fCond.fVar),aI (x.fCond.fField),aI (x.fCond.fKind),aI (x.fCond.fValue.fKind),aI (x.fCond.fValue.fNum),.str (x.fCond.fValue.fText)]
abbrev zjo (x:z0v):List AV:=[aI (x.fScope),aI (x.fType),aI (x.fVar),aI (x.fCond.fOp),.sl 8 (x.fCond.fArgs.map idA),aI (x.fCond.fVar),aI (x.fCond.fField),aI (x.fCond.fKind),aI (x.fCond.fValue.fKind),aI (x.fCond.fValue.fNum),.str (x.fCond.fValue.fText)]
structure zem where
 fGuards:(List z0v)
deriving Inhabited
def z0q (x:zem):AV:=.agg [.sl 11 (x.fGuards.map z0u)]
structure z1g where
 fScope:Int
 fSpan:Int
deriving DecidableEq,Inhabited
def z27 (x:z1g):AV:=.agg [aI (x.fScope),aI (x.fSpan)]
abbrev zop (x:z1g):List AV:=[aI (x.fScope),aI (x.fSpan)]
structure z0t where
 fFrom:Int
 fTo:Int
 fVar:Int
 fType:Int
 fCond:z0s
 fOpens:(List Int)
 fCloses:(List Int)
 fChecks:(List AV)
 fLimits:(List z1g)
 fInside:(List Int)
deriving Inhabited
def z0w (x:z0t):AV:=.agg [aI (x.fFrom),aI (x.fTo),aI (x.fVar),aI (x.fType),aI (x.fCond.fOp),.sl 8 (x.fCond.fArgs.map idA),aI (x.fCond.fVar),aI (x.fCond.fField),aI (x.fCond.fKind),aI (x.fCond.fValue.fKind),aI (x.fCond.fValue.fNum),.str (x.fCond.fValue.fText),.sl 1 (x.fOpens.map aI),.sl 1 (x.fCloses.map aI),.sl 8 (x.fChecks.map idA),.sl 2 (x.fLimits.map z27),.sl 1 (x.fInside.map aI)]
abbrev z2a (x:z0t):List AV:=[aI (x.fFrom),aI (x.fTo),aI (x.fVar),aI (x.fType),aI (x.fCond.fOp),.sl 8 (x.fCond.fArgs.map idA),aI (x.fCond.fVar),aI (x.fCond.fField),aI (x.fCond.fKind),aI (x.fCond.fValue.fKind),aI (x.fCond.fValue.fNum),.str (x.fCond.fValue.fText),.sl 1 (x.fOpens.map aI),.sl 1 (x.fCloses.map aI),.sl 8 (x.fChecks.map idA),.sl 2 (x.fLimits.map z27),.sl 1 (x.fInside.map aI)]
structure z07 where
 fVars:Int
 fScopes:Int
 fStates:(List zem)
 fEdges:(List z0t)
deriving Inhabited
def z0o (x:z07):AV:=.agg [aI (x.fVars),aI (x.fScopes),.sl 1 (x.fStates.map z0q),.sl 17 (x.fEdges.map z0w)]
abbrev z0g (x:z07):List AV:=[aI (x.fVars),aI (x.fScopes),.sl 1 (x.fStates.map z0q),.sl 17 (x.fEdges.map z0w)]
def z6x (n:Nat)(b:Bool):Option (Bool) :=
 some b
def z19 (n:Nat)(a0:Int)(a1:Int):Option (Bool) :=
 jon (z6x n) <|
 reg <| cnd (decide (a0<0))
  (z6x n true)
 <| z6x n (decide (a1<a0))
def z6h (n:Nat)(a1:(List z0v))(a0:z07)(c:Int)(b:Option (Int)):Nat->Int->Option (Int)
 |0,_=>none
 |e+1,d =>
  cnd (decide (d<c))
   (idx a1 d fun f =>
   idx a1 c fun g =>
   cnd (decide (f.fScope=g.fScope))
    (some 7)
   <| (z6h n a1 a0 c b e) (IntKind.wrap .i64 (d+1)))
  <| b
def z30 (n:Nat)(a1:(List z0v))(a0:z07)(b:Int)(c:Int->Option (Int))(e:Bool):Option (Int) :=
 cnd (e)
  (some 2)
 <| z6h n a1 a0 b
  (idx a1 b fun f =>
 bnd (z34 n f.fCond) fun d =>
 cnd (!decide (d=0))
  (some d)
 <| c (IntKind.wrap .i64 (b+1))) n 0
def z1p (n:Nat)(a1:(List z0v))(a0:z07)(b:Option (Int)):Nat->Int->Option (Int)
 |0,_=>none
 |d+1,c =>
  cnd (decide (c<((a1.map z0u).length:Int)))
   (jon (z30 n a1 a0 c (z1p n a1 a0 b d)) <|
   reg <| idx a1 c fun e =>
   bnd (z19 n e.fScope (IntKind.wrap .i64 (a0.fScopes-1))) fun f =>
   cnd (f)
    (z30 n a1 a0 c (z1p n a1 a0 b d) true)
   <| idx a1 c fun g =>
   bnd (z19 n g.fType 15) fun h =>
   cnd (h)
    (z30 n a1 a0 c (z1p n a1 a0 b d) true)
   <| idx a1 c fun j =>
   bnd (z19 n j.fVar (IntKind.wrap .i64 (a0.fVars-1))) fun k =>
   z30 n a1 a0 c (z1p n a1 a0 b d) k)
  <| b
def zb3 (n:Nat)(a0:z07)(a1:(List z0v)):Option (Int) :=
 cnd (decide (64<((a1.map z0u).length:Int)))
  (some 5)
 <| z1p n a1 a0
  (some 0) n 0
def z6g (n:Nat)(a1:Int)(a0:(List Int))(c:Int)(b:Option (Int)):Nat->Int->Option (Int)
 |0,_=>none
 |e+1,d =>
  cnd (decide (d<c))
   (idx a0 d fun f =>
   idx a0 c fun g =>
   cnd (decide (f=g))
    (some 7)
   <| (z6g n a1 a0 c b e) (IntKind.wrap .i64 (d+1)))
  <| b
def z48 (n:Nat)(a1:Int)(a0:(List Int))(c:Option (Int)):Nat->Int->Option (Int)
 |0,_=>none
 |d+1,b =>
  cnd (decide (b<((a0.map aI).length:Int)))
   (idx a0 b fun e =>
   bnd (z19 n e (IntKind.wrap .i64 (a1-1))) fun f =>
   cnd (f)
    (some 2)
   <| z6g n a1 a0 b
    ((z48 n a1 a0 c d) (IntKind.wrap .i64 (b+1))) n 0)
  <| c
def z95 (n:Nat)(a0:(List Int))(a1:Int):Option (Int) :=
 z48 n a1 a0
  (some 0) n 0
def z4v (n:Nat)(a1:z0t)(b:Option (Int)):Nat->Int->Option (Int)
 |0,_=>none
 |d+1,c =>
  cnd (decide (c<((a1.fLimits.map z27).length:Int)))
   (idx a1.fLimits c fun e =>
   bnd (z19 n e.fSpan 1099511627776) fun f =>
   cnd (f)
    (some 2)
   <| (z4v n a1 b d) (IntKind.wrap .i64 (c+1)))
  <| b
def z2b (n:Nat)(a1:z0t)(a0:z07)(b:(List Int))(c:Option (Int)):Nat->Int->Option (Int)
 |0,_=>none
 |f+1,d =>
  cnd (decide (d<4))
   (idx ([a1.fOpens,a1.fCloses,a1.fInside,b]:List (List Int)) d fun g =>
   bnd (z95 n g a0.fScopes) fun e =>
   cnd (!decide (e=0))
    (some e)
   <| (z2b n a1 a0 b c f) (IntKind.wrap .i64 (d+1)))
  <| c
def z7h (n:Nat)(a1:z0t)(a0:z07)(c:(List Int)->Option (Int)):Nat->Int×(List Int)->Option (Int)
 |0,_=>none
 |d+1,b =>
  cnd (decide (b.1<((a1.fLimits.map z27).length:Int)))
   (idx a1.fLimits b.1 fun e =>
   app b.2 [e.fScope] 8 fun f =>
   (z7h n a1 a0 c d) ((IntKind.wrap .i64 (b.1+1)),f))
  <| c b.2
def z9u (n:Nat)(a0:z07)(a1:z0t):Option (Int) :=
 z7h n a1 a0
  (fun b=>frz 7026 <| reg <| z2b n a1 a0 b
  (z4v n a1
  (some 0) n 0) n 0) n (0,[])
def z8g (n:Nat)(a1:z0t)(a0:z07)(b:Option (Int)):Nat->Int->Option (Int)
 |0,_=>none
 |d+1,c =>
  cnd (decide (c<((a1.fChecks.map idA).length:Int)))
   (idxD z1z a1.fChecks c fun f =>
   bnd (z34 n f) fun e =>
   cnd (!decide (e=0))
    (some e)
   <| (z8g n a1 a0 b d) (IntKind.wrap .i64 (c+1)))
  <| b
def z17 (n:Nat)(a2:Int)(a1:z0t)(a0:z07)(b:Bool):Option (Int) :=
 cnd (b)
  (some 2)
 <| cnd (decide (a1.fFrom<a2))
  (some 14)
 <| bnd (z34 n a1.fCond) fun x8 =>
 cnd (!decide (x8=0))
  (some x8)
 <| cnd (decide (64<((a1.fChecks.map idA).length:Int)))
  (some 5)
 <| z8g n a1 a0
  (bnd (z9u n a0 a1) fun c =>
 some c) n 0
def zc7 (n:Nat)(a0:z07)(a1:z0t)(a2:Int):Option (Int) :=
 jon (z17 n a2 a1 a0) <|
 reg <| bnd (z19 n a1.fFrom (IntKind.wrap .i64 (((a0.fStates.map z0q).length:Int)-1))) fun b =>
 cnd (b)
  (z17 n a2 a1 a0 true)
 <| cnd (!decide (a1.fTo=(-1)))
  (bnd (z19 n a1.fTo (IntKind.wrap .i64 (((a0.fStates.map z0q).length:Int)-1))) fun c =>
  cnd (c)
   (z17 n a2 a1 a0 true)
  <| bnd (z19 n a1.fVar (IntKind.wrap .i64 (a0.fVars-1))) fun d =>
  cnd (d)
   (z17 n a2 a1 a0 true)
  <| bnd (z19 n a1.fType 15) fun e =>
  z17 n a2 a1 a0 e)
 <| bnd (z19 n a1.fVar (IntKind.wrap .i64 (a0.fVars-1))) fun f =>
 cnd (f)
  (z17 n a2 a1 a0 true)
 <| bnd (z19 n a1.fType 15) fun g =>
 z17 n a2 a1 a0 g
def z7i (n:Nat)(a0:z07)(c:Option (Int)):Nat->Int×Int->Option (Int)
 |0,_=>none
 |d+1,b =>
  cnd (decide (b.2<((a0.fEdges.map z0w).length:Int)))
   (idx a0.fEdges b.2 fun f =>
   bnd (zc7 n a0 f b.1) fun e =>
   cnd (!decide (e=0))
    (some e)
   <| idx a0.fEdges b.2 fun g =>
   (z7i n a0 c d) (g.fFrom,(IntKind.wrap .i64 (b.2+1))))
  <| c
def z7j (n:Nat)(a0:z07)(b:Option (Int)):Nat->Int->Option (Int)
 |0,_=>none
 |d+1,c =>
  cnd (decide (c<((a0.fStates.map z0q).length:Int)))
   (idx a0.fStates c fun f =>
   bnd (zb3 n a0 f.fGuards) fun e =>
   cnd (!decide (e=0))
    (some e)
   <| (z7j n a0 b d) (IntKind.wrap .i64 (c+1)))
  <| b
def z1u (n:Nat)(a0:z07)(b:Bool):Option (Int) :=
 cnd (b)
  (some 5)
 <| z7j n a0
  (z7i n a0
  (some 0) n (0,0)) n 0
def z2c (n:Nat)(a0:z07)(b:Bool):Option (Int) :=
 cnd (b)
  (some 2)
 <| jon (z1u n a0) <|
 reg <| cnd (decide (((a0.fStates.map z0q).length:Int)<1))
  (z1u n a0 true)
 <| cnd (decide (256<((a0.fStates.map z0q).length:Int)))
  (z1u n a0 true)
 <| z1u n a0 (decide (2048<((a0.fEdges.map z0w).length:Int)))
def z5c (n:Nat)(a0:z07):Option (Int) :=
 jon (z2c n a0) <|
 reg <| bnd (z19 n a0.fVars 16) fun b =>
 cnd (b)
  (z2c n a0 true)
 <| bnd (z19 n a0.fScopes 64) fun c =>
 z2c n a0 c
def zfw (n:Nat)(b:z0s->Option (Int×Int))(a0:z0s)(d:Int->Int->Option (Int×Int)):Nat->Int×Int×Int->Option (Int×Int)
 |0,_=>none
 |e+1,c =>
  cnd (decide (c.2.2<((a0.fArgs.map idA).length:Int)))
   (idxD z1z a0.fArgs c.2.2 fun g =>
   bnd (b g) fun f =>
   (zfw n b a0 d e) ((IntKind.wrap .i64 (c.1+f.1)),(max c.2.1 f.2),(IntKind.wrap .i64 (c.2.2+1))))
  <| d c.1 c.2.1
def zfo:Nat->z0s->Option (Int×Int)
 |0,_=>none
 |n+1,a0 =>
 zfw n (zfo n) a0
  (fun b c=>some (b,(IntKind.wrap .i64 (c+1)))) n (1,0,0)
def zdq (n:Nat)(a0:Int)(b:Bool):Option (Int×Bool) :=
 cnd (b)
  (some (0,false))
 <| cnd (decide (a0<5))
  (some (0,true))
 <| cnd (decide (a0=12))
  (some (1,true))
 <| some (2,true)
def zin (n:Nat)(a0:Int):Option (Int×Bool) :=
 jon (zdq n a0) <|
 reg <| cnd (decide (a0<0))
  (zdq n a0 true)
 <| zdq n a0 (decide (12<a0))
def zep (n:Nat)(b:Bool):Option (Bool×Bool) :=
 cnd (b)
  (some (true,false))
 <| some (false,false)
def zeq (n:Nat)(a0:Int)(b:Bool):Option (Bool×Bool) :=
 cnd (b)
  (some (true,true))
 <| jon (zep n) <|
 reg <| cnd (decide (a0=2))
  (zep n (decide (a0=2)))
 <| zep n (decide (a0=3))
def zi7 (n:Nat)(a0:Int):Option (Bool×Bool) :=
 jon (zeq n a0) <|
 reg <| cnd (decide (a0=1))
  (zeq n a0 (decide (a0=1)))
 <| zeq n a0 (decide (a0=4))
def zgf (n:Nat)(a0:z05):Option (Int) :=
 cnd (decide (a0.fKind=0))
  (cnd (decide (a0.fNum<(-1099511627776)))
    (some 2)
  <| cnd (decide (1099511627776<a0.fNum))
   (some 2)
  <| cnd (decide (a0.fKind=1))
   (cnd (!decide (a0.fNum=0))
     (cnd (!decide (a0.fNum=1))
       (some 2)
     <| cnd (decide (64<((a0.fText.size:Nat):Int)))
      (some 13)
     <| some 0)
   <| cnd (decide (64<((a0.fText.size:Nat):Int)))
    (some 13)
   <| some 0)
  <| cnd (decide (64<((a0.fText.size:Nat):Int)))
   (some 13)
  <| some 0)
 <| cnd (decide (a0.fKind=1))
  (cnd (!decide (a0.fNum=0))
    (cnd (!decide (a0.fNum=1))
      (some 2)
    <| cnd (decide (64<((a0.fText.size:Nat):Int)))
     (some 13)
    <| some 0)
  <| cnd (decide (64<((a0.fText.size:Nat):Int)))
   (some 13)
  <| some 0)
 <| cnd (decide (64<((a0.fText.size:Nat):Int)))
  (some 13)
 <| some 0
def zci (n:Nat)(a0:z05):Option (Int) :=
 cnd (decide (a0.fKind=0))
  (cnd (decide (a0.fKind=0))
    (cnd (!(a0.fText.toList == ByteArray.empty.toList))
      (some 3)
    <| bnd (zgf n a0) fun x1 =>
    some x1)
  <| cnd (decide (a0.fKind=2))
   (cnd (!decide (a0.fNum=0))
     (some 3)
   <| bnd (zgf n a0) fun x2 =>
   some x2)
  <| some 1)
 <| cnd (decide (a0.fKind=1))
  (cnd (!(a0.fText.toList == ByteArray.empty.toList))
    (some 3)
  <| bnd (zgf n a0) fun x3 =>
  some x3)
 <| cnd (decide (a0.fKind=2))
  (cnd (!decide (a0.fNum=0))
    (some 3)
  <| bnd (zgf n a0) fun x4 =>
  some x4)
 <| some 1
def zbu (n:Nat)(b:Bool):Option (Bool) :=
 some b
def zim (n:Nat)(a0:Int)(a1:z05):Option (Bool) :=
 jon (zbu n) <|
 reg <| cnd (decide (a1.fKind=0))
  (zbu n true)
 <| cnd (decide (a0=4))
  (zbu n true)
 <| zbu n (decide (a0=5))
def z6b (n:Nat)(b:Bool):Option (Int) :=
 cnd (b)
  (some 9)
 <| some 0
def zfq (n:Nat)(a0:z0s):Option (Int) :=
 bnd (zci n a0.fValue) fun x1 =>
 cnd (!decide (x1=0))
  (some x1)
 <| jon (z6b n) <|
 reg <| cnd (decide (a0.fOp=4))
  (bnd (zim n a0.fKind a0.fValue) fun x4 =>
  cnd (!(x4))
   (z6b n true)
  <| cnd (decide (a0.fKind=1))
   (z6b n (!(decide (a0.fValue.fKind=0) && (decide (a0.fValue.fNum=0) && ((a0.fValue.fText.toList == ByteArray.empty.toList) && true)))))
  <| z6b n false)
 <| z6b n false
def z13 (n:Nat)(b:Bool):Option (Int) :=
 cnd (b)
  (some 3)
 <| some 0
def zer (n:Nat)(a0:z0s)(x2:Bool×Bool)(b:Bool)(_:Unit):Option (Int) :=
 jon (z13 n) <|
 reg <| cnd (!(x2.1))
  (cnd (!decide (a0.fVar=0))
    (z13 n true)
  <| cnd (!(x2.2))
   (cnd (!decide (a0.fField=0))
     (z13 n true)
   <| cnd (!(decide (a0.fOp=4)))
    (cnd (!decide (a0.fKind=0))
      (z13 n true)
    <| cnd (!(b))
     (z13 n (!(decide (a0.fValue.fKind=0) && (decide (a0.fValue.fNum=0) && ((a0.fValue.fText.toList == ByteArray.empty.toList) && true)))))
    <| z13 n false)
   <| cnd (!(b))
    (z13 n (!(decide (a0.fValue.fKind=0) && (decide (a0.fValue.fNum=0) && ((a0.fValue.fText.toList == ByteArray.empty.toList) && true)))))
   <| z13 n false)
  <| cnd (!(decide (a0.fOp=4)))
   (cnd (!decide (a0.fKind=0))
     (z13 n true)
   <| cnd (!(b))
    (z13 n (!(decide (a0.fValue.fKind=0) && (decide (a0.fValue.fNum=0) && ((a0.fValue.fText.toList == ByteArray.empty.toList) && true)))))
   <| z13 n false)
  <| cnd (!(b))
   (z13 n (!(decide (a0.fValue.fKind=0) && (decide (a0.fValue.fNum=0) && ((a0.fValue.fText.toList == ByteArray.empty.toList) && true)))))
  <| z13 n false)
 <| cnd (!(x2.2))
  (cnd (!decide (a0.fField=0))
    (z13 n true)
  <| cnd (!(decide (a0.fOp=4)))
   (cnd (!decide (a0.fKind=0))
     (z13 n true)
   <| cnd (!(b))
    (z13 n (!(decide (a0.fValue.fKind=0) && (decide (a0.fValue.fNum=0) && ((a0.fValue.fText.toList == ByteArray.empty.toList) && true)))))
   <| z13 n false)
  <| cnd (!(b))
   (z13 n (!(decide (a0.fValue.fKind=0) && (decide (a0.fValue.fNum=0) && ((a0.fValue.fText.toList == ByteArray.empty.toList) && true)))))
  <| z13 n false)
 <| cnd (!(decide (a0.fOp=4)))
  (cnd (!decide (a0.fKind=0))
    (z13 n true)
  <| cnd (!(b))
   (z13 n (!(decide (a0.fValue.fKind=0) && (decide (a0.fValue.fNum=0) && ((a0.fValue.fText.toList == ByteArray.empty.toList) && true)))))
  <| z13 n false)
 <| cnd (!(b))
  (z13 n (!(decide (a0.fValue.fKind=0) && (decide (a0.fValue.fNum=0) && ((a0.fValue.fText.toList == ByteArray.empty.toList) && true)))))
 <| z13 n false
def zes (n:Nat)(a0:z0s)(x2:Bool×Bool)(b:Bool):Option (Int) :=
 jon (zer n a0 x2 b) <|
 reg <| cnd (b)
  (bnd (zfq n a0) fun x8 =>
  cnd (!decide (x8=0))
   (some x8)
  <| zer n a0 x2 b ())
 <| zer n a0 x2 b ()
def zcp (n:Nat)(a0:z0s)(x2:Bool×Bool)(b:Bool):Option (Int) :=
 cnd (b)
  (some 1)
 <| jon (zes n a0 x2) <|
 reg <| cnd (decide (a0.fOp=4))
  (zes n a0 x2 true)
 <| zes n a0 x2 (decide (a0.fOp=0))
def z6o (n:Nat)(a0:z0s)(x2:Bool×Bool)(b:Bool):Option (Int) :=
 cnd (b)
  (some 2)
 <| jon (zcp n a0 x2) <|
 reg <| cnd (decide (a0.fOp=4))
  (cnd (decide (a0.fKind<1))
    (zcp n a0 x2 true)
  <| zcp n a0 x2 (decide (5<a0.fKind)))
 <| zcp n a0 x2 false
def zjv (n:Nat)(a0:z0s):Option (Int) :=
 bnd (zin n a0.fOp) fun x1 =>
 cnd (!(x1.2))
  (some 1)
 <| cnd (!decide (((a0.fArgs.map idA).length:Int)=x1.1))
  (some 15)
 <| bnd (zi7 n a0.fOp) fun x2 =>
 jon (z6o n a0 x2) <|
 reg <| cnd (x2.1)
  (cnd (decide (a0.fVar<0))
    (z6o n a0 x2 true)
  <| cnd (decide (16<=a0.fVar))
   (z6o n a0 x2 true)
  <| cnd (x2.2)
   (cnd (decide (a0.fField<0))
     (z6o n a0 x2 true)
   <| z6o n a0 x2 (decide (8<=a0.fField)))
  <| z6o n a0 x2 false)
 <| cnd (x2.2)
  (cnd (decide (a0.fField<0))
    (z6o n a0 x2 true)
  <| z6o n a0 x2 (decide (8<=a0.fField)))
 <| z6o n a0 x2 false
def zfc (n:Nat)(b:z0s->Option (Int))(a0:z0s)(c:Option (Int)):Nat->Int->Option (Int)
 |0,_=>none
 |e+1,d =>
  cnd (decide (d<((a0.fArgs.map idA).length:Int)))
   (idxD z1z a0.fArgs d fun g =>
   bnd (b g) fun f =>
   cnd (!decide (f=0))
    (some f)
   <| (zfc n b a0 c e) (IntKind.wrap .i64 (d+1)))
  <| c
def ze9:Nat->z0s->Option (Int)
 |0,_=>none
 |n+1,a0 =>
 bnd (zjv n a0) fun x1 =>
 cnd (!decide (x1=0))
  (some x1)
 <| zfc n (ze9 n) a0
  (some 0) n 0
def zeb (n:Nat)(a0:z0s):Option (Int) :=
 bnd (zfo n a0) fun x1 =>
 cnd (decide (64<x1.1))
  (some 5)
 <| cnd (decide (12<x1.2))
  (some 12)
 <| bnd (ze9 n a0) fun x2 =>
 some x2
def z87 (n:Nat)(b:Bool):Option (Bool) :=
 some b
def z40 (n:Nat)(a0:Int)(a1:Int):Option (Bool) :=
 jon (z87 n) <|
 reg <| cnd (decide (0<=a0))
  (z87 n (decide (a0<a1)))
 <| z87 n false
def zat (n:Nat)(a0:z0v)(a1:z0v):Option (Bool) :=
 some (decide (a0.fScope=a1.fScope))
def za1 (n:Nat)(d:z0v)(a0:(List z0v))(c:Option (Int)):Nat->Int->Option (Int)
 |0,_=>none
 |e+1,b =>
  cnd (decide (b<((a0.map z0u).length:Int)))
   (idx a0 b fun f =>
   bnd (zat n f d) fun g =>
   cnd (g)
    (some b)
   <| (za1 n d a0 c e) (IntKind.wrap .i64 (b+1)))
  <| c
def ze5 (n:Nat)(a0:(List z0v))(b:z0v):Option (Int) :=
 za1 n b a0
  (some (-1)) n 0
def za3 (n:Nat)(a0:(List z0v))(b:z0v):Option (Bool) :=
 bnd (ze5 n a0 b) fun x1 =>
 some (decide (0<=x1))
def z5f (n:Nat)(a1:(List z0v))(a0:z07)(b:Int)(c:Int->Option (Int))(d:z0v)(f:Bool):Option (Int) :=
 cnd (f)
  (some 2)
 <| sls a1 0 b fun g =>
 bnd (za3 n g d) fun h =>
 cnd (h)
  (some 7)
 <| bnd (zeb n d.fCond) fun e =>
 cnd (!decide (e=0))
  (some e)
 <| c (IntKind.wrap .i64 (b+1))
def z35 (n:Nat)(a1:(List z0v))(a0:z07)(b:Option (Int)):Nat->Int->Option (Int)
 |0,_=>none
 |d+1,c =>
  cnd (decide (c<((a1.map z0u).length:Int)))
   (idx a1 c fun e =>
   jon (z5f n a1 a0 c (z35 n a1 a0 b d) e) <|
   reg <| bnd (z40 n e.fScope a0.fScopes) fun f =>
   cnd (!(f))
    (z5f n a1 a0 c (z35 n a1 a0 b d) e true)
   <| bnd (z40 n e.fType 16) fun g =>
   cnd (!(g))
    (z5f n a1 a0 c (z35 n a1 a0 b d) e true)
   <| bnd (z40 n e.fVar a0.fVars) fun h =>
   z5f n a1 a0 c (z35 n a1 a0 b d) e !(h))
  <| b
def zed (n:Nat)(a0:z07)(a1:(List z0v)):Option (Int) :=
 cnd (decide (64<((a1.map z0u).length:Int)))
  (some 5)
 <| z35 n a1 a0
  (some 0) n 0
def z9e (n:Nat)(a0:(List z1g))(c:(List Int)->Option ((List Int))):Nat->Int×(List Int)->Option ((List Int))
 |0,_=>none
 |d+1,b =>
  cnd (decide (b.1<((a0.map z27).length:Int)))
   (idx a0 b.1 fun e =>
   app b.2 [e.fScope] 8 fun f =>
   (z9e n a0 c d) ((IntKind.wrap .i64 (b.1+1)),f))
  <| c b.2
def zbe (n:Nat)(a0:(List z1g)):Option ((List Int)) :=
 z9e n a0
  (fun b=>some b) n (0,[])
def zcs (n:Nat)(a1:Int)(a0:(List Int))(c:Option (Int)):Nat->Int->Option (Int)
 |0,_=>none
 |d+1,b =>
  cnd (decide (b<((a0.map aI).length:Int)))
   (idx a0 b fun e =>
   cnd (decide (a1=e))
    (some b)
   <| (zcs n a1 a0 c d) (IntKind.wrap .i64 (b+1)))
  <| c
def zi9 (n:Nat)(a0:(List Int))(a1:Int):Option (Int) :=
 zcs n a1 a0
  (some (-1)) n 0
def z8k (n:Nat)(a0:(List Int))(a1:Int):Option (Bool) :=
 bnd (zi9 n a0 a1) fun x1 =>
 some (decide (0<=x1))
def z41 (n:Nat)(a1:(List (List Int)))(a0:z07)(g:Int)(d:(List Int))(c:Option (Int)):Nat->Int->Option (Int)
 |0,_=>none
 |e+1,b =>
  cnd (decide (b<((d.map aI).length:Int)))
   (idx d b fun f =>
   bnd (z40 n f a0.fScopes) fun h =>
   cnd (!(h))
    (some 2)
   <| sls d 0 b fun j =>
   bnd (z8k n j f) fun k =>
   cnd (k)
    (some 7)
   <| (z41 n a1 a0 g d c e) (IntKind.wrap .i64 (b+1)))
  <| c
def z5e (n:Nat)(a1:(List (List Int)))(a0:z07)(c:Option (Int)):Nat->Int->Option (Int)
 |0,_=>none
 |d+1,b =>
  cnd (decide (b<(((List.map (fun q=>AV.sl 1 (List.map aI q)) (a1)).length:Nat):Int)))
   (idx a1 b fun e =>
   z41 n a1 a0 b e
    ((z5e n a1 a0 c d) (IntKind.wrap .i64 (b+1))) n 0)
  <| c
def zec (n:Nat)(a0:z07)(a1:(List (List Int))):Option (Int) :=
 z5e n a1 a0
  (some 0) n 0
def z88 (n:Nat)(b:Bool):Option (Bool) :=
 some b
def zaj (n:Nat)(a0:z1g):Option (Bool) :=
 jon (z88 n) <|
 reg <| cnd (decide (a0.fSpan<0))
  (z88 n true)
 <| z88 n (decide (1099511627776<a0.fSpan))
def z6k (n:Nat)(a0:(List z1g))(c:Option (Int)):Nat->Int->Option (Int)
 |0,_=>none
 |d+1,b =>
  cnd (decide (b<((a0.map z27).length:Int)))
   (idx a0 b fun e =>
   bnd (zaj n e) fun f =>
   cnd (f)
    (some b)
   <| (z6k n a0 c d) (IntKind.wrap .i64 (b+1)))
  <| c
def zb7 (n:Nat)(a0:(List z1g)):Option (Int) :=
 z6k n a0
  (some (-1)) n 0
def z6l (n:Nat)(a0:(List z1g)):Option (Bool) :=
 bnd (zb7 n a0) fun x1 =>
 some (decide (0<=x1))
def zbf (n:Nat)(a1:z0t)(a0:z07)(b:Option (Int)):Nat->Int->Option (Int)
 |0,_=>none
 |d+1,c =>
  cnd (decide (c<((a1.fChecks.map idA).length:Int)))
   (idxD z1z a1.fChecks c fun f =>
   bnd (zeb n f) fun e =>
   cnd (!decide (e=0))
    (some e)
   <| (zbf n a1 a0 b d) (IntKind.wrap .i64 (c+1)))
  <| b
def z21 (n:Nat)(a2:Int)(a1:z0t)(a0:z07)(c:Bool):Option (Int) :=
 cnd (c)
  (some 2)
 <| cnd (decide (a1.fFrom<a2))
  (some 14)
 <| bnd (zeb n a1.fCond) fun x5 =>
 cnd (!decide (x5=0))
  (some x5)
 <| cnd (decide (64<((a1.fChecks.map idA).length:Int)))
  (some 5)
 <| zbf n a1 a0
  (bnd (zbe n a1.fLimits) fun d =>
 bnd (zec n a0 ([a1.fOpens,a1.fCloses,a1.fInside,d])) fun b =>
 cnd (!decide (b=0))
  (some b)
 <| bnd (z6l n a1.fLimits) fun e =>
 cnd (e)
  (some 2)
 <| some 0) n 0
def zfr (n:Nat)(a0:z07)(a1:z0t)(a2:Int):Option (Int) :=
 jon (z21 n a2 a1 a0) <|
 reg <| bnd (z40 n a1.fFrom ((a0.fStates.map z0q).length:Int)) fun b =>
 cnd (!(b))
  (z21 n a2 a1 a0 true)
 <| cnd (decide (a1.fTo<(-1)))
  (z21 n a2 a1 a0 true)
 <| cnd (decide (((a0.fStates.map z0q).length:Int)<=a1.fTo))
  (z21 n a2 a1 a0 true)
 <| bnd (z40 n a1.fVar a0.fVars) fun c =>
 cnd (!(c))
  (z21 n a2 a1 a0 true)
 <| bnd (z40 n a1.fType 16) fun d =>
 z21 n a2 a1 a0 !(d)
def zau (n:Nat)(a0:z07)(c:Option (Int)):Nat->Int×Int->Option (Int)
 |0,_=>none
 |d+1,b =>
  cnd (decide (b.2<((a0.fEdges.map z0w).length:Int)))
   (idx a0.fEdges b.2 fun e =>
   bnd (zfr n a0 e b.1) fun f =>
   cnd (!decide (f=0))
    (some f)
   <| (zau n a0 c d) (e.fFrom,(IntKind.wrap .i64 (b.2+1))))
  <| c
def zav (n:Nat)(a0:z07)(b:Option (Int)):Nat->Int->Option (Int)
 |0,_=>none
 |d+1,c =>
  cnd (decide (c<((a0.fStates.map z0q).length:Int)))
   (idx a0.fStates c fun f =>
   bnd (zed n a0 f.fGuards) fun e =>
   cnd (!decide (e=0))
    (some e)
   <| (zav n a0 b d) (IntKind.wrap .i64 (c+1)))
  <| b
def z3h (n:Nat)(a0:z07)(b:Bool):Option (Int) :=
 cnd (b)
  (some 5)
 <| zav n a0
  (zau n a0
  (some 0) n (0,0)) n 0
def z2r (n:Nat)(a0:z07)(b:Bool):Option (Int) :=
 cnd (b)
  (some 2)
 <| jon (z3h n a0) <|
 reg <| cnd (decide (((a0.fStates.map z0q).length:Int)<1))
  (z3h n a0 true)
 <| cnd (decide (256<((a0.fStates.map z0q).length:Int)))
  (z3h n a0 true)
 <| z3h n a0 (decide (2048<((a0.fEdges.map z0w).length:Int)))
def zbg (n:Nat)(a0:z07):Option (Int) :=
 jon (z2r n a0) <|
 reg <| cnd (decide (a0.fVars<0))
  (z2r n a0 true)
 <| cnd (decide (16<a0.fVars))
  (z2r n a0 true)
 <| cnd (decide (a0.fScopes<0))
  (z2r n a0 true)
 <| z2r n a0 (decide (64<a0.fScopes))
def z3v (n:Nat)(b:Bool):Option (Bool) :=
 some b
def zam (n:Nat)(a0:Int):Option (Bool) :=
 jon (z3v n) <|
 reg <| cnd (decide (0<=a0))
  (z3v n (decide (a0<=5)))
 <| z3v n false
structure z0p where
 fKind:Int
 fCount:Int
 fValue:z05
deriving DecidableEq,Inhabited
def z36 (x:z0p):AV:=.agg [aI (x.fKind),aI (x.fCount),aI (x.fValue.fKind),aI (x.fValue.fNum),.str (x.fValue.fText)]
abbrev zf2 (x:z0p):List AV:=[aI (x.fKind),aI (x.fCount),aI (x.fValue.fKind),aI (x.fValue.fNum),.str (x.fValue.fText)]
def z2e (n:Nat)(b:Bool):Option (Int) :=
 cnd (b)
  (some 3)
 <| some 0
def z51 (n:Nat)(b:Bool):Option (Int) :=
 cnd (b)
  (some 3)
 <| some 0
def z52 (n:Nat)(a0:z0p)(b:Bool):Option (Int) :=
 cnd (b)
  (cnd (!(decide (a0.fValue.fKind=0) && (decide (a0.fValue.fNum=0) && ((a0.fValue.fText.toList == ByteArray.empty.toList) && true))))
    (some 3)
  <| some 0)
 <| cnd (decide (a0.fKind=1))
  (jon (z2e n) <|
  reg <| cnd (!decide (a0.fValue.fKind=0))
   (z2e n true)
  <| cnd (!(a0.fValue.fText.toList == ByteArray.empty.toList))
   (z2e n true)
  <| cnd (decide (a0.fValue.fNum<(IntKind.wrap .i64 (0-(IntKind.wrap .i64 (a0.fCount*1099511627776))))))
   (z2e n true)
  <| z2e n (decide ((IntKind.wrap .i64 (a0.fCount*1099511627776))<a0.fValue.fNum)))
 <| jon (z51 n) <|
 reg <| bnd (z3w n a0.fValue) fun x8 =>
 cnd (!decide (x8=0))
  (z51 n true)
 <| bnd (z82 n a0.fKind a0.fValue) fun x9 =>
 z51 n !(x9)
def z54 (n:Nat)(a0:z0p)(b:Bool):Option (Int) :=
 cnd (b)
  (some 2)
 <| jon (z52 n a0) <|
 reg <| cnd (decide (a0.fCount=0))
  (z52 n a0 true)
 <| z52 n a0 (decide (a0.fKind=0))
def z9y (n:Nat)(a0:z0p):Option (Int) :=
 bnd (zam n a0.fKind) fun x1 =>
 cnd (!(x1))
  (some 1)
 <| jon (z54 n a0) <|
 reg <| cnd (decide (a0.fCount<0))
  (z54 n a0 true)
 <| z54 n a0 (decide (4096<a0.fCount))
def z9w (n:Nat)(a0:Int)(a1:z05):Option (Int) :=
 bnd (z3w n a1) fun x1 =>
 cnd (!decide (x1=0))
  (some x1)
 <| bnd (z82 n a0 a1) fun x2 =>
 cnd (!(x2))
  (some 9)
 <| some 0
def zad (n:Nat)(a0:Int)(a1:z05)(a2:z05):Option (z05) :=
 cnd (decide (a0=1))
  (some (⟨0,(IntKind.wrap .i64 (a1.fNum+a2.fNum)),ByteArray.empty⟩))
 <| cnd (decide (a0=2))
  (some (⟨0,(min a1.fNum a2.fNum),ByteArray.empty⟩))
 <| cnd (decide (a0=3))
  (some (⟨0,(max a1.fNum a2.fNum),ByteArray.empty⟩))
 <| cnd (decide (a0=4))
  (some a1)
 <| cnd (decide (a0=5))
  (some a2)
 <| some (⟨0,0,ByteArray.empty⟩)
def z4n (n:Nat)(a0:z0p)(b:Int×Int×ByteArray):Option (z0p×Int) :=
 some (⟨a0.fKind,(IntKind.wrap .i64 (a0.fCount+1)),⟨b.1,b.2.1,b.2.2⟩⟩,0)
def zdb (n:Nat)(a0:z0p)(a1:z05):Option (z0p×Int) :=
 bnd (z9y n a0) fun x1 =>
 cnd (!decide (x1=0))
  (some (⟨0,0,⟨0,0,ByteArray.empty⟩⟩,x1))
 <| bnd (z9w n a0.fKind a1) fun x2 =>
 cnd (!decide (x2=0))
  (some (⟨0,0,⟨0,0,ByteArray.empty⟩⟩,x2))
 <| cnd (decide (a0.fCount=4096))
  (some (⟨0,0,⟨0,0,ByteArray.empty⟩⟩,5))
 <| jon (z4n n a0) <|
 reg <| cnd (decide (a0.fKind=0))
  (z4n n a0 (0,0,ByteArray.empty))
 <| reg <| cnd (decide (0<a0.fCount))
  (bnd (zad n a0.fKind a0.fValue a1) fun x7 =>
  z4n n a0 (x7.fKind,x7.fNum,x7.fText))
 <| z4n n a0 (a1.fKind,a1.fNum,a1.fText)
def z4a (n:Nat)(a1:z05)(a0:z0p)(b:Bool):Option (z05×Int) :=
 cnd (b)
  (some (a1,0))
 <| some (a0.fValue,0)
def z98 (n:Nat)(a0:z0p)(a1:z05):Option (z05×Int) :=
 bnd (z9y n a0) fun x1 =>
 cnd (!decide (x1=0))
  (some (⟨0,0,ByteArray.empty⟩,x1))
 <| bnd (z9w n a0.fKind a1) fun x2 =>
 cnd (!decide (x2=0))
  (some (⟨0,0,ByteArray.empty⟩,x2))
 <| cnd (decide (a0.fKind=0))
  (some (⟨0,a0.fCount,ByteArray.empty⟩,0))
 <| jon (z4a n a1 a0) <|
 reg <| cnd (decide (a0.fCount=0))
  (z4a n a1 a0 (!decide (a0.fKind=1)))
 <| z4a n a1 a0 false
def z9x (n:Nat)(a2:z05)(a1:(List z05))(d:Int->Int->Int->Int->ByteArray->Option (z05×Int)):Nat->Int×Int×Int×Int×Int×ByteArray->Option (z05×Int)
 |0,_=>none
 |e+1,b =>
  cnd (decide (b.1<((a1.map z08).length:Int)))
   (idx a1 b.1 fun f =>
   bnd (zdb n (⟨b.2.1,b.2.2.1,⟨b.2.2.2.1,b.2.2.2.2.1,b.2.2.2.2.2⟩⟩:z0p) f) fun c =>
   cnd (!decide (c.2=0))
    (some (⟨0,0,ByteArray.empty⟩,c.2))
   <| (z9x n a2 a1 d e) ((IntKind.wrap .i64 (b.1+1)),c.1.fKind,c.1.fCount,c.1.fValue.fKind,c.1.fValue.fNum,c.1.fValue.fText))
  <| d b.2.1 b.2.2.1 b.2.2.2.1 b.2.2.2.2.1 b.2.2.2.2.2
def zbx (n:Nat)(a0:Int)(a1:(List z05))(a2:z05):Option (z05×Int) :=
 bnd (zam n a0) fun x1 =>
 cnd (!(x1))
  (some (⟨0,0,ByteArray.empty⟩,1))
 <| cnd (decide (4096<((a1.map z08).length:Int)))
  (some (⟨0,0,ByteArray.empty⟩,5))
 <| z9x n a2 a1
  (fun b c d e f=>bnd (z98 n (⟨b,c,⟨d,e,f⟩⟩:z0p) a2) fun g =>
 some (g.1,g.2)) n (0,a0,0,0,0,ByteArray.empty)
structure z03 where
 fSource:Int
 fSeq:Int
 fType:Int
 fTime:Int
 fValues:(List z05)
deriving DecidableEq,Inhabited
def z02 (x:z03):AV:=.agg [aI (x.fSource),aI (x.fSeq),aI (x.fType),aI (x.fTime),.sl 3 (x.fValues.map z08)]
abbrev z16 (x:z03):List AV:=[aI (x.fSource),aI (x.fSeq),aI (x.fType),aI (x.fTime),.sl 3 (x.fValues.map z08)]
structure z0i where
 fVars:(List (List z03))
deriving DecidableEq,Inhabited
def zd2 (x:z0i):AV:=.agg [.sl 1 (List.map (fun q=>AV.sl 5 (List.map z02 q)) (x.fVars))]
abbrev zd4 (x:z0i):List AV:=[.sl 1 (List.map (fun q=>AV.sl 5 (List.map z02 q)) (x.fVars))]
def z49 (n:Nat)(a1:Int)(a0:z0i)(b:Bool):Option ((List z03)) :=
 cnd (b)
  (some [])
 <| idx a0.fVars a1 fun x2 =>
 some x2
def z73 (n:Nat)(a0:z0i)(a1:Int):Option ((List z03)) :=
 jon (z49 n a1 a0) <|
 reg <| cnd (decide (a1<0))
  (z49 n a1 a0 true)
 <| z49 n a1 a0 (decide ((((List.map (fun q=>AV.sl 5 (List.map z02 q)) (a0.fVars)).length:Nat):Int)<=a1))
def zev (n:Nat)(a0:z0i)(a1:Int)(a2:Int)(a3:z03):Option (z03×Bool) :=
 cnd (decide (a1=a2))
  (some (a3,true))
 <| bnd (z73 n (⟨a0.fVars⟩:z0i) a1) fun x1 =>
 cnd (decide (((x1.map z02).length:Int)=0))
  (some (⟨0,0,0,0,[]⟩,false))
 <| idx x1 (IntKind.wrap .i64 (((x1.map z02).length:Int)-1)) fun x2 =>
 some (x2,true)
def z8h (n:Nat)(a0:z0s)(x2:(List z03))(c:(List z05)->Option (z05×Int)):Nat->Int×(List z05)->Option (z05×Int)
 |0,_=>none
 |d+1,b =>
  cnd (decide (b.1<((x2.map z02).length:Int)))
   (idx x2 b.1 fun e =>
   cnd (decide (((e.fValues.map z08).length:Int)<=a0.fField))
    (some (⟨0,0,ByteArray.empty⟩,6))
   <| idx x2 b.1 fun f =>
   idx f.fValues a0.fField fun g =>
   app b.2 [g] 32 fun h =>
   (z8h n a0 x2 c d) ((IntKind.wrap .i64 (b.1+1)),h))
  <| c b.2
def zal (n:Nat)(a0:z0s)(a1:z0i)(a2:Int)(a3:z03):Option (z05×Int) :=
 cnd (decide (a0.fOp=0))
  (some (a0.fValue,0))
 <| cnd (decide (a0.fOp=3))
  (bnd (z73 n (⟨a1.fVars⟩:z0i) a0.fVar) fun x1 =>
  some (⟨0,((x1.map z02).length:Int),ByteArray.empty⟩,0))
 <| cnd (decide (a0.fOp=4))
  (bnd (z73 n (⟨a1.fVars⟩:z0i) a0.fVar) fun x2 =>
  z8h n a0 x2
   (fun c=>bnd (zbx n a0.fKind c a0.fValue) fun d =>
  some (d.1,d.2)) n (0,[]))
 <| bnd (zev n (⟨a1.fVars⟩:z0i) a0.fVar a2 a3) fun b =>
 cnd (!(b.2))
  (some (⟨0,0,ByteArray.empty⟩,10))
 <| cnd (decide (a0.fOp=2))
  (some (⟨0,b.1.fTime,ByteArray.empty⟩,0))
 <| cnd (decide (((b.1.fValues.map z08).length:Int)<=a0.fField))
  (some (⟨0,0,ByteArray.empty⟩,6))
 <| idx b.1.fValues a0.fField fun f =>
 bnd (z3w n f) fun e =>
 cnd (!decide (e=0))
  (some (⟨0,0,ByteArray.empty⟩,e))
 <| idx b.1.fValues a0.fField fun g =>
 some (g,0)
def z29 (n:Nat)(b:Bool):Option (Int) :=
 cnd (b)
  (some 1)
 <| some (-1)
def z1s (n:Nat)(a0:Int)(b:Bool):Option (Int) :=
 cnd (b)
  (some 0)
 <| jon (z29 n) <|
 reg <| cnd (decide (a0=10))
  (z29 n (decide (a0=10)))
 <| reg <| cnd (decide (a0=11))
  (z29 n (decide (a0=11)))
 <| z29 n (decide (a0=12))
def z9v (n:Nat)(a0:Int):Option (Int) :=
 jon (z1s n a0) <|
 reg <| cnd (decide (a0=5))
  (z1s n a0 (decide (a0=5)))
 <| reg <| cnd (decide (a0=6))
  (z1s n a0 (decide (a0=6)))
 <| reg <| cnd (decide (a0=7))
  (z1s n a0 (decide (a0=7)))
 <| z1s n a0 (decide (a0=8))
def z1h (n:Nat)(a1:(List Int))(a0:Int)(c:Int)(b:Int->Option (Int))(d:Bool):Option (Int) :=
 cnd (d)
  (some 9)
 <| b (IntKind.wrap .i64 (c+1))
def z1a (n:Nat)(a1:(List Int))(a0:Int)(b:Option (Int)):Nat->Int->Option (Int)
 |0,_=>none
 |d+1,c =>
  cnd (decide (c<((a1.map aI).length:Int)))
   (bnd (z9v n a0) fun e =>
   jon (z1h n a1 a0 c (z1a n a1 a0 b d)) <|
   reg <| cnd (decide (0<=e))
    (idx a1 c fun f =>
    cnd (!decide (f=e))
     (z1h n a1 a0 c (z1a n a1 a0 b d) true)
    <| cnd (decide (a0=9))
     (idx a1 c fun g =>
     idx a1 0 fun h =>
     z1h n a1 a0 c (z1a n a1 a0 b d) (!decide (g=h)))
    <| z1h n a1 a0 c (z1a n a1 a0 b d) false)
   <| cnd (decide (a0=9))
    (idx a1 c fun j =>
    idx a1 0 fun k =>
    z1h n a1 a0 c (z1a n a1 a0 b d) (!decide (j=k)))
   <| z1h n a1 a0 c (z1a n a1 a0 b d) false)
  <| b
def zbw (n:Nat)(a0:Int)(a1:(List Int)):Option (Int) :=
 z1a n a1 a0
  (some 0) n 0
def z1k (n:Nat)(a0:Bool):Option (z05) :=
 cnd (a0)
  (some (⟨1,1,ByteArray.empty⟩))
 <| some (⟨1,0,ByteArray.empty⟩)
def z4x (n:Nat)(b:Int×Int×ByteArray):Option (z05) :=
 some (⟨b.1,b.2.1,b.2.2⟩)
def z4w (n:Nat)(b:Int×Int×ByteArray):Option (z05) :=
 some (⟨b.1,b.2.1,b.2.2⟩)
def z81 (n:Nat)(a0:Int)(a1:(List z05)):Option (z05) :=
 cnd (decide (a0=5))
  (idx a1 0 fun x1 =>
  idx a1 1 fun x2 =>
  some (⟨0,(IntKind.wrap .i64 (x1.fNum+x2.fNum)),ByteArray.empty⟩))
 <| cnd (decide (a0=6))
  (idx a1 0 fun x3 =>
  idx a1 1 fun x4 =>
  some (⟨0,(IntKind.wrap .i64 (x3.fNum-x4.fNum)),ByteArray.empty⟩))
 <| cnd (decide (a0=7))
  (idx a1 0 fun x5 =>
  idx a1 1 fun x6 =>
  bnd (z1k n (decide (x5.fNum<x6.fNum))) fun x7 =>
  some x7)
 <| cnd (decide (a0=8))
  (idx a1 0 fun x8 =>
  idx a1 1 fun x9 =>
  bnd (z1k n (decide (x8.fNum<=x9.fNum))) fun h =>
  some h)
 <| cnd (decide (a0=9))
  (idx a1 0 fun b =>
  idx a1 1 fun c =>
  bnd (z1k n (decide (b.fKind=c.fKind) && (decide (b.fNum=c.fNum) && ((b.fText.toList == c.fText.toList) && true)))) fun j =>
  some j)
 <| cnd (decide (a0=10))
  (jon (z4x n) <|
  reg <| idx a1 0 fun k =>
  cnd (decide (k.fNum=1))
   (idx a1 1 fun l =>
   bnd (z1k n (decide (l.fNum=1))) fun d =>
   z4x n (d.fKind,d.fNum,d.fText))
  <| bnd (z1k n false) fun e =>
  z4x n (e.fKind,e.fNum,e.fText))
 <| cnd (decide (a0=11))
  (jon (z4w n) <|
  reg <| idx a1 0 fun o =>
  cnd (decide (o.fNum=1))
   (bnd (z1k n true) fun f =>
   z4w n (f.fKind,f.fNum,f.fText))
  <| idx a1 1 fun p =>
  bnd (z1k n (decide (p.fNum=1))) fun g =>
  z4w n (g.fKind,g.fNum,g.fText))
 <| idx a1 0 fun q =>
 bnd (z1k n (!decide (q.fNum=1))) fun s =>
 some s
def z8i (n:Nat)(b:z0s->z0i->Int->z03->Option (z05×Int))(a3:z03)(a2:Int)(a1:z0i)(a0:z0s)(d:(List z05)->(List Int)->Option (z05×Int)):Nat->Int×(List z05)×(List Int)->Option (z05×Int)
 |0,_=>none
 |f+1,c =>
  cnd (decide (c.1<((a0.fArgs.map idA).length:Int)))
   (idxD z1z a0.fArgs c.1 fun g =>
   bnd (b g (⟨a1.fVars⟩:z0i) a2 a3) fun e =>
   cnd (!decide (e.2=0))
    (some (⟨0,0,ByteArray.empty⟩,e.2))
   <| app c.2.1 [e.1] 32 fun h =>
   app c.2.2 [e.1.fKind] 8 fun j =>
   (z8i n b a3 a2 a1 a0 d f) ((IntKind.wrap .i64 (c.1+1)),h,j))
  <| d c.2.1 c.2.2
def z4r:Nat->z0s->z0i->Int->z03->Option (z05×Int)
 |0,_,_,_,_=>none
 |n+1,a0,a1,a2,a3 =>
 cnd (decide (((a0.fArgs.map idA).length:Int)=0))
  (bnd (zal n a0 (⟨a1.fVars⟩:z0i) a2 a3) fun x1 =>
  some (x1.1,x1.2))
 <| z8i n (z4r n) a3 a2 a1 a0
  (fun b c=>bnd (zbw n a0.fOp c) fun d =>
 cnd (!decide (d=0))
  (some (⟨0,0,ByteArray.empty⟩,d))
 <| bnd (z81 n a0.fOp b) fun e =>
 some (e,0)) n (0,[],[])
def zew (n:Nat)(a0:z0s)(a1:z0i)(a2:Int)(a3:z03):Option (z05×Int) :=
 bnd (z34 n a0) fun x1 =>
 cnd (!decide (x1=0))
  (some (⟨0,0,ByteArray.empty⟩,x1))
 <| bnd (z4r n a0 (⟨a1.fVars⟩:z0i) a2 a3) fun x2 =>
 some (x2.1,x2.2)
def z4y (n:Nat)(b:Bool):Option (Bool) :=
 some b
def z31 (n:Nat)(a0:z0s)(a1:z0i)(a2:Int)(a3:z03):Option (Bool) :=
 bnd (zew n a0 (⟨a1.fVars⟩:z0i) a2 a3) fun x1 =>
 jon (z4y n) <|
 reg <| cnd (decide (x1.2=0))
  (bnd (z1k n true) fun x4 =>
  z4y n (decide (x1.1.fKind=x4.fKind) && (decide (x1.1.fNum=x4.fNum) && ((x1.1.fText.toList == x4.fText.toList) && true))))
 <| z4y n false
structure z1f where
 fTime:Int
 fSource:Int
 fSeq:Int
deriving DecidableEq,Inhabited
def z1b (x:z1f):AV:=.agg [aI (x.fTime),aI (x.fSource),aI (x.fSeq)]
abbrev yjf (x:z1f):List AV:=[aI (x.fTime),aI (x.fSource),aI (x.fSeq)]
structure z0h where
 fVar:Int
 fRef:z1f
deriving DecidableEq,Inhabited
def z0b (x:z0h):AV:=.agg [aI (x.fVar),aI (x.fRef.fTime),aI (x.fRef.fSource),aI (x.fRef.fSeq)]
abbrev y52 (x:z0h):List AV:=[aI (x.fVar),aI (x.fRef.fTime),aI (x.fRef.fSource),aI (x.fRef.fSeq)]
structure z06 where
 fBindings:(List z0h)
deriving DecidableEq,Inhabited
def z0d (x:z06):AV:=.agg [.sl 4 (x.fBindings.map z0b)]
abbrev zel (x:z06):List AV:=[.sl 4 (x.fBindings.map z0b)]
def z9z (n:Nat)(a0:z1f)(a1:z1f):Option (Int) :=
 cnd (!decide (a0.fTime=a1.fTime))
  (cnd (decide (a0.fTime<a1.fTime))
    (some (-1))
  <| some 1)
 <| cnd (!decide (a0.fSource=a1.fSource))
  (cnd (decide (a0.fSource<a1.fSource))
    (some (-1))
  <| some 1)
 <| cnd (decide (a0.fSeq<a1.fSeq))
  (some (-1))
 <| cnd (decide (a1.fSeq<a0.fSeq))
  (some 1)
 <| some 0
def zbo (n:Nat)(a0:z0h)(a1:z0h):Option (Int) :=
 bnd (z9z n (⟨a0.fRef.fTime,a0.fRef.fSource,a0.fRef.fSeq⟩:z1f) (⟨a1.fRef.fTime,a1.fRef.fSource,a1.fRef.fSeq⟩:z1f)) fun x1 =>
 cnd (!decide (x1=0))
  (some x1)
 <| cnd (decide (a0.fVar<a1.fVar))
  (some (-1))
 <| cnd (decide (a1.fVar<a0.fVar))
  (some 1)
 <| some 0
def z3k (n:Nat)(a1:z06)(a0:z06)(b:Int)(e:Option (Int))(f:Int->Option (Int))(h:Bool):Option (Int) :=
 cnd (h)
  (idx a0.fBindings b fun c =>
  idx a1.fBindings b fun d =>
  bnd (zbo n (⟨c.fVar,⟨c.fRef.fTime,c.fRef.fSource,c.fRef.fSeq⟩⟩:z0h) (⟨d.fVar,⟨d.fRef.fTime,d.fRef.fSource,d.fRef.fSeq⟩⟩:z0h)) fun g =>
  cnd (!decide (g=0))
   (some g)
  <| f (IntKind.wrap .i64 (b+1)))
 <| e
def z2o (n:Nat)(a1:z06)(a0:z06)(b:Option (Int)):Nat->Int->Option (Int)
 |0,_=>none
 |d+1,c =>
  jon (z3k n a1 a0 c b (z2o n a1 a0 b d)) <|
  reg <| cnd (decide (c<((a0.fBindings.map z0b).length:Int)))
   (z3k n a1 a0 c b (z2o n a1 a0 b d) (decide (c<((a1.fBindings.map z0b).length:Int))))
  <| z3k n a1 a0 c b (z2o n a1 a0 b d) false
def z5x (n:Nat)(a0:z06)(a1:z06):Option (Int) :=
 z2o n a1 a0
  (cnd (decide (((a0.fBindings.map z0b).length:Int)<((a1.fBindings.map z0b).length:Int)))
  (some (-1))
 <| cnd (decide (((a1.fBindings.map z0b).length:Int)<((a0.fBindings.map z0b).length:Int)))
  (some 1)
 <| some 0) n 0
structure z0a where
 fScope:Int
 fTime:Int
deriving DecidableEq,Inhabited
def z09 (x:z0a):AV:=.agg [aI (x.fScope),aI (x.fTime)]
abbrev ztg (x:z0a):List AV:=[aI (x.fScope),aI (x.fTime)]
structure z00 where
 fState:Int
 fBindings:(List z0h)
 fStarts:(List z0a)
deriving DecidableEq,Inhabited
def z01 (x:z00):AV:=.agg [aI (x.fState),.sl 4 (x.fBindings.map z0b),.sl 2 (x.fStarts.map z09)]
abbrev z10 (x:z00):List AV:=[aI (x.fState),.sl 4 (x.fBindings.map z0b),.sl 2 (x.fStarts.map z09)]
def z2n (n:Nat)(a1:z00)(a0:z00)(e:Int)(b:Int->Option (Int))(c:z0a)(d:z0a)(f:Bool):Option (Int) :=
 cnd (f)
  (some (-1))
 <| cnd (!(decide (c.fScope=d.fScope) && (decide (c.fTime=d.fTime) && true)))
  (some 1)
 <| b (IntKind.wrap .i64 (e+1))
def z3j (n:Nat)(a1:z00)(a0:z00)(b:Int)(f:Option (Int))(c:Int->Option (Int))(g:Bool):Option (Int) :=
 cnd (g)
  (idx a0.fStarts b fun d =>
  idx a1.fStarts b fun e =>
  jon (z2n n a1 a0 b c d e) <|
  reg <| cnd (decide (d.fScope<e.fScope))
   (z2n n a1 a0 b c d e true)
  <| cnd (decide (d.fScope=e.fScope))
   (z2n n a1 a0 b c d e (decide (d.fTime<e.fTime)))
  <| z2n n a1 a0 b c d e false)
 <| f
def z2m (n:Nat)(a1:z00)(a0:z00)(b:Option (Int)):Nat->Int->Option (Int)
 |0,_=>none
 |d+1,c =>
  jon (z3j n a1 a0 c b (z2m n a1 a0 b d)) <|
  reg <| cnd (decide (c<((a0.fStarts.map z09).length:Int)))
   (z3j n a1 a0 c b (z2m n a1 a0 b d) (decide (c<((a1.fStarts.map z09).length:Int))))
  <| z3j n a1 a0 c b (z2m n a1 a0 b d) false
def z3r (n:Nat)(a0:z00)(a1:z00):Option (Int) :=
 cnd (!decide (a0.fState=a1.fState))
  (cnd (decide (a0.fState<a1.fState))
    (some (-1))
  <| some 1)
 <| bnd (z5x n (⟨a0.fBindings⟩:z06) (⟨a1.fBindings⟩:z06)) fun x1 =>
 cnd (!decide (x1=0))
  (some x1)
 <| z2m n a1 a0
  (cnd (decide (((a0.fStarts.map z09).length:Int)<((a1.fStarts.map z09).length:Int)))
  (some (-1))
 <| cnd (decide (((a1.fStarts.map z09).length:Int)<((a0.fStarts.map z09).length:Int)))
  (some 1)
 <| some 0) n 0
def z6v (n:Nat)(a1:z00)(a0:(List z00))(b:Int)(c:Bool):Option ((List z00)) :=
 cnd (c)
  (some a0)
 <| sls a0 0 b fun d =>
 app ([]:List z00) d 56 fun e =>
 app e [a1] 56 fun f =>
 sls a0 b ((a0.map z01).length:Int) fun g =>
 app f g 56 fun h =>
 some h
def z6u (n:Nat)(a1:z00)(a0:(List z00))(b:Int)(c:Int->Option ((List z00)))(d:Int->Option ((List z00)))(e:Bool):Option ((List z00)) :=
 cnd (e)
  (d (IntKind.wrap .i64 (b+1)))
 <| c b
def z4i (n:Nat)(a1:z00)(a0:(List z00))(b:Int->Option ((List z00))):Nat->Int->Option ((List z00))
 |0,_=>none
 |d+1,c =>
  jon (z6u n a1 a0 c b (z4i n a1 a0 b d)) <|
  reg <| cnd (decide (c<((a0.map z01).length:Int)))
   (idx a0 c fun e =>
   bnd (z3r n e a1) fun f =>
   z6u n a1 a0 c b (z4i n a1 a0 b d) (decide (f<0)))
  <| z6u n a1 a0 c b (z4i n a1 a0 b d) false
def z9m (n:Nat)(a0:(List z00))(a1:z00):Option ((List z00)) :=
 z4i n a1 a0
  (fun b=>jon (z6v n a1 a0 b) <|
 reg <| cnd (decide (b<((a0.map z01).length:Int)))
  (idx a0 b fun c =>
  bnd (z3r n c a1) fun d =>
  z6v n a1 a0 b (decide (d=0)))
 <| z6v n a1 a0 b false) n 0
def z6t (n:Nat)(b:Bool):Option (Bool) :=
 some b
def zd0 (n:Nat)(a0:Int):Option (Bool) :=
 jon (z6t n) <|
 reg <| cnd (decide (0<=a0))
  (z6t n (decide (a0<=5)))
 <| z6t n false
def z4s (n:Nat)(b:Bool):Option (Bool) :=
 some b
def zcz (n:Nat)(a0:Int)(a1:z05):Option (Bool) :=
 jon (z4s n) <|
 reg <| cnd (decide (a1.fKind=0))
  (z4s n true)
 <| cnd (!decide (a0=1))
  (cnd (!decide (a0=2))
    (z4s n (!decide (a0=3)))
  <| z4s n false)
 <| z4s n false
def zbh (n:Nat)(a0:Int)(a1:z05):Option (Int) :=
 bnd (zci n a1) fun x1 =>
 cnd (!decide (x1=0))
  (some x1)
 <| bnd (zcz n a0 a1) fun x2 =>
 cnd (!(x2))
  (some 9)
 <| some 0
def zg4 (n:Nat)(a0:Int)(a1:z05):Option (z05) :=
 cnd (decide (a0=0))
  (some (⟨0,0,ByteArray.empty⟩))
 <| some a1
def zek (n:Nat):Option (z05) :=
 some (⟨0,0,ByteArray.empty⟩)
def zej (n:Nat)(m0:z05)(m1:z05):Option (z05×z05×z05) :=
 some (⟨0,(IntKind.wrap .i64 (m0.fNum+m1.fNum)),ByteArray.empty⟩,m0,m1)
def zei (n:Nat)(m0:z05)(m1:z05):Option (z05×z05×z05) :=
 some (⟨0,(min m0.fNum m1.fNum),ByteArray.empty⟩,m0,m1)
def zeh (n:Nat)(m0:z05)(m1:z05):Option (z05×z05×z05) :=
 some (⟨0,(max m0.fNum m1.fNum),ByteArray.empty⟩,m0,m1)
def zeg (n:Nat)(m0:z05):Option (z05×z05) :=
 some (m0,m0)
def zef (n:Nat)(m0:z05):Option (z05×z05) :=
 some (m0,m0)
def zds (n:Nat)(a0:Int)(a1:z05)(a2:z05):Option (z05) :=
 natc a0 0
  (bnd (zek n) fun x1 =>
 some x1)
 <| natc a0 1
  (bndM 15 (zej n a1 a2) fun x2 =>
 some x2.1)
 <| natc a0 2
  (bndM 15 (zei n a1 a2) fun x3 =>
 some x3.1)
 <| natc a0 3
  (bndM 15 (zeh n a1 a2) fun x4 =>
 some x4.1)
 <| natc a0 4
  (bndM 15 (zeg n a1) fun x5 =>
 some x5.1)
 <| natc a0 5
  (bndM 15 (zef n a2) fun x6 =>
 some x6.1)
 <| none
def zg5 (n:Nat)(a0:z0p)(a1:z0p):Option (z0p) :=
 cnd (decide (a0.fCount=0))
  (some a1)
 <| cnd (decide (a1.fCount=0))
  (some a0)
 <| bnd (zds n a0.fKind a0.fValue a1.fValue) fun x1 =>
 some (⟨a0.fKind,(IntKind.wrap .i64 (a0.fCount+a1.fCount)),x1⟩)
def zhc (n:Nat)(a0:z0p)(a1:z05)(a2:Int):Option (z0p) :=
 bnd (zg4 n a2 a1) fun x1 =>
 bnd (zg5 n a0 (⟨a2,1,x1⟩:z0p)) fun x2 =>
 some x2
def za8 (n:Nat)(e:Int)(a1:(List z05))(c:Int->Int->Int->Int->ByteArray->Option (z0p)):Nat->Int×Int×Int×Int×Int×ByteArray->Option (z0p)
 |0,_=>none
 |f+1,b =>
  cnd (decide (b.1<((a1.map z08).length:Int)))
   (idx a1 b.1 fun g =>
   bnd (zhc n (⟨b.2.1,b.2.2.1,⟨b.2.2.2.1,b.2.2.2.2.1,b.2.2.2.2.2⟩⟩:z0p) g e) fun d =>
   (za8 n e a1 c f) ((IntKind.wrap .i64 (b.1+1)),d.fKind,d.fCount,d.fValue.fKind,d.fValue.fNum,d.fValue.fText))
  <| c b.2.1 b.2.2.1 b.2.2.2.1 b.2.2.2.2.1 b.2.2.2.2.2
def zee (n:Nat)(a0:z0p)(a1:(List z05))(g:Int):Option (z0p) :=
 za8 n g a1
  (fun b c d e f=>some (⟨b,c,⟨d,e,f⟩⟩)) n (0,a0.fKind,a0.fCount,a0.fValue.fKind,a0.fValue.fNum,a0.fValue.fText)
def z8w (n:Nat)(a0:z0p)(b:Bool):Option (Int) :=
 cnd (b)
  (some 2)
 <| reg <| cnd (decide (a0.fCount=0))
  (cnd (!((decide (a0.fValue.fKind=0) && (decide (a0.fValue.fNum=0) && ((a0.fValue.fText.toList == ByteArray.empty.toList) && true)))))
    (some 3)
  <| some 0)
 <| cnd (decide (a0.fKind=0))
  (cnd (!((decide (a0.fValue.fKind=0) && (decide (a0.fValue.fNum=0) && ((a0.fValue.fText.toList == ByteArray.empty.toList) && true)))))
    (some 3)
  <| some 0)
 <| reg <| cnd (decide (a0.fKind=1))
  (reg <| cnd (decide (a0.fValue.fKind=0))
    (cnd ((a0.fValue.fText.toList == ByteArray.empty.toList))
      (cnd (decide ((IntKind.wrap .i64 (0-(IntKind.wrap .i64 (a0.fCount*1099511627776))))<=a0.fValue.fNum))
        (cnd (!(decide (a0.fValue.fNum<=(IntKind.wrap .i64 (a0.fCount*1099511627776)))))
          (some 3)
        <| some 0)
      <| some 3)
    <| some 3)
  <| some 3)
 <| reg <| bnd (zci n a0.fValue) fun x3 =>
 cnd (decide (x3=0))
  (bnd (zcz n a0.fKind a0.fValue) fun x4 =>
  cnd (!(x4))
   (some 3)
  <| some 0)
 <| some 3
def zfd (n:Nat)(a0:z0p):Option (Int) :=
 bnd (zd0 n a0.fKind) fun x1 =>
 cnd (!(x1))
  (some 1)
 <| jon (z8w n a0) <|
 reg <| cnd (decide (a0.fCount<0))
  (z8w n a0 true)
 <| z8w n a0 (decide (4096<a0.fCount))
def z89 (n:Nat)(a1:z05)(a0:z0p)(b:Bool):Option (z05×Int) :=
 cnd (b)
  (some (a1,0))
 <| some (a0.fValue,0)
def zbz (n:Nat)(a0:z0p)(a1:z05):Option (z05×Int) :=
 bnd (zfd n a0) fun x1 =>
 cnd (!decide (x1=0))
  (some (⟨0,0,ByteArray.empty⟩,x1))
 <| bnd (zbh n a0.fKind a1) fun x2 =>
 cnd (!decide (x2=0))
  (some (⟨0,0,ByteArray.empty⟩,x2))
 <| cnd (decide (a0.fKind=0))
  (some (⟨0,a0.fCount,ByteArray.empty⟩,0))
 <| jon (z89 n a1 a0) <|
 reg <| cnd (decide (a0.fCount=0))
  (z89 n a1 a0 (!decide (a0.fKind=1)))
 <| z89 n a1 a0 false
def zd1 (n:Nat)(a2:z05)(a1:(List z05))(a0:Int)(b:Option (z05×Int)):Nat->Int->Option (z05×Int)
 |0,_=>none
 |d+1,c =>
  cnd (decide (c<((a1.map z08).length:Int)))
   (idx a1 c fun f =>
   bnd (zbh n a0 f) fun e =>
   cnd (!decide (e=0))
    (some (⟨0,0,ByteArray.empty⟩,e))
   <| (zd1 n a2 a1 a0 b d) (IntKind.wrap .i64 (c+1)))
  <| b
def zfy (n:Nat)(a0:Int)(a1:(List z05))(a2:z05):Option (z05×Int) :=
 bnd (zd0 n a0) fun x1 =>
 cnd (!(x1))
  (some (⟨0,0,ByteArray.empty⟩,1))
 <| cnd (decide (4096<((a1.map z08).length:Int)))
  (some (⟨0,0,ByteArray.empty⟩,5))
 <| zd1 n a2 a1 a0
  (bnd (zee n (⟨a0,0,⟨0,0,ByteArray.empty⟩⟩:z0p) a1 a0) fun c =>
 bnd (zbz n c a2) fun b =>
 some (b.1,b.2)) n 0
def zjx (n:Nat)(a0:Int):Option (Bool) :=
 some (!decide (a0=a0))
def z3e (n:Nat)(a0:Int)(a1:Int):Option (Int) :=
 bnd (zjx n a0) fun x1 =>
 bnd (zjx n a1) fun x2 =>
 cnd (x1)
  (cnd (x2)
    (some 0)
  <| some (-1))
 <| cnd (x2)
  (some 1)
 <| cnd (decide (a0<a1))
  (some (-1))
 <| cnd (decide (a1<a0))
  (some 1)
 <| some 0
def zi8 (n:Nat)(a0:(List Int))(b:Option (Int)):Nat->Int->Option (Int)
 |0,_=>none
 |d+1,c =>
  cnd (decide (c<((a0.map aI).length:Int)))
   (idx a0 c fun e =>
   cnd (!decide (e=0))
    (some e)
   <| (zi8 n a0 b d) (IntKind.wrap .i64 (c+1)))
  <| b
def zhb (n:Nat)(a0:(List Int)):Option (Int) :=
 zi8 n a0
  (some 0) n 0
def zil (n:Nat)(a0:z1f)(a1:z1f):Option (Int) :=
 bnd (z3e n a0.fTime a1.fTime) fun x1 =>
 bnd (z3e n a0.fSource a1.fSource) fun x2 =>
 bnd (z3e n a0.fSeq a1.fSeq) fun x3 =>
 bnd (zhb n ([x1,x2,x3])) fun x4 =>
 some x4
def zfa (n:Nat)(a0:z0h)(a1:z0h):Option (Int) :=
 bnd (zil n (⟨a0.fRef.fTime,a0.fRef.fSource,a0.fRef.fSeq⟩:z1f) (⟨a1.fRef.fTime,a1.fRef.fSource,a1.fRef.fSeq⟩:z1f)) fun x1 =>
 bnd (z3e n a0.fVar a1.fVar) fun x2 =>
 bnd (zhb n ([x1,x2])) fun x3 =>
 some x3
def z8l (n:Nat)(a1:(List z0h))(a0:(List z0h))(c:Option (Int)):Nat->Int->Option (Int)
 |0,_=>none
 |f+1,b =>
  cnd (decide (b<((a0.map z0b).length:Int)))
   (idx a0 b fun d =>
   cnd (decide (((a1.map z0b).length:Int)<=b))
    (some 1)
   <| idx a1 b fun e =>
   bnd (zfa n (⟨d.fVar,⟨d.fRef.fTime,d.fRef.fSource,d.fRef.fSeq⟩⟩:z0h) (⟨e.fVar,⟨e.fRef.fTime,e.fRef.fSource,e.fRef.fSeq⟩⟩:z0h)) fun g =>
   cnd (!decide (g=0))
    (some g)
   <| (z8l n a1 a0 c f) (IntKind.wrap .i64 (b+1)))
  <| c
def zcc (n:Nat)(a0:(List z0h))(a1:(List z0h)):Option (Int) :=
 z8l n a1 a0
  (cnd (decide (((a0.map z0b).length:Int)<((a1.map z0b).length:Int)))
  (some (-1))
 <| some 0) n 0
def zfb (n:Nat)(a0:z06)(a1:z06):Option (Int) :=
 bnd (zcc n a0.fBindings a1.fBindings) fun x1 =>
 some x1
def zgj (n:Nat)(a0:z0a)(a1:z0a):Option (Int) :=
 bnd (z3e n a0.fScope a1.fScope) fun x1 =>
 bnd (z3e n a0.fTime a1.fTime) fun x2 =>
 bnd (zhb n ([x1,x2])) fun x3 =>
 some x3
def z57 (n:Nat)(a1:(List z0a))(a0:(List z0a))(c:Option (Int)):Nat->Int->Option (Int)
 |0,_=>none
 |d+1,b =>
  cnd (decide (b<((a0.map z09).length:Int)))
   (idx a0 b fun f =>
   cnd (decide (((a1.map z09).length:Int)<=b))
    (some 1)
   <| idx a1 b fun g =>
   bnd (zgj n f g) fun e =>
   cnd (!decide (e=0))
    (some e)
   <| (z57 n a1 a0 c d) (IntKind.wrap .i64 (b+1)))
  <| c
def za4 (n:Nat)(a0:(List z0a))(a1:(List z0a)):Option (Int) :=
 z57 n a1 a0
  (cnd (decide (((a0.map z09).length:Int)<((a1.map z09).length:Int)))
  (some (-1))
 <| some 0) n 0
def zhq (n:Nat)(a0:z00)(a1:z00):Option (Int) :=
 bnd (z3e n a0.fState a1.fState) fun x1 =>
 bnd (zfb n (⟨a0.fBindings⟩:z06) (⟨a1.fBindings⟩:z06)) fun x2 =>
 bnd (za4 n a0.fStarts a1.fStarts) fun x3 =>
 bnd (zhb n ([x1,x2,x3])) fun x4 =>
 some x4
def z84 (n:Nat)(b:Bool):Option (Bool) :=
 some b
def zii (n:Nat)(a0:z03):Option (Bool) :=
 jon (z84 n) <|
 reg <| cnd (decide (0<=a0.fTime))
  (cnd (decide (a0.fTime<=1099511627776))
    (cnd (decide (0<=a0.fSource))
      (cnd (decide (a0.fSource<8))
        (cnd (decide (0<=a0.fSeq))
          (z84 n (decide (a0.fSeq<=1099511627776)))
        <| z84 n false)
      <| z84 n false)
    <| z84 n false)
  <| z84 n false)
 <| z84 n false
def zih (n:Nat)(a0:z03):Option (z1f) :=
 some (⟨a0.fTime,a0.fSource,a0.fSeq⟩)
def zi5 (n:Nat)(a0:z1f)(a1:z1f):Option (Int) :=
 bnd (z3e n a0.fTime a1.fTime) fun x1 =>
 bnd (z3e n a0.fSource a1.fSource) fun x2 =>
 bnd (z3e n a0.fSeq a1.fSeq) fun x3 =>
 bnd (zhb n ([x1,x2,x3])) fun x4 =>
 some x4
def zgh (n:Nat)(a0:z0h)(a1:z03):Option (Bool) :=
 bnd (zih n a1) fun x1 =>
 bnd (zi5 n (⟨a0.fRef.fTime,a0.fRef.fSource,a0.fRef.fSeq⟩:z1f) (⟨x1.fTime,x1.fSource,x1.fSeq⟩:z1f)) fun x2 =>
 some (decide (0<=x2))
def z6i (n:Nat)(e:z03)(a0:(List z0h))(c:Option (Int)):Nat->Int->Option (Int)
 |0,_=>none
 |f+1,b =>
  cnd (decide (b<((a0.map z0b).length:Int)))
   (idx a0 b fun d =>
   bnd (zgh n (⟨d.fVar,⟨d.fRef.fTime,d.fRef.fSource,d.fRef.fSeq⟩⟩:z0h) e) fun g =>
   cnd (g)
    (some b)
   <| (z6i n e a0 c f) (IntKind.wrap .i64 (b+1)))
  <| c
def zb5 (n:Nat)(a0:(List z0h))(b:z03):Option (Int) :=
 z6i n b a0
  (some (-1)) n 0
def z9h (n:Nat)(a0:(List z0h))(b:z03):Option (Bool) :=
 bnd (zb5 n a0 b) fun x1 =>
 some (decide (0<=x1))
def zs0 (n:Nat)(a0:z00)(a1:z03):Option (Bool) :=
 bnd (z9h n a0.fBindings a1) fun x1 =>
 some x1
def zgi (n:Nat)(a0:z00)(a1:z03):Option (Bool) :=
 bnd (zs0 n a0 a1) fun x1 =>
 some x1
def z6j (n:Nat)(d:z03)(a0:(List z00))(c:Option (Int)):Nat->Int->Option (Int)
 |0,_=>none
 |e+1,b =>
  cnd (decide (b<((a0.map z01).length:Int)))
   (idx a0 b fun f =>
   bnd (zgi n f d) fun g =>
   cnd (g)
    (some b)
   <| (z6j n d a0 c e) (IntKind.wrap .i64 (b+1)))
  <| c
def zb6 (n:Nat)(a0:(List z00))(b:z03):Option (Int) :=
 z6j n b a0
  (some (-1)) n 0
def z9i (n:Nat)(a0:(List z00))(b:z03):Option (Bool) :=
 bnd (zb6 n a0 b) fun x1 =>
 some (decide (0<=x1))
def zi6 (n:Nat)(a0:(List z00))(a1:z03):Option (Int) :=
 bnd (zii n a1) fun x1 =>
 cnd (!(x1))
  (some 2)
 <| bnd (z9i n a0 a1) fun x2 =>
 cnd (x2)
  (some 14)
 <| some 0
attribute [irreducible] z4z z1e z1w z3s z5y z2d z0k z2s z5z z60 z3u z1c z6x z30 z17 z1u z2c zdq zep zeq zbu z6b z13 zer zes zcp z6o z87 z5f z88 z21 z3h z2r z3v z2e z51 z52 z54 z4n z4a z49 z29 z1s z1h z4x z4w z4y z3k z2n z3j z6v z6u z6t z4s z8w z89 z84
end Go.Proofs.YtidhlpjgifoneaaGreat
