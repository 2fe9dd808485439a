/- What some functions compute, over plain values. -/
import Derived.Test.YtidhlpjgifoneaaGreatK17
set_option linter.unusedVariables false
set_option linter.unusedSimpArgs false
set_option maxRecDepth 100000
set_option maxHeartbeats 8000000
namespace Go.Proofs.YtidhlpjgifoneaaGreat
open Go.RowKit
structure z05 where
 fKind:Int
 fNum:Int
 fText:ByteArray
deriving DecidableEq,Inhabited
def z08 (x:z05):AV:=.agg [aI (x.fKind),aI (x.fNum),.str (x.fText)]
abbrev z27 (x:z05):List AV:=[aI (x.fKind),aI (x.fNum),.str (x.fText)]
structure z0r where
 fOp:Int
 fArgs:(List AV)
 fVar:Int
 fField:Int
 fKind:Int
 fValue:z05
deriving Inhabited
def z0l (x:z0r):AV:=.agg [aI (x.fOp),.sl 8 (x.fArgs.map idA),aI (x.fVar),aI (x.fField),aI (x.fKind),aI (x.fValue.fKind),aI (x.fValue.fNum),.str (x.fValue.fText)]
abbrev z8s (x:z0r):List AV:=[aI (x.fOp),.sl 8 (x.fArgs.map idA),aI (x.fVar),aI (x.fField),aI (x.fKind),aI (x.fValue.fKind),aI (x.fValue.fNum),.str (x.fValue.fText)]
def z1y:AV->Option z0r
 |.agg [.int .i64 c0,.sl 8 c1,.int .i64 c2,.int .i64 c3,.int .i64 c4,.int .i64 c5,.int .i64 c6,.str c7]=>some ⟨c0,c1,c2,c3,c4,⟨c5,c6,c7⟩⟩
 |_=>none
theorem z40 (a:AV)(y:z0r)(h:z1y a=some y):a=z0l y:=by
 unfold z1y at h
 split at h
 ·injection h with h;subst h;simp [z0l,aI,zug]
 ·cases h
theorem zct (y:z0r):z1y (z0l y)=some y:=by simp [z1y,z0l,aI,zug]
def z4x (n:Nat)(b:z0r->Int->Option (Int))(a1:Int)(a0:z0r)(c:Int×Int)(d:Int->Option (Int))(e:(Int×Int)->Option (Int))(f:Bool):Option (Int) :=
 cnd (f)
  (idxD z1y a0.fArgs c.2 fun g =>
  bnd (b g a1) fun h =>
  e ((IntKind.wrap .i64 (c.1+h)),(IntKind.wrap .i64 (c.2+1))))
 <| d c.1
def z3f (n:Nat)(b:z0r->Int->Option (Int))(a1:Int)(a0:z0r)(c:Int->Option (Int)):Nat->Int×Int->Option (Int)
 |0,_=>none
 |e+1,d =>
  jon (z4x n b a1 a0 d c (z3f n b a1 a0 c e)) <|
  reg <| cnd (decide (d.2<((a0.fArgs.map idA).length:Int)))
   (z4x n b a1 a0 d c (z3f n b a1 a0 c e) (decide (d.1<=a1)))
  <| z4x n b a1 a0 d c (z3f n b a1 a0 c e) false
def z34:Nat->z0r->Int->Option (Int)
 |0,_,_=>none
 |n+1,a0,a1 =>
 z3f n (z34 n) a1 a0
  (fun b=>some b) n (1,0)
def z7h (n:Nat)(b:z0r->Option (Int))(a0:z0r)(d:Int->Option (Int)):Nat->Int×Int->Option (Int)
 |0,_=>none
 |e+1,c =>
  cnd (decide (c.2<((a0.fArgs.map idA).length:Int)))
   (idxD z1y a0.fArgs c.2 fun f =>
   bnd (b f) fun g =>
   (z7h n b a0 d e) ((max c.1 g),(IntKind.wrap .i64 (c.2+1))))
  <| d c.1
def z33:Nat->z0r->Option (Int)
 |0,_=>none
 |n+1,a0 =>
 z7h n (z33 n) a0
  (fun b=>some (IntKind.wrap .i64 (b+1))) n (0,0)
def z1g (n:Nat)(b:Bool):Option (Int) :=
 cnd (b)
  (some 2)
 <| some (-1)
def z1w (n:Nat)(a0:Int)(b:Bool):Option (Int) :=
 cnd (b)
  (some 0)
 <| cnd (decide (a0=12))
  (some 1)
 <| jon (z1g n) <|
 reg <| cnd (decide (a0=5))
  (z1g n (decide (a0=5)))
 <| reg <| cnd (decide (a0=6))
  (z1g n (decide (a0=6)))
 <| reg <| cnd (decide (a0=7))
  (z1g n (decide (a0=7)))
 <| reg <| cnd (decide (a0=8))
  (z1g n (decide (a0=8)))
 <| reg <| cnd (decide (a0=9))
  (z1g n (decide (a0=9)))
 <| reg <| cnd (decide (a0=10))
  (z1g n (decide (a0=10)))
 <| z1g n (decide (a0=11))
def zbl (n:Nat)(a0:Int):Option (Int) :=
 jon (z1w n a0) <|
 reg <| cnd (decide (a0=0))
  (z1w n a0 (decide (a0=0)))
 <| reg <| cnd (decide (a0=1))
  (z1w n a0 (decide (a0=1)))
 <| reg <| cnd (decide (a0=2))
  (z1w n a0 (decide (a0=2)))
 <| reg <| cnd (decide (a0=3))
  (z1w n a0 (decide (a0=3)))
 <| z1w n a0 (decide (a0=4))
def z3q (n:Nat)(b:Bool)(c:Bool):Option (Bool×Bool) :=
 some (c,b)
def z5v (n:Nat)(a0:Int)(b:Bool):Option (Bool×Bool) :=
 jon (z3q n b) <|
 reg <| cnd (b)
  (z3q n b true)
 <| cnd (decide (a0=2))
  (z3q n b true)
 <| z3q n b (decide (a0=3))
def zc1 (n:Nat)(a0:Int):Option (Bool×Bool) :=
 jon (z5v n a0) <|
 reg <| cnd (decide (a0=1))
  (z5v n a0 true)
 <| z5v n a0 (decide (a0=4))
def z3u (n:Nat)(a0:z05):Option (Int) :=
 cnd (decide (a0.fKind<0))
  (some 1)
 <| cnd (decide (2<a0.fKind))
  (some 1)
 <| cnd (decide (a0.fKind=2))
  (cnd (!decide (a0.fNum=0))
    (some 3)
  <| cnd (decide (64<((a0.fText.size:Nat):Int)))
   (some 13)
  <| some 0)
 <| cnd (!(a0.fText.toList == ByteArray.empty.toList))
  (some 3)
 <| cnd (decide (a0.fKind=1))
  (cnd (decide (a0.fNum<0))
    (some 2)
  <| cnd (decide (1<a0.fNum))
   (some 2)
  <| cnd (decide (a0.fNum<(-1099511627776)))
   (some 2)
  <| cnd (decide (1099511627776<a0.fNum))
   (some 2)
  <| some 0)
 <| cnd (decide (a0.fNum<(-1099511627776)))
  (some 2)
 <| cnd (decide (1099511627776<a0.fNum))
  (some 2)
 <| some 0
def z2d (n:Nat)(b:Bool):Option (Bool) :=
 some b
def z7z (n:Nat)(a0:Int)(a1:z05):Option (Bool) :=
 jon (z2d n) <|
 reg <| cnd (decide (a1.fKind=0))
  (z2d n true)
 <| cnd (decide (a0=0))
  (z2d n true)
 <| cnd (decide (a0=4))
  (z2d n true)
 <| z2d n (decide (a0=5))
def z0j (n:Nat)(b:Bool):Option (Int) :=
 cnd (b)
  (some 3)
 <| some 0
def z2t (n:Nat)(a0:z0r)(x2:Bool×Bool)(b:Bool)(c:Bool):Option (Int) :=
 cnd (c)
  (some 9)
 <| jon (z0j n) <|
 reg <| cnd (!(x2.1))
  (cnd (!decide (a0.fVar=0))
    (z0j n true)
  <| cnd (!(x2.2))
   (cnd (!decide (a0.fField=0))
     (z0j n true)
   <| cnd (!(decide (a0.fOp=4)))
    (cnd (!decide (a0.fKind=0))
      (z0j n true)
    <| cnd (!(b))
     (z0j n (!(decide (a0.fValue.fKind=0) && (decide (a0.fValue.fNum=0) && ((a0.fValue.fText.toList == ByteArray.empty.toList) && true)))))
    <| z0j n false)
   <| cnd (!(b))
    (z0j n (!(decide (a0.fValue.fKind=0) && (decide (a0.fValue.fNum=0) && ((a0.fValue.fText.toList == ByteArray.empty.toList) && true)))))
   <| z0j n false)
  <| cnd (!(decide (a0.fOp=4)))
   (cnd (!decide (a0.fKind=0))
     (z0j n true)
   <| cnd (!(b))
    (z0j n (!(decide (a0.fValue.fKind=0) && (decide (a0.fValue.fNum=0) && ((a0.fValue.fText.toList == ByteArray.empty.toList) && true)))))
   <| z0j n false)
  <| cnd (!(b))
   (z0j n (!(decide (a0.fValue.fKind=0) && (decide (a0.fValue.fNum=0) && ((a0.fValue.fText.toList == ByteArray.empty.toList) && true)))))
  <| z0j n false)
 <| cnd (!(x2.2))
  (cnd (!decide (a0.fField=0))
    (z0j n true)
  <| cnd (!(decide (a0.fOp=4)))
   (cnd (!decide (a0.fKind=0))
     (z0j n true)
   <| cnd (!(b))
    (z0j n (!(decide (a0.fValue.fKind=0) && (decide (a0.fValue.fNum=0) && ((a0.fValue.fText.toList == ByteArray.empty.toList) && true)))))
   <| z0j n false)
  <| cnd (!(b))
   (z0j n (!(decide (a0.fValue.fKind=0) && (decide (a0.fValue.fNum=0) && ((a0.fValue.fText.toList == ByteArray.empty.toList) && true)))))
  <| z0j n false)
 <| cnd (!(decide (a0.fOp=4)))
  (cnd (!decide (a0.fKind=0))
    (z0j n true)
  <| cnd (!(b))
   (z0j n (!(decide (a0.fValue.fKind=0) && (decide (a0.fValue.fNum=0) && ((a0.fValue.fText.toList == ByteArray.empty.toList) && true)))))
  <| z0j n false)
 <| cnd (!(b))
  (z0j n (!(decide (a0.fValue.fKind=0) && (decide (a0.fValue.fNum=0) && ((a0.fValue.fText.toList == ByteArray.empty.toList) && true)))))
 <| z0j n false
def z5w (n:Nat)(a0:z0r)(x2:Bool×Bool)(b:Bool)(_:Unit):Option (Int) :=
 jon (z2t n a0 x2 b) <|
 reg <| cnd (decide (a0.fOp=4))
  (bnd (z7z n a0.fKind a0.fValue) fun c =>
  cnd (!(c))
   (z2t n a0 x2 b true)
  <| cnd (decide (a0.fKind=1))
   (z2t n a0 x2 b (!(decide (a0.fValue.fKind=0) && (decide (a0.fValue.fNum=0) && ((a0.fValue.fText.toList == ByteArray.empty.toList) && true)))))
  <| z2t n a0 x2 b false)
 <| z2t n a0 x2 b false
def z5x (n:Nat)(a0:z0r)(x2:Bool×Bool)(b:Bool):Option (Int) :=
 jon (z5w n a0 x2 b) <|
 reg <| cnd (b)
  (bnd (z3u n a0.fValue) fun c =>
  cnd (!decide (c=0))
   (some c)
  <| z5w n a0 x2 b ())
 <| z5w n a0 x2 b ()
def z3s (n:Nat)(a0:z0r)(x2:Bool×Bool)(b:Bool):Option (Int) :=
 cnd (b)
  (some 1)
 <| jon (z5x n a0 x2) <|
 reg <| cnd (decide (a0.fOp=4))
  (z5x n a0 x2 true)
 <| z5x n a0 x2 (decide (a0.fOp=0))
def z1f (n:Nat)(a0:z0r)(x2:Bool×Bool)(b:Bool):Option (Int) :=
 cnd (b)
  (some 2)
 <| jon (z3s n a0 x2) <|
 reg <| cnd (decide (a0.fOp=4))
  (cnd (decide (a0.fKind<1))
    (z3s n a0 x2 true)
  <| z3s n a0 x2 (decide (5<a0.fKind)))
 <| z3s n a0 x2 false
def zc2 (n:Nat)(a0:z0r):Option (Int) :=
 bnd (zbl n a0.fOp) fun x1 =>
 cnd (decide (x1<0))
  (some 1)
 <| cnd (!decide (((a0.fArgs.map idA).length:Int)=x1))
  (some 15)
 <| bnd (zc1 n a0.fOp) fun x2 =>
 jon (z1f n a0 x2) <|
 reg <| cnd (x2.1)
  (cnd (decide (a0.fVar<0))
    (z1f n a0 x2 true)
  <| cnd (decide (16<=a0.fVar))
   (z1f n a0 x2 true)
  <| cnd (x2.2)
   (cnd (decide (a0.fField<0))
     (z1f n a0 x2 true)
   <| z1f n a0 x2 (decide (8<=a0.fField)))
  <| z1f n a0 x2 false)
 <| cnd (x2.2)
  (cnd (decide (a0.fField<0))
    (z1f n a0 x2 true)
  <| z1f n a0 x2 (decide (8<=a0.fField)))
 <| z1f n a0 x2 false
def z7g (n:Nat)(b:z0r->Option (Int))(a0:z0r)(c:Option (Int)):Nat->Int->Option (Int)
 |0,_=>none
 |e+1,d =>
  cnd (decide (d<((a0.fArgs.map idA).length:Int)))
   (idxD z1y a0.fArgs d fun g =>
   bnd (b g) fun f =>
   cnd (!decide (f=0))
    (some f)
   <| (z7g n b a0 c e) (IntKind.wrap .i64 (d+1)))
  <| c
def z3r:Nat->z0r->Option (Int)
 |0,_=>none
 |n+1,a0 =>
 bnd (zc2 n a0) fun x1 =>
 cnd (!decide (x1=0))
  (some x1)
 <| z7g n (z3r n) a0
  (some 0) n 0
def z35 (n:Nat)(a0:z0r):Option (Int) :=
 bnd (z34 n a0 64) fun x1 =>
 cnd (decide (64<x1))
  (some 5)
 <| bnd (z33 n a0) fun x2 =>
 cnd (decide (12<x2))
  (some 12)
 <| bnd (z3r n a0) fun x3 =>
 some x3
structure z0u where
 fScope:Int
 fType:Int
 fVar:Int
 fCond:z0r
deriving Inhabited
def z0t (x:z0u):AV:=.agg [aI (x.fScope),aI (x.fType),aI (x.fVar),aI (x.fCond.fOp),.sl 8 (x.fCond.fArgs.map idA),aI (x.fCond.fVar),aI (x.fCond.fField),aI (x.fCond.fKind),aI (x.fCond.fValue.fKind),aI (x.fCond.fValue.fNum),.str (x.fCond.fValue.fText)]
abbrev zjb (x:z0u):List AV:=[aI (x.fScope),aI (x.fType),aI (x.fVar),aI (x.fCond.fOp),.sl 8 (x.fCond.fArgs.map idA),aI (x.fCond.fVar),aI (x.fCond.fField),aI (x.fCond.fKind),aI (x.fCond.fValue.fKind),aI (x.fCond.fValue.fNum),.str (x.fCond.fValue.fText)]
structure zeg where
 fGuards:(List z0u)
deriving Inhabited
def z0p (x:zeg):AV:=.agg [.sl 11 (x.fGuards.map z0t)]
structure z1i where
 fScope:Int
 fSpan:Int
deriving DecidableEq,Inhabited
def z26 (x:z1i):AV:=.agg [aI (x.fScope),aI (x.fSpan)]
abbrev zo4 (x:z1i):List AV:=[aI (x.fScope),aI (x.fSpan)]
structure z0s where
 fFrom:Int
 fTo:Int
 fVar:Int
 fType:Int
 fCond:z0r
 fOpens:(List Int)
 fCloses:(List Int)
 fChecks:(List AV)
 fLimits:(List z1i)
 fInside:(List Int)
deriving Inhabited
def z0v (x:z0s):AV:=.agg [aI (x.fFrom),aI (x.fTo),aI (x.fVar),aI (x.fType),aI (x.fCond.fOp),.sl 8 (x.fCond.fArgs.map idA),aI (x.fCond.fVar),aI (x.fCond.fField),aI (x.fCond.fKind),aI (x.fCond.fValue.fKind),aI (x.fCond.fValue.fNum),.str (x.fCond.fValue.fText),.sl 1 (x.fOpens.map aI),.sl 1 (x.fCloses.map aI),.sl 8 (x.fChecks.map idA),.sl 2 (x.fLimits.map z26),.sl 1 (x.fInside.map aI)]
abbrev z2a (x:z0s):List AV:=[aI (x.fFrom),aI (x.fTo),aI (x.fVar),aI (x.fType),aI (x.fCond.fOp),.sl 8 (x.fCond.fArgs.map idA),aI (x.fCond.fVar),aI (x.fCond.fField),aI (x.fCond.fKind),aI (x.fCond.fValue.fKind),aI (x.fCond.fValue.fNum),.str (x.fCond.fValue.fText),.sl 1 (x.fOpens.map aI),.sl 1 (x.fCloses.map aI),.sl 8 (x.fChecks.map idA),.sl 2 (x.fLimits.map z26),.sl 1 (x.fInside.map aI)]
structure z07 where
 fVars:Int
 fScopes:Int
 fStates:(List zeg)
 fEdges:(List z0s)
deriving Inhabited
def z0n (x:z07):AV:=.agg [aI (x.fVars),aI (x.fScopes),.sl 1 (x.fStates.map z0p),.sl 17 (x.fEdges.map z0v)]
abbrev z0g (x:z07):List AV:=[aI (x.fVars),aI (x.fScopes),.sl 1 (x.fStates.map z0p),.sl 17 (x.fEdges.map z0v)]
def z6r (n:Nat)(b:Bool):Option (Bool) :=
 some b
def z1b (n:Nat)(a0:Int)(a1:Int):Option (Bool) :=
 jon (z6r n) <|
 reg <| cnd (decide (a0<0))
  (z6r n true)
 <| z6r n (decide (a1<a0))
def z6b (n:Nat)(a1:(List z0u))(a0:z07)(c:Int)(b:Option (Int)):Nat->Int->Option (Int)
 |0,_=>none
 |e+1,d =>
  cnd (decide (d<c))
   (idx a1 d fun f =>
   idx a1 c fun g =>
   cnd (decide (f.fScope=g.fScope))
    (some 7)
   <| (z6b n a1 a0 c b e) (IntKind.wrap .i64 (d+1)))
  <| b
def z31 (n:Nat)(a1:(List z0u))(a0:z07)(b:Int)(c:Int->Option (Int))(e:Bool):Option (Int) :=
 cnd (e)
  (some 2)
 <| z6b n a1 a0 b
  (idx a1 b fun f =>
 bnd (z35 n f.fCond) fun d =>
 cnd (!decide (d=0))
  (some d)
 <| c (IntKind.wrap .i64 (b+1))) n 0
def z1p (n:Nat)(a1:(List z0u))(a0:z07)(b:Option (Int)):Nat->Int->Option (Int)
 |0,_=>none
 |d+1,c =>
  cnd (decide (c<((a1.map z0t).length:Int)))
   (jon (z31 n a1 a0 c (z1p n a1 a0 b d)) <|
   reg <| idx a1 c fun e =>
   bnd (z1b n e.fScope (IntKind.wrap .i64 (a0.fScopes-1))) fun f =>
   cnd (f)
    (z31 n a1 a0 c (z1p n a1 a0 b d) true)
   <| idx a1 c fun g =>
   bnd (z1b n g.fType 15) fun h =>
   cnd (h)
    (z31 n a1 a0 c (z1p n a1 a0 b d) true)
   <| idx a1 c fun j =>
   bnd (z1b n j.fVar (IntKind.wrap .i64 (a0.fVars-1))) fun k =>
   z31 n a1 a0 c (z1p n a1 a0 b d) k)
  <| b
def zax (n:Nat)(a0:z07)(a1:(List z0u)):Option (Int) :=
 cnd (decide (64<((a1.map z0t).length:Int)))
  (some 5)
 <| z1p n a1 a0
  (some 0) n 0
def z6a (n:Nat)(a1:Int)(a0:(List Int))(c:Int)(b:Option (Int)):Nat->Int->Option (Int)
 |0,_=>none
 |e+1,d =>
  cnd (decide (d<c))
   (idx a0 d fun f =>
   idx a0 c fun g =>
   cnd (decide (f=g))
    (some 7)
   <| (z6a n a1 a0 c b e) (IntKind.wrap .i64 (d+1)))
  <| b
def z44 (n:Nat)(a1:Int)(a0:(List Int))(c:Option (Int)):Nat->Int->Option (Int)
 |0,_=>none
 |d+1,b =>
  cnd (decide (b<((a0.map aI).length:Int)))
   (idx a0 b fun e =>
   bnd (z1b n e (IntKind.wrap .i64 (a1-1))) fun f =>
   cnd (f)
    (some 2)
   <| z6a n a1 a0 b
    ((z44 n a1 a0 c d) (IntKind.wrap .i64 (b+1))) n 0)
  <| c
def z8y (n:Nat)(a0:(List Int))(a1:Int):Option (Int) :=
 z44 n a1 a0
  (some 0) n 0
def z4t (n:Nat)(a1:z0s)(b:Option (Int)):Nat->Int->Option (Int)
 |0,_=>none
 |d+1,c =>
  cnd (decide (c<((a1.fLimits.map z26).length:Int)))
   (idx a1.fLimits c fun e =>
   bnd (z1b n e.fSpan 1099511627776) fun f =>
   cnd (f)
    (some 2)
   <| (z4t n a1 b d) (IntKind.wrap .i64 (c+1)))
  <| b
def z2b (n:Nat)(a1:z0s)(a0:z07)(b:(List Int))(c:Option (Int)):Nat->Int->Option (Int)
 |0,_=>none
 |f+1,d =>
  cnd (decide (d<4))
   (idx ([a1.fOpens,a1.fCloses,a1.fInside,b]:List (List Int)) d fun g =>
   bnd (z8y n g a0.fScopes) fun e =>
   cnd (!decide (e=0))
    (some e)
   <| (z2b n a1 a0 b c f) (IntKind.wrap .i64 (d+1)))
  <| c
def z7c (n:Nat)(a1:z0s)(a0:z07)(c:(List Int)->Option (Int)):Nat->Int×(List Int)->Option (Int)
 |0,_=>none
 |d+1,b =>
  cnd (decide (b.1<((a1.fLimits.map z26).length:Int)))
   (idx a1.fLimits b.1 fun e =>
   app b.2 [e.fScope] 8 fun f =>
   (z7c n a1 a0 c d) ((IntKind.wrap .i64 (b.1+1)),f))
  <| c b.2
def z9n (n:Nat)(a0:z07)(a1:z0s):Option (Int) :=
 z7c n a1 a0
  (fun b=>frz 7026 <| reg <| z2b n a1 a0 b
  (z4t n a1
  (some 0) n 0) n 0) n (0,[])
def z8a (n:Nat)(a1:z0s)(a0:z07)(b:Option (Int)):Nat->Int->Option (Int)
 |0,_=>none
 |d+1,c =>
  cnd (decide (c<((a1.fChecks.map idA).length:Int)))
   (idxD z1y a1.fChecks c fun f =>
   bnd (z35 n f) fun e =>
   cnd (!decide (e=0))
    (some e)
   <| (z8a n a1 a0 b d) (IntKind.wrap .i64 (c+1)))
  <| b
def z18 (n:Nat)(a2:Int)(a1:z0s)(a0:z07)(b:Bool):Option (Int) :=
 cnd (b)
  (some 2)
 <| cnd (decide (a1.fFrom<a2))
  (some 14)
 <| bnd (z35 n a1.fCond) fun x8 =>
 cnd (!decide (x8=0))
  (some x8)
 <| cnd (decide (64<((a1.fChecks.map idA).length:Int)))
  (some 5)
 <| z8a n a1 a0
  (bnd (z9n n a0 a1) fun c =>
 some c) n 0
def zbz (n:Nat)(a0:z07)(a1:z0s)(a2:Int):Option (Int) :=
 jon (z18 n a2 a1 a0) <|
 reg <| bnd (z1b n a1.fFrom (IntKind.wrap .i64 (((a0.fStates.map z0p).length:Int)-1))) fun b =>
 cnd (b)
  (z18 n a2 a1 a0 true)
 <| cnd (!decide (a1.fTo=(-1)))
  (bnd (z1b n a1.fTo (IntKind.wrap .i64 (((a0.fStates.map z0p).length:Int)-1))) fun c =>
  cnd (c)
   (z18 n a2 a1 a0 true)
  <| bnd (z1b n a1.fVar (IntKind.wrap .i64 (a0.fVars-1))) fun d =>
  cnd (d)
   (z18 n a2 a1 a0 true)
  <| bnd (z1b n a1.fType 15) fun e =>
  z18 n a2 a1 a0 e)
 <| bnd (z1b n a1.fVar (IntKind.wrap .i64 (a0.fVars-1))) fun f =>
 cnd (f)
  (z18 n a2 a1 a0 true)
 <| bnd (z1b n a1.fType 15) fun g =>
 z18 n a2 a1 a0 g
def z7d (n:Nat)(a0:z07)(c:Option (Int)):Nat->Int×Int->Option (Int)
 |0,_=>none
 |d+1,b =>
  cnd (decide (b.2<((a0.fEdges.map z0v).length:Int)))
   (idx a0.fEdges b.2 fun f =>
   bnd (zbz n a0 f b.1) fun e =>
   cnd (!decide (e=0))
    (some e)
   <| idx a0.fEdges b.2 fun g =>
   (z7d n a0 c d) (g.fFrom,(IntKind.wrap .i64 (b.2+1))))
  <| c
def z7e (n:Nat)(a0:z07)(b:Option (Int)):Nat->Int->Option (Int)
 |0,_=>none
 |d+1,c =>
  cnd (decide (c<((a0.fStates.map z0p).length:Int)))
   (idx a0.fStates c fun f =>
   bnd (zax n a0 f.fGuards) fun e =>
   cnd (!decide (e=0))
    (some e)
   <| (z7e n a0 b d) (IntKind.wrap .i64 (c+1)))
  <| b
def z1u (n:Nat)(a0:z07)(b:Bool):Option (Int) :=
 cnd (b)
  (some 5)
 <| z7e n a0
  (z7d n a0
  (some 0) n (0,0)) n 0
def z2c (n:Nat)(a0:z07)(b:Bool):Option (Int) :=
 cnd (b)
  (some 2)
 <| jon (z1u n a0) <|
 reg <| cnd (decide (((a0.fStates.map z0p).length:Int)<1))
  (z1u n a0 true)
 <| cnd (decide (256<((a0.fStates.map z0p).length:Int)))
  (z1u n a0 true)
 <| z1u n a0 (decide (2048<((a0.fEdges.map z0v).length:Int)))
def z59 (n:Nat)(a0:z07):Option (Int) :=
 jon (z2c n a0) <|
 reg <| bnd (z1b n a0.fVars 16) fun b =>
 cnd (b)
  (z2c n a0 true)
 <| bnd (z1b n a0.fScopes 64) fun c =>
 z2c n a0 c
def zfn (n:Nat)(b:z0r->Option (Int×Int))(a0:z0r)(d:Int->Int->Option (Int×Int)):Nat->Int×Int×Int->Option (Int×Int)
 |0,_=>none
 |e+1,c =>
  cnd (decide (c.2.2<((a0.fArgs.map idA).length:Int)))
   (idxD z1y a0.fArgs c.2.2 fun g =>
   bnd (b g) fun f =>
   (zfn n b a0 d e) ((IntKind.wrap .i64 (c.1+f.1)),(max c.2.1 f.2),(IntKind.wrap .i64 (c.2.2+1))))
  <| d c.1 c.2.1
def zff:Nat->z0r->Option (Int×Int)
 |0,_=>none
 |n+1,a0 =>
 zfn n (zff n) a0
  (fun b c=>some (b,(IntKind.wrap .i64 (c+1)))) n (1,0,0)
def zdi (n:Nat)(a0:Int)(b:Bool):Option (Int×Bool) :=
 cnd (b)
  (some (0,false))
 <| cnd (decide (a0<5))
  (some (0,true))
 <| cnd (decide (a0=12))
  (some (1,true))
 <| some (2,true)
def zi8 (n:Nat)(a0:Int):Option (Int×Bool) :=
 jon (zdi n a0) <|
 reg <| cnd (decide (a0<0))
  (zdi n a0 true)
 <| zdi n a0 (decide (12<a0))
def zej (n:Nat)(b:Bool):Option (Bool×Bool) :=
 cnd (b)
  (some (true,false))
 <| some (false,false)
def zek (n:Nat)(a0:Int)(b:Bool):Option (Bool×Bool) :=
 cnd (b)
  (some (true,true))
 <| jon (zej n) <|
 reg <| cnd (decide (a0=2))
  (zej n (decide (a0=2)))
 <| zej n (decide (a0=3))
def zhu (n:Nat)(a0:Int):Option (Bool×Bool) :=
 jon (zek n a0) <|
 reg <| cnd (decide (a0=1))
  (zek n a0 (decide (a0=1)))
 <| zek n a0 (decide (a0=4))
def zg3 (n:Nat)(a0:z05):Option (Int) :=
 cnd (decide (a0.fKind=0))
  (cnd (decide (a0.fNum<(-1099511627776)))
    (some 2)
  <| cnd (decide (1099511627776<a0.fNum))
   (some 2)
  <| cnd (decide (a0.fKind=1))
   (cnd (!decide (a0.fNum=0))
     (cnd (!decide (a0.fNum=1))
       (some 2)
     <| cnd (decide (64<((a0.fText.size:Nat):Int)))
      (some 13)
     <| some 0)
   <| cnd (decide (64<((a0.fText.size:Nat):Int)))
    (some 13)
   <| some 0)
  <| cnd (decide (64<((a0.fText.size:Nat):Int)))
   (some 13)
  <| some 0)
 <| cnd (decide (a0.fKind=1))
  (cnd (!decide (a0.fNum=0))
    (cnd (!decide (a0.fNum=1))
      (some 2)
    <| cnd (decide (64<((a0.fText.size:Nat):Int)))
     (some 13)
    <| some 0)
  <| cnd (decide (64<((a0.fText.size:Nat):Int)))
   (some 13)
  <| some 0)
 <| cnd (decide (64<((a0.fText.size:Nat):Int)))
  (some 13)
 <| some 0
def zca (n:Nat)(a0:z05):Option (Int) :=
 cnd (decide (a0.fKind=0))
  (cnd (decide (a0.fKind=0))
    (cnd (!(a0.fText.toList == ByteArray.empty.toList))
      (some 3)
    <| bnd (zg3 n a0) fun x1 =>
    some x1)
  <| cnd (decide (a0.fKind=2))
   (cnd (!decide (a0.fNum=0))
     (some 3)
   <| bnd (zg3 n a0) fun x2 =>
   some x2)
  <| some 1)
 <| cnd (decide (a0.fKind=1))
  (cnd (!(a0.fText.toList == ByteArray.empty.toList))
    (some 3)
  <| bnd (zg3 n a0) fun x3 =>
  some x3)
 <| cnd (decide (a0.fKind=2))
  (cnd (!decide (a0.fNum=0))
    (some 3)
  <| bnd (zg3 n a0) fun x4 =>
  some x4)
 <| some 1
def zbp (n:Nat)(b:Bool):Option (Bool) :=
 some b
def zi7 (n:Nat)(a0:Int)(a1:z05):Option (Bool) :=
 jon (zbp n) <|
 reg <| cnd (decide (a1.fKind=0))
  (zbp n true)
 <| cnd (decide (a0=4))
  (zbp n true)
 <| zbp n (decide (a0=5))
def z65 (n:Nat)(b:Bool):Option (Int) :=
 cnd (b)
  (some 9)
 <| some 0
def zfh (n:Nat)(a0:z0r):Option (Int) :=
 bnd (zca n a0.fValue) fun x1 =>
 cnd (!decide (x1=0))
  (some x1)
 <| jon (z65 n) <|
 reg <| cnd (decide (a0.fOp=4))
  (bnd (zi7 n a0.fKind a0.fValue) fun x4 =>
  cnd (!(x4))
   (z65 n true)
  <| cnd (decide (a0.fKind=1))
   (z65 n (!(decide (a0.fValue.fKind=0) && (decide (a0.fValue.fNum=0) && ((a0.fValue.fText.toList == ByteArray.empty.toList) && true)))))
  <| z65 n false)
 <| z65 n false
def z13 (n:Nat)(b:Bool):Option (Int) :=
 cnd (b)
  (some 3)
 <| some 0
def zel (n:Nat)(a0:z0r)(x2:Bool×Bool)(b:Bool)(_:Unit):Option (Int) :=
 jon (z13 n) <|
 reg <| cnd (!(x2.1))
  (cnd (!decide (a0.fVar=0))
    (z13 n true)
  <| cnd (!(x2.2))
   (cnd (!decide (a0.fField=0))
     (z13 n true)
   <| cnd (!(decide (a0.fOp=4)))
    (cnd (!decide (a0.fKind=0))
      (z13 n true)
    <| cnd (!(b))
     (z13 n (!(decide (a0.fValue.fKind=0) && (decide (a0.fValue.fNum=0) && ((a0.fValue.fText.toList == ByteArray.empty.toList) && true)))))
    <| z13 n false)
   <| cnd (!(b))
    (z13 n (!(decide (a0.fValue.fKind=0) && (decide (a0.fValue.fNum=0) && ((a0.fValue.fText.toList == ByteArray.empty.toList) && true)))))
   <| z13 n false)
  <| cnd (!(decide (a0.fOp=4)))
   (cnd (!decide (a0.fKind=0))
     (z13 n true)
   <| cnd (!(b))
    (z13 n (!(decide (a0.fValue.fKind=0) && (decide (a0.fValue.fNum=0) && ((a0.fValue.fText.toList == ByteArray.empty.toList) && true)))))
   <| z13 n false)
  <| cnd (!(b))
   (z13 n (!(decide (a0.fValue.fKind=0) && (decide (a0.fValue.fNum=0) && ((a0.fValue.fText.toList == ByteArray.empty.toList) && true)))))
  <| z13 n false)
 <| cnd (!(x2.2))
  (cnd (!decide (a0.fField=0))
    (z13 n true)
  <| cnd (!(decide (a0.fOp=4)))
   (cnd (!decide (a0.fKind=0))
     (z13 n true)
   <| cnd (!(b))
    (z13 n (!(decide (a0.fValue.fKind=0) && (decide (a0.fValue.fNum=0) && ((a0.fValue.fText.toList == ByteArray.empty.toList) && true)))))
   <| z13 n false)
  <| cnd (!(b))
   (z13 n (!(decide (a0.fValue.fKind=0) && (decide (a0.fValue.fNum=0) && ((a0.fValue.fText.toList == ByteArray.empty.toList) && true)))))
  <| z13 n false)
 <| cnd (!(decide (a0.fOp=4)))
  (cnd (!decide (a0.fKind=0))
    (z13 n true)
  <| cnd (!(b))
   (z13 n (!(decide (a0.fValue.fKind=0) && (decide (a0.fValue.fNum=0) && ((a0.fValue.fText.toList == ByteArray.empty.toList) && true)))))
  <| z13 n false)
 <| cnd (!(b))
  (z13 n (!(decide (a0.fValue.fKind=0) && (decide (a0.fValue.fNum=0) && ((a0.fValue.fText.toList == ByteArray.empty.toList) && true)))))
 <| z13 n false
def zem (n:Nat)(a0:z0r)(x2:Bool×Bool)(b:Bool):Option (Int) :=
 jon (zel n a0 x2 b) <|
 reg <| cnd (b)
  (bnd (zfh n a0) fun x8 =>
  cnd (!decide (x8=0))
   (some x8)
  <| zel n a0 x2 b ())
 <| zel n a0 x2 b ()
def zcg (n:Nat)(a0:z0r)(x2:Bool×Bool)(b:Bool):Option (Int) :=
 cnd (b)
  (some 1)
 <| jon (zem n a0 x2) <|
 reg <| cnd (decide (a0.fOp=4))
  (zem n a0 x2 true)
 <| zem n a0 x2 (decide (a0.fOp=0))
def z6j (n:Nat)(a0:z0r)(x2:Bool×Bool)(b:Bool):Option (Int) :=
 cnd (b)
  (some 2)
 <| jon (zcg n a0 x2) <|
 reg <| cnd (decide (a0.fOp=4))
  (cnd (decide (a0.fKind<1))
    (zcg n a0 x2 true)
  <| zcg n a0 x2 (decide (5<a0.fKind)))
 <| zcg n a0 x2 false
def zji (n:Nat)(a0:z0r):Option (Int) :=
 bnd (zi8 n a0.fOp) fun x1 =>
 cnd (!(x1.2))
  (some 1)
 <| cnd (!decide (((a0.fArgs.map idA).length:Int)=x1.1))
  (some 15)
 <| bnd (zhu n a0.fOp) fun x2 =>
 jon (z6j n a0 x2) <|
 reg <| cnd (x2.1)
  (cnd (decide (a0.fVar<0))
    (z6j n a0 x2 true)
  <| cnd (decide (16<=a0.fVar))
   (z6j n a0 x2 true)
  <| cnd (x2.2)
   (cnd (decide (a0.fField<0))
     (z6j n a0 x2 true)
   <| z6j n a0 x2 (decide (8<=a0.fField)))
  <| z6j n a0 x2 false)
 <| cnd (x2.2)
  (cnd (decide (a0.fField<0))
    (z6j n a0 x2 true)
  <| z6j n a0 x2 (decide (8<=a0.fField)))
 <| z6j n a0 x2 false
def zf5 (n:Nat)(b:z0r->Option (Int))(a0:z0r)(c:Option (Int)):Nat->Int->Option (Int)
 |0,_=>none
 |e+1,d =>
  cnd (decide (d<((a0.fArgs.map idA).length:Int)))
   (idxD z1y a0.fArgs d fun g =>
   bnd (b g) fun f =>
   cnd (!decide (f=0))
    (some f)
   <| (zf5 n b a0 c e) (IntKind.wrap .i64 (d+1)))
  <| c
def ze3:Nat->z0r->Option (Int)
 |0,_=>none
 |n+1,a0 =>
 bnd (zji n a0) fun x1 =>
 cnd (!decide (x1=0))
  (some x1)
 <| zf5 n (ze3 n) a0
  (some 0) n 0
def ze5 (n:Nat)(a0:z0r):Option (Int) :=
 bnd (zff n a0) fun x1 =>
 cnd (decide (64<x1.1))
  (some 5)
 <| cnd (decide (12<x1.2))
  (some 12)
 <| bnd (ze3 n a0) fun x2 =>
 some x2
def z83 (n:Nat)(b:Bool):Option (Bool) :=
 some b
def z3y (n:Nat)(a0:Int)(a1:Int):Option (Bool) :=
 jon (z83 n) <|
 reg <| cnd (decide (0<=a0))
  (z83 n (decide (a0<a1)))
 <| z83 n false
def zak (n:Nat)(a0:z0u)(a1:z0u):Option (Bool) :=
 some (decide (a0.fScope=a1.fScope))
def z9u (n:Nat)(d:z0u)(a0:(List z0u))(c:Option (Int)):Nat->Int->Option (Int)
 |0,_=>none
 |e+1,b =>
  cnd (decide (b<((a0.map z0t).length:Int)))
   (idx a0 b fun f =>
   bnd (zak n f d) fun g =>
   cnd (g)
    (some b)
   <| (z9u n d a0 c e) (IntKind.wrap .i64 (b+1)))
  <| c
def zdx (n:Nat)(a0:(List z0u))(b:z0u):Option (Int) :=
 z9u n b a0
  (some (-1)) n 0
def z9w (n:Nat)(a0:(List z0u))(b:z0u):Option (Bool) :=
 bnd (zdx n a0 b) fun x1 =>
 some (decide (0<=x1))
def z5d (n:Nat)(a1:(List z0u))(a0:z07)(b:Int)(c:Int->Option (Int))(d:z0u)(f:Bool):Option (Int) :=
 cnd (f)
  (some 2)
 <| sls a1 0 b fun g =>
 bnd (z9w n g d) fun h =>
 cnd (h)
  (some 7)
 <| bnd (ze5 n d.fCond) fun e =>
 cnd (!decide (e=0))
  (some e)
 <| c (IntKind.wrap .i64 (b+1))
def z36 (n:Nat)(a1:(List z0u))(a0:z07)(b:Option (Int)):Nat->Int->Option (Int)
 |0,_=>none
 |d+1,c =>
  cnd (decide (c<((a1.map z0t).length:Int)))
   (idx a1 c fun e =>
   jon (z5d n a1 a0 c (z36 n a1 a0 b d) e) <|
   reg <| bnd (z3y n e.fScope a0.fScopes) fun f =>
   cnd (!(f))
    (z5d n a1 a0 c (z36 n a1 a0 b d) e true)
   <| bnd (z3y n e.fType 16) fun g =>
   cnd (!(g))
    (z5d n a1 a0 c (z36 n a1 a0 b d) e true)
   <| bnd (z3y n e.fVar a0.fVars) fun h =>
   z5d n a1 a0 c (z36 n a1 a0 b d) e !(h))
  <| b
def ze7 (n:Nat)(a0:z07)(a1:(List z0u)):Option (Int) :=
 cnd (decide (64<((a1.map z0t).length:Int)))
  (some 5)
 <| z36 n a1 a0
  (some 0) n 0
def z96 (n:Nat)(a0:(List z1i))(c:(List Int)->Option ((List Int))):Nat->Int×(List Int)->Option ((List Int))
 |0,_=>none
 |d+1,b =>
  cnd (decide (b.1<((a0.map z26).length:Int)))
   (idx a0 b.1 fun e =>
   app b.2 [e.fScope] 8 fun f =>
   (z96 n a0 c d) ((IntKind.wrap .i64 (b.1+1)),f))
  <| c b.2
def zbc (n:Nat)(a0:(List z1i)):Option ((List Int)) :=
 z96 n a0
  (fun b=>some b) n (0,[])
def zck (n:Nat)(a1:Int)(a0:(List Int))(c:Option (Int)):Nat->Int->Option (Int)
 |0,_=>none
 |d+1,b =>
  cnd (decide (b<((a0.map aI).length:Int)))
   (idx a0 b fun e =>
   cnd (decide (a1=e))
    (some b)
   <| (zck n a1 a0 c d) (IntKind.wrap .i64 (b+1)))
  <| c
def zhw (n:Nat)(a0:(List Int))(a1:Int):Option (Int) :=
 zck n a1 a0
  (some (-1)) n 0
def z8d (n:Nat)(a0:(List Int))(a1:Int):Option (Bool) :=
 bnd (zhw n a0 a1) fun x1 =>
 some (decide (0<=x1))
def z3z (n:Nat)(a1:(List (List Int)))(a0:z07)(g:Int)(d:(List Int))(c:Option (Int)):Nat->Int->Option (Int)
 |0,_=>none
 |e+1,b =>
  cnd (decide (b<((d.map aI).length:Int)))
   (idx d b fun f =>
   bnd (z3y n f a0.fScopes) fun h =>
   cnd (!(h))
    (some 2)
   <| sls d 0 b fun j =>
   bnd (z8d n j f) fun k =>
   cnd (k)
    (some 7)
   <| (z3z n a1 a0 g d c e) (IntKind.wrap .i64 (b+1)))
  <| c
def z5c (n:Nat)(a1:(List (List Int)))(a0:z07)(c:Option (Int)):Nat->Int->Option (Int)
 |0,_=>none
 |d+1,b =>
  cnd (decide (b<(((List.map (fun q=>AV.sl 1 (List.map aI q)) (a1)).length:Nat):Int)))
   (idx a1 b fun e =>
   z3z n a1 a0 b e
    ((z5c n a1 a0 c d) (IntKind.wrap .i64 (b+1))) n 0)
  <| c
def ze6 (n:Nat)(a0:z07)(a1:(List (List Int))):Option (Int) :=
 z5c n a1 a0
  (some 0) n 0
def z84 (n:Nat)(b:Bool):Option (Bool) :=
 some b
def zac (n:Nat)(a0:z1i):Option (Bool) :=
 jon (z84 n) <|
 reg <| cnd (decide (a0.fSpan<0))
  (z84 n true)
 <| z84 n (decide (1099511627776<a0.fSpan))
def z6e (n:Nat)(a0:(List z1i))(c:Option (Int)):Nat->Int->Option (Int)
 |0,_=>none
 |d+1,b =>
  cnd (decide (b<((a0.map z26).length:Int)))
   (idx a0 b fun e =>
   bnd (zac n e) fun f =>
   cnd (f)
    (some b)
   <| (z6e n a0 c d) (IntKind.wrap .i64 (b+1)))
  <| c
def zb1 (n:Nat)(a0:(List z1i)):Option (Int) :=
 z6e n a0
  (some (-1)) n 0
def z6f (n:Nat)(a0:(List z1i)):Option (Bool) :=
 bnd (zb1 n a0) fun x1 =>
 some (decide (0<=x1))
def zbd (n:Nat)(a1:z0s)(a0:z07)(b:Option (Int)):Nat->Int->Option (Int)
 |0,_=>none
 |d+1,c =>
  cnd (decide (c<((a1.fChecks.map idA).length:Int)))
   (idxD z1y a1.fChecks c fun f =>
   bnd (ze5 n f) fun e =>
   cnd (!decide (e=0))
    (some e)
   <| (zbd n a1 a0 b d) (IntKind.wrap .i64 (c+1)))
  <| b
def z20 (n:Nat)(a2:Int)(a1:z0s)(a0:z07)(c:Bool):Option (Int) :=
 cnd (c)
  (some 2)
 <| cnd (decide (a1.fFrom<a2))
  (some 14)
 <| bnd (ze5 n a1.fCond) fun x5 =>
 cnd (!decide (x5=0))
  (some x5)
 <| cnd (decide (64<((a1.fChecks.map idA).length:Int)))
  (some 5)
 <| zbd n a1 a0
  (bnd (zbc n a1.fLimits) fun d =>
 bnd (ze6 n a0 ([a1.fOpens,a1.fCloses,a1.fInside,d])) fun b =>
 cnd (!decide (b=0))
  (some b)
 <| bnd (z6f n a1.fLimits) fun e =>
 cnd (e)
  (some 2)
 <| some 0) n 0
def zfi (n:Nat)(a0:z07)(a1:z0s)(a2:Int):Option (Int) :=
 jon (z20 n a2 a1 a0) <|
 reg <| bnd (z3y n a1.fFrom ((a0.fStates.map z0p).length:Int)) fun b =>
 cnd (!(b))
  (z20 n a2 a1 a0 true)
 <| cnd (decide (a1.fTo<(-1)))
  (z20 n a2 a1 a0 true)
 <| cnd (decide (((a0.fStates.map z0p).length:Int)<=a1.fTo))
  (z20 n a2 a1 a0 true)
 <| bnd (z3y n a1.fVar a0.fVars) fun c =>
 cnd (!(c))
  (z20 n a2 a1 a0 true)
 <| bnd (z3y n a1.fType 16) fun d =>
 z20 n a2 a1 a0 !(d)
def zal (n:Nat)(a0:z07)(c:Option (Int)):Nat->Int×Int->Option (Int)
 |0,_=>none
 |d+1,b =>
  cnd (decide (b.2<((a0.fEdges.map z0v).length:Int)))
   (idx a0.fEdges b.2 fun e =>
   bnd (zfi n a0 e b.1) fun f =>
   cnd (!decide (f=0))
    (some f)
   <| (zal n a0 c d) (e.fFrom,(IntKind.wrap .i64 (b.2+1))))
  <| c
def zam (n:Nat)(a0:z07)(b:Option (Int)):Nat->Int->Option (Int)
 |0,_=>none
 |d+1,c =>
  cnd (decide (c<((a0.fStates.map z0p).length:Int)))
   (idx a0.fStates c fun f =>
   bnd (ze7 n a0 f.fGuards) fun e =>
   cnd (!decide (e=0))
    (some e)
   <| (zam n a0 b d) (IntKind.wrap .i64 (c+1)))
  <| b
def z3i (n:Nat)(a0:z07)(b:Bool):Option (Int) :=
 cnd (b)
  (some 5)
 <| zam n a0
  (zal n a0
  (some 0) n (0,0)) n 0
def z2r (n:Nat)(a0:z07)(b:Bool):Option (Int) :=
 cnd (b)
  (some 2)
 <| jon (z3i n a0) <|
 reg <| cnd (decide (((a0.fStates.map z0p).length:Int)<1))
  (z3i n a0 true)
 <| cnd (decide (256<((a0.fStates.map z0p).length:Int)))
  (z3i n a0 true)
 <| z3i n a0 (decide (2048<((a0.fEdges.map z0v).length:Int)))
def zbe (n:Nat)(a0:z07):Option (Int) :=
 jon (z2r n a0) <|
 reg <| cnd (decide (a0.fVars<0))
  (z2r n a0 true)
 <| cnd (decide (16<a0.fVars))
  (z2r n a0 true)
 <| cnd (decide (a0.fScopes<0))
  (z2r n a0 true)
 <| z2r n a0 (decide (64<a0.fScopes))
def z3t (n:Nat)(b:Bool):Option (Bool) :=
 some b
def zae (n:Nat)(a0:Int):Option (Bool) :=
 jon (z3t n) <|
 reg <| cnd (decide (0<=a0))
  (z3t n (decide (a0<=5)))
 <| z3t n false
structure z0o where
 fKind:Int
 fCount:Int
 fValue:z05
deriving DecidableEq,Inhabited
def z37 (x:z0o):AV:=.agg [aI (x.fKind),aI (x.fCount),aI (x.fValue.fKind),aI (x.fValue.fNum),.str (x.fValue.fText)]
abbrev zev (x:z0o):List AV:=[aI (x.fKind),aI (x.fCount),aI (x.fValue.fKind),aI (x.fValue.fNum),.str (x.fValue.fText)]
def z2e (n:Nat)(b:Bool):Option (Int) :=
 cnd (b)
  (some 3)
 <| some 0
def z4y (n:Nat)(b:Bool):Option (Int) :=
 cnd (b)
  (some 3)
 <| some 0
def z4z (n:Nat)(a0:z0o)(b:Bool):Option (Int) :=
 cnd (b)
  (cnd (!(decide (a0.fValue.fKind=0) && (decide (a0.fValue.fNum=0) && ((a0.fValue.fText.toList == ByteArray.empty.toList) && true))))
    (some 3)
  <| some 0)
 <| cnd (decide (a0.fKind=1))
  (jon (z2e n) <|
  reg <| cnd (!decide (a0.fValue.fKind=0))
   (z2e n true)
  <| cnd (!(a0.fValue.fText.toList == ByteArray.empty.toList))
   (z2e n true)
  <| cnd (decide (a0.fValue.fNum<(IntKind.wrap .i64 (0-(IntKind.wrap .i64 (a0.fCount*1099511627776))))))
   (z2e n true)
  <| z2e n (decide ((IntKind.wrap .i64 (a0.fCount*1099511627776))<a0.fValue.fNum)))
 <| jon (z4y n) <|
 reg <| bnd (z3u n a0.fValue) fun x8 =>
 cnd (!decide (x8=0))
  (z4y n true)
 <| bnd (z7z n a0.fKind a0.fValue) fun x9 =>
 z4y n !(x9)
def z51 (n:Nat)(a0:z0o)(b:Bool):Option (Int) :=
 cnd (b)
  (some 2)
 <| jon (z4z n a0) <|
 reg <| cnd (decide (a0.fCount=0))
  (z4z n a0 true)
 <| z4z n a0 (decide (a0.fKind=0))
def z9r (n:Nat)(a0:z0o):Option (Int) :=
 bnd (zae n a0.fKind) fun x1 =>
 cnd (!(x1))
  (some 1)
 <| jon (z51 n a0) <|
 reg <| cnd (decide (a0.fCount<0))
  (z51 n a0 true)
 <| z51 n a0 (decide (4096<a0.fCount))
def z9p (n:Nat)(a0:Int)(a1:z05):Option (Int) :=
 bnd (z3u n a1) fun x1 =>
 cnd (!decide (x1=0))
  (some x1)
 <| bnd (z7z n a0 a1) fun x2 =>
 cnd (!(x2))
  (some 9)
 <| some 0
def za6 (n:Nat)(a0:Int)(a1:z05)(a2:z05):Option (z05) :=
 cnd (decide (a0=1))
  (some (⟨0,(IntKind.wrap .i64 (a1.fNum+a2.fNum)),ByteArray.empty⟩))
 <| cnd (decide (a0=2))
  (some (⟨0,(min a1.fNum a2.fNum),ByteArray.empty⟩))
 <| cnd (decide (a0=3))
  (some (⟨0,(max a1.fNum a2.fNum),ByteArray.empty⟩))
 <| cnd (decide (a0=4))
  (some a1)
 <| cnd (decide (a0=5))
  (some a2)
 <| some (⟨0,0,ByteArray.empty⟩)
def z4l (n:Nat)(a0:z0o)(b:Int×Int×ByteArray):Option (z0o×Int) :=
 some (⟨a0.fKind,(IntKind.wrap .i64 (a0.fCount+1)),⟨b.1,b.2.1,b.2.2⟩⟩,0)
def zd2 (n:Nat)(a0:z0o)(a1:z05):Option (z0o×Int) :=
 bnd (z9r n a0) fun x1 =>
 cnd (!decide (x1=0))
  (some (⟨0,0,⟨0,0,ByteArray.empty⟩⟩,x1))
 <| bnd (z9p n a0.fKind a1) fun x2 =>
 cnd (!decide (x2=0))
  (some (⟨0,0,⟨0,0,ByteArray.empty⟩⟩,x2))
 <| cnd (decide (a0.fCount=4096))
  (some (⟨0,0,⟨0,0,ByteArray.empty⟩⟩,5))
 <| jon (z4l n a0) <|
 reg <| cnd (decide (a0.fKind=0))
  (z4l n a0 (0,0,ByteArray.empty))
 <| reg <| cnd (decide (0<a0.fCount))
  (bnd (za6 n a0.fKind a0.fValue a1) fun x7 =>
  z4l n a0 (x7.fKind,x7.fNum,x7.fText))
 <| z4l n a0 (a1.fKind,a1.fNum,a1.fText)
def z48 (n:Nat)(a1:z05)(a0:z0o)(b:Bool):Option (z05×Int) :=
 cnd (b)
  (some (a1,0))
 <| some (a0.fValue,0)
def z91 (n:Nat)(a0:z0o)(a1:z05):Option (z05×Int) :=
 bnd (z9r n a0) fun x1 =>
 cnd (!decide (x1=0))
  (some (⟨0,0,ByteArray.empty⟩,x1))
 <| bnd (z9p n a0.fKind a1) fun x2 =>
 cnd (!decide (x2=0))
  (some (⟨0,0,ByteArray.empty⟩,x2))
 <| cnd (decide (a0.fKind=0))
  (some (⟨0,a0.fCount,ByteArray.empty⟩,0))
 <| jon (z48 n a1 a0) <|
 reg <| cnd (decide (a0.fCount=0))
  (z48 n a1 a0 (!decide (a0.fKind=1)))
 <| z48 n a1 a0 false
def z9q (n:Nat)(a2:z05)(a1:(List z05))(d:Int->Int->Int->Int->ByteArray->Option (z05×Int)):Nat->Int×Int×Int×Int×Int×ByteArray->Option (z05×Int)
 |0,_=>none
 |e+1,b =>
  cnd (decide (b.1<((a1.map z08).length:Int)))
   (idx a1 b.1 fun f =>
   bnd (zd2 n (⟨b.2.1,b.2.2.1,⟨b.2.2.2.1,b.2.2.2.2.1,b.2.2.2.2.2⟩⟩:z0o) f) fun c =>
   cnd (!decide (c.2=0))
    (some (⟨0,0,ByteArray.empty⟩,c.2))
   <| (z9q n a2 a1 d e) ((IntKind.wrap .i64 (b.1+1)),c.1.fKind,c.1.fCount,c.1.fValue.fKind,c.1.fValue.fNum,c.1.fValue.fText))
  <| d b.2.1 b.2.2.1 b.2.2.2.1 b.2.2.2.2.1 b.2.2.2.2.2
def zbs (n:Nat)(a0:Int)(a1:(List z05))(a2:z05):Option (z05×Int) :=
 bnd (zae n a0) fun x1 =>
 cnd (!(x1))
  (some (⟨0,0,ByteArray.empty⟩,1))
 <| cnd (decide (4096<((a1.map z08).length:Int)))
  (some (⟨0,0,ByteArray.empty⟩,5))
 <| z9q n a2 a1
  (fun b c d e f=>bnd (z91 n (⟨b,c,⟨d,e,f⟩⟩:z0o) a2) fun g =>
 some (g.1,g.2)) n (0,a0,0,0,0,ByteArray.empty)
structure z03 where
 fSource:Int
 fSeq:Int
 fType:Int
 fTime:Int
 fValues:(List z05)
deriving DecidableEq,Inhabited
def z02 (x:z03):AV:=.agg [aI (x.fSource),aI (x.fSeq),aI (x.fType),aI (x.fTime),.sl 3 (x.fValues.map z08)]
abbrev z16 (x:z03):List AV:=[aI (x.fSource),aI (x.fSeq),aI (x.fType),aI (x.fTime),.sl 3 (x.fValues.map z08)]
structure z0i where
 fVars:(List (List z03))
deriving DecidableEq,Inhabited
def zcs (x:z0i):AV:=.agg [.sl 1 (List.map (fun q=>AV.sl 5 (List.map z02 q)) (x.fVars))]
abbrev zcv (x:z0i):List AV:=[.sl 1 (List.map (fun q=>AV.sl 5 (List.map z02 q)) (x.fVars))]
def z47 (n:Nat)(a1:Int)(a0:z0i)(b:Bool):Option ((List z03)) :=
 cnd (b)
  (some [])
 <| idx a0.fVars a1 fun x2 =>
 some x2
def z6w (n:Nat)(a0:z0i)(a1:Int):Option ((List z03)) :=
 jon (z47 n a1 a0) <|
 reg <| cnd (decide (a1<0))
  (z47 n a1 a0 true)
 <| z47 n a1 a0 (decide ((((List.map (fun q=>AV.sl 5 (List.map z02 q)) (a0.fVars)).length:Nat):Int)<=a1))
def zep (n:Nat)(a0:z0i)(a1:Int)(a2:Int)(a3:z03):Option (z03×Bool) :=
 cnd (decide (a1=a2))
  (some (a3,true))
 <| bnd (z6w n (⟨a0.fVars⟩:z0i) a1) fun x1 =>
 cnd (decide (((x1.map z02).length:Int)=0))
  (some (⟨0,0,0,0,[]⟩,false))
 <| idx x1 (IntKind.wrap .i64 (((x1.map z02).length:Int)-1)) fun x2 =>
 some (x2,true)
def z8b (n:Nat)(a0:z0r)(x2:(List z03))(c:(List z05)->Option (z05×Int)):Nat->Int×(List z05)->Option (z05×Int)
 |0,_=>none
 |d+1,b =>
  cnd (decide (b.1<((x2.map z02).length:Int)))
   (idx x2 b.1 fun e =>
   cnd (decide (((e.fValues.map z08).length:Int)<=a0.fField))
    (some (⟨0,0,ByteArray.empty⟩,6))
   <| idx x2 b.1 fun f =>
   idx f.fValues a0.fField fun g =>
   app b.2 [g] 32 fun h =>
   (z8b n a0 x2 c d) ((IntKind.wrap .i64 (b.1+1)),h))
  <| c b.2
def zad (n:Nat)(a0:z0r)(a1:z0i)(a2:Int)(a3:z03):Option (z05×Int) :=
 cnd (decide (a0.fOp=0))
  (some (a0.fValue,0))
 <| cnd (decide (a0.fOp=3))
  (bnd (z6w n (⟨a1.fVars⟩:z0i) a0.fVar) fun x1 =>
  some (⟨0,((x1.map z02).length:Int),ByteArray.empty⟩,0))
 <| cnd (decide (a0.fOp=4))
  (bnd (z6w n (⟨a1.fVars⟩:z0i) a0.fVar) fun x2 =>
  z8b n a0 x2
   (fun c=>bnd (zbs n a0.fKind c a0.fValue) fun d =>
  some (d.1,d.2)) n (0,[]))
 <| bnd (zep n (⟨a1.fVars⟩:z0i) a0.fVar a2 a3) fun b =>
 cnd (!(b.2))
  (some (⟨0,0,ByteArray.empty⟩,10))
 <| cnd (decide (a0.fOp=2))
  (some (⟨0,b.1.fTime,ByteArray.empty⟩,0))
 <| cnd (decide (((b.1.fValues.map z08).length:Int)<=a0.fField))
  (some (⟨0,0,ByteArray.empty⟩,6))
 <| idx b.1.fValues a0.fField fun f =>
 bnd (z3u n f) fun e =>
 cnd (!decide (e=0))
  (some (⟨0,0,ByteArray.empty⟩,e))
 <| idx b.1.fValues a0.fField fun g =>
 some (g,0)
def z28 (n:Nat)(b:Bool):Option (Int) :=
 cnd (b)
  (some 1)
 <| some (-1)
def z1s (n:Nat)(a0:Int)(b:Bool):Option (Int) :=
 cnd (b)
  (some 0)
 <| jon (z28 n) <|
 reg <| cnd (decide (a0=10))
  (z28 n (decide (a0=10)))
 <| reg <| cnd (decide (a0=11))
  (z28 n (decide (a0=11)))
 <| z28 n (decide (a0=12))
def z9o (n:Nat)(a0:Int):Option (Int) :=
 jon (z1s n a0) <|
 reg <| cnd (decide (a0=5))
  (z1s n a0 (decide (a0=5)))
 <| reg <| cnd (decide (a0=6))
  (z1s n a0 (decide (a0=6)))
 <| reg <| cnd (decide (a0=7))
  (z1s n a0 (decide (a0=7)))
 <| z1s n a0 (decide (a0=8))
def z1j (n:Nat)(a1:(List Int))(a0:Int)(c:Int)(b:Int->Option (Int))(d:Bool):Option (Int) :=
 cnd (d)
  (some 9)
 <| b (IntKind.wrap .i64 (c+1))
def z1c (n:Nat)(a1:(List Int))(a0:Int)(b:Option (Int)):Nat->Int->Option (Int)
 |0,_=>none
 |d+1,c =>
  cnd (decide (c<((a1.map aI).length:Int)))
   (bnd (z9o n a0) fun e =>
   jon (z1j n a1 a0 c (z1c n a1 a0 b d)) <|
   reg <| cnd (decide (0<=e))
    (idx a1 c fun f =>
    cnd (!decide (f=e))
     (z1j n a1 a0 c (z1c n a1 a0 b d) true)
    <| cnd (decide (a0=9))
     (idx a1 c fun g =>
     idx a1 0 fun h =>
     z1j n a1 a0 c (z1c n a1 a0 b d) (!decide (g=h)))
    <| z1j n a1 a0 c (z1c n a1 a0 b d) false)
   <| cnd (decide (a0=9))
    (idx a1 c fun j =>
    idx a1 0 fun k =>
    z1j n a1 a0 c (z1c n a1 a0 b d) (!decide (j=k)))
   <| z1j n a1 a0 c (z1c n a1 a0 b d) false)
  <| b
def zbr (n:Nat)(a0:Int)(a1:(List Int)):Option (Int) :=
 z1c n a1 a0
  (some 0) n 0
def z1k (n:Nat)(a0:Bool):Option (z05) :=
 cnd (a0)
  (some (⟨1,1,ByteArray.empty⟩))
 <| some (⟨1,0,ByteArray.empty⟩)
def z4v (n:Nat)(b:Int×Int×ByteArray):Option (z05) :=
 some (⟨b.1,b.2.1,b.2.2⟩)
def z4u (n:Nat)(b:Int×Int×ByteArray):Option (z05) :=
 some (⟨b.1,b.2.1,b.2.2⟩)
def z7y (n:Nat)(a0:Int)(a1:(List z05)):Option (z05) :=
 cnd (decide (a0=5))
  (idx a1 0 fun x1 =>
  idx a1 1 fun x2 =>
  some (⟨0,(IntKind.wrap .i64 (x1.fNum+x2.fNum)),ByteArray.empty⟩))
 <| cnd (decide (a0=6))
  (idx a1 0 fun x3 =>
  idx a1 1 fun x4 =>
  some (⟨0,(IntKind.wrap .i64 (x3.fNum-x4.fNum)),ByteArray.empty⟩))
 <| cnd (decide (a0=7))
  (idx a1 0 fun x5 =>
  idx a1 1 fun x6 =>
  bnd (z1k n (decide (x5.fNum<x6.fNum))) fun x7 =>
  some x7)
 <| cnd (decide (a0=8))
  (idx a1 0 fun x8 =>
  idx a1 1 fun x9 =>
  bnd (z1k n (decide (x8.fNum<=x9.fNum))) fun h =>
  some h)
 <| cnd (decide (a0=9))
  (idx a1 0 fun b =>
  idx a1 1 fun c =>
  bnd (z1k n (decide (b.fKind=c.fKind) && (decide (b.fNum=c.fNum) && ((b.fText.toList == c.fText.toList) && true)))) fun j =>
  some j)
 <| cnd (decide (a0=10))
  (jon (z4v n) <|
  reg <| idx a1 0 fun k =>
  cnd (decide (k.fNum=1))
   (idx a1 1 fun l =>
   bnd (z1k n (decide (l.fNum=1))) fun d =>
   z4v n (d.fKind,d.fNum,d.fText))
  <| bnd (z1k n false) fun e =>
  z4v n (e.fKind,e.fNum,e.fText))
 <| cnd (decide (a0=11))
  (jon (z4u n) <|
  reg <| idx a1 0 fun o =>
  cnd (decide (o.fNum=1))
   (bnd (z1k n true) fun f =>
   z4u n (f.fKind,f.fNum,f.fText))
  <| idx a1 1 fun p =>
  bnd (z1k n (decide (p.fNum=1))) fun g =>
  z4u n (g.fKind,g.fNum,g.fText))
 <| idx a1 0 fun q =>
 bnd (z1k n (!decide (q.fNum=1))) fun s =>
 some s
def z8c (n:Nat)(b:z0r->z0i->Int->z03->Option (z05×Int))(a3:z03)(a2:Int)(a1:z0i)(a0:z0r)(d:(List z05)->(List Int)->Option (z05×Int)):Nat->Int×(List z05)×(List Int)->Option (z05×Int)
 |0,_=>none
 |f+1,c =>
  cnd (decide (c.1<((a0.fArgs.map idA).length:Int)))
   (idxD z1y a0.fArgs c.1 fun g =>
   bnd (b g (⟨a1.fVars⟩:z0i) a2 a3) fun e =>
   cnd (!decide (e.2=0))
    (some (⟨0,0,ByteArray.empty⟩,e.2))
   <| app c.2.1 [e.1] 32 fun h =>
   app c.2.2 [e.1.fKind] 8 fun j =>
   (z8c n b a3 a2 a1 a0 d f) ((IntKind.wrap .i64 (c.1+1)),h,j))
  <| d c.2.1 c.2.2
def z4p:Nat->z0r->z0i->Int->z03->Option (z05×Int)
 |0,_,_,_,_=>none
 |n+1,a0,a1,a2,a3 =>
 cnd (decide (((a0.fArgs.map idA).length:Int)=0))
  (bnd (zad n a0 (⟨a1.fVars⟩:z0i) a2 a3) fun x1 =>
  some (x1.1,x1.2))
 <| z8c n (z4p n) a3 a2 a1 a0
  (fun b c=>bnd (zbr n a0.fOp c) fun d =>
 cnd (!decide (d=0))
  (some (⟨0,0,ByteArray.empty⟩,d))
 <| bnd (z7y n a0.fOp b) fun e =>
 some (e,0)) n (0,[],[])
def zeq (n:Nat)(a0:z0r)(a1:z0i)(a2:Int)(a3:z03):Option (z05×Int) :=
 bnd (z35 n a0) fun x1 =>
 cnd (!decide (x1=0))
  (some (⟨0,0,ByteArray.empty⟩,x1))
 <| bnd (z4p n a0 (⟨a1.fVars⟩:z0i) a2 a3) fun x2 =>
 some (x2.1,x2.2)
def z4w (n:Nat)(b:Bool):Option (Bool) :=
 some b
def z32 (n:Nat)(a0:z0r)(a1:z0i)(a2:Int)(a3:z03):Option (Bool) :=
 bnd (zeq n a0 (⟨a1.fVars⟩:z0i) a2 a3) fun x1 =>
 jon (z4w n) <|
 reg <| cnd (decide (x1.2=0))
  (bnd (z1k n true) fun x4 =>
  z4w n (decide (x1.1.fKind=x4.fKind) && (decide (x1.1.fNum=x4.fNum) && ((x1.1.fText.toList == x4.fText.toList) && true))))
 <| z4w n false
structure z1h where
 fTime:Int
 fSource:Int
 fSeq:Int
deriving DecidableEq,Inhabited
def z1e (x:z1h):AV:=.agg [aI (x.fTime),aI (x.fSource),aI (x.fSeq)]
abbrev yhk (x:z1h):List AV:=[aI (x.fTime),aI (x.fSource),aI (x.fSeq)]
structure z0h where
 fVar:Int
 fRef:z1h
deriving DecidableEq,Inhabited
def z0b (x:z0h):AV:=.agg [aI (x.fVar),aI (x.fRef.fTime),aI (x.fRef.fSource),aI (x.fRef.fSeq)]
abbrev y3r (x:z0h):List AV:=[aI (x.fVar),aI (x.fRef.fTime),aI (x.fRef.fSource),aI (x.fRef.fSeq)]
structure z06 where
 fBindings:(List z0h)
deriving DecidableEq,Inhabited
def z0c (x:z06):AV:=.agg [.sl 4 (x.fBindings.map z0b)]
abbrev zcu (x:z06):List AV:=[.sl 4 (x.fBindings.map z0b)]
def z9s (n:Nat)(a0:z1h)(a1:z1h):Option (Int) :=
 cnd (!decide (a0.fTime=a1.fTime))
  (cnd (decide (a0.fTime<a1.fTime))
    (some (-1))
  <| some 1)
 <| cnd (!decide (a0.fSource=a1.fSource))
  (cnd (decide (a0.fSource<a1.fSource))
    (some (-1))
  <| some 1)
 <| cnd (decide (a0.fSeq<a1.fSeq))
  (some (-1))
 <| cnd (decide (a1.fSeq<a0.fSeq))
  (some 1)
 <| some 0
def zbj (n:Nat)(a0:z0h)(a1:z0h):Option (Int) :=
 bnd (z9s n (⟨a0.fRef.fTime,a0.fRef.fSource,a0.fRef.fSeq⟩:z1h) (⟨a1.fRef.fTime,a1.fRef.fSource,a1.fRef.fSeq⟩:z1h)) fun x1 =>
 cnd (!decide (x1=0))
  (some x1)
 <| cnd (decide (a0.fVar<a1.fVar))
  (some (-1))
 <| cnd (decide (a1.fVar<a0.fVar))
  (some 1)
 <| some 0
def z3l (n:Nat)(a1:z06)(a0:z06)(b:Int)(e:Option (Int))(f:Int->Option (Int))(h:Bool):Option (Int) :=
 cnd (h)
  (idx a0.fBindings b fun c =>
  idx a1.fBindings b fun d =>
  bnd (zbj n (⟨c.fVar,⟨c.fRef.fTime,c.fRef.fSource,c.fRef.fSeq⟩⟩:z0h) (⟨d.fVar,⟨d.fRef.fTime,d.fRef.fSource,d.fRef.fSeq⟩⟩:z0h)) fun g =>
  cnd (!decide (g=0))
   (some g)
  <| f (IntKind.wrap .i64 (b+1)))
 <| e
def z2o (n:Nat)(a1:z06)(a0:z06)(b:Option (Int)):Nat->Int->Option (Int)
 |0,_=>none
 |d+1,c =>
  jon (z3l n a1 a0 c b (z2o n a1 a0 b d)) <|
  reg <| cnd (decide (c<((a0.fBindings.map z0b).length:Int)))
   (z3l n a1 a0 c b (z2o n a1 a0 b d) (decide (c<((a1.fBindings.map z0b).length:Int))))
  <| z3l n a1 a0 c b (z2o n a1 a0 b d) false
def z2s (n:Nat)(a0:z06)(a1:z06):Option (Int) :=
 z2o n a1 a0
  (cnd (decide (((a0.fBindings.map z0b).length:Int)<((a1.fBindings.map z0b).length:Int)))
  (some (-1))
 <| cnd (decide (((a1.fBindings.map z0b).length:Int)<((a0.fBindings.map z0b).length:Int)))
  (some 1)
 <| some 0) n 0
structure z0a where
 fScope:Int
 fTime:Int
deriving DecidableEq,Inhabited
def z09 (x:z0a):AV:=.agg [aI (x.fScope),aI (x.fTime)]
abbrev zsu (x:z0a):List AV:=[aI (x.fScope),aI (x.fTime)]
structure z00 where
 fState:Int
 fBindings:(List z0h)
 fStarts:(List z0a)
deriving DecidableEq,Inhabited
def z01 (x:z00):AV:=.agg [aI (x.fState),.sl 4 (x.fBindings.map z0b),.sl 2 (x.fStarts.map z09)]
abbrev z12 (x:z00):List AV:=[aI (x.fState),.sl 4 (x.fBindings.map z0b),.sl 2 (x.fStarts.map z09)]
def z2n (n:Nat)(a1:z00)(a0:z00)(e:Int)(b:Int->Option (Int))(c:z0a)(d:z0a)(f:Bool):Option (Int) :=
 cnd (f)
  (some (-1))
 <| cnd (!(decide (c.fScope=d.fScope) && (decide (c.fTime=d.fTime) && true)))
  (some 1)
 <| b (IntKind.wrap .i64 (e+1))
def z3k (n:Nat)(a1:z00)(a0:z00)(b:Int)(f:Option (Int))(c:Int->Option (Int))(g:Bool):Option (Int) :=
 cnd (g)
  (idx a0.fStarts b fun d =>
  idx a1.fStarts b fun e =>
  jon (z2n n a1 a0 b c d e) <|
  reg <| cnd (decide (d.fScope<e.fScope))
   (z2n n a1 a0 b c d e true)
  <| cnd (decide (d.fScope=e.fScope))
   (z2n n a1 a0 b c d e (decide (d.fTime<e.fTime)))
  <| z2n n a1 a0 b c d e false)
 <| f
def z2m (n:Nat)(a1:z00)(a0:z00)(b:Option (Int)):Nat->Int->Option (Int)
 |0,_=>none
 |d+1,c =>
  jon (z3k n a1 a0 c b (z2m n a1 a0 b d)) <|
  reg <| cnd (decide (c<((a0.fStarts.map z09).length:Int)))
   (z3k n a1 a0 c b (z2m n a1 a0 b d) (decide (c<((a1.fStarts.map z09).length:Int))))
  <| z3k n a1 a0 c b (z2m n a1 a0 b d) false
def z89 (n:Nat)(a0:z00)(a1:z00):Option (Int) :=
 cnd (!decide (a0.fState=a1.fState))
  (cnd (decide (a0.fState<a1.fState))
    (some (-1))
  <| some 1)
 <| bnd (z2s n (⟨a0.fBindings⟩:z06) (⟨a1.fBindings⟩:z06)) fun x1 =>
 cnd (!decide (x1=0))
  (some x1)
 <| z2m n a1 a0
  (cnd (decide (((a0.fStarts.map z09).length:Int)<((a1.fStarts.map z09).length:Int)))
  (some (-1))
 <| cnd (decide (((a1.fStarts.map z09).length:Int)<((a0.fStarts.map z09).length:Int)))
  (some 1)
 <| some 0) n 0
def z6p (n:Nat)(a1:z00)(a0:(List z00))(b:Int)(c:Bool):Option ((List z00)) :=
 cnd (c)
  (some a0)
 <| sls a0 0 b fun d =>
 app ([]:List z00) d 56 fun e =>
 app e [a1] 56 fun f =>
 sls a0 b ((a0.map z01).length:Int) fun g =>
 app f g 56 fun h =>
 some h
def z6o (n:Nat)(a1:z00)(a0:(List z00))(b:Int)(c:Int->Option ((List z00)))(d:Int->Option ((List z00)))(e:Bool):Option ((List z00)) :=
 cnd (e)
  (d (IntKind.wrap .i64 (b+1)))
 <| c b
def z4g (n:Nat)(a1:z00)(a0:(List z00))(b:Int->Option ((List z00))):Nat->Int->Option ((List z00))
 |0,_=>none
 |d+1,c =>
  jon (z6o n a1 a0 c b (z4g n a1 a0 b d)) <|
  reg <| cnd (decide (c<((a0.map z01).length:Int)))
   (idx a0 c fun e =>
   bnd (z89 n e a1) fun f =>
   z6o n a1 a0 c b (z4g n a1 a0 b d) (decide (f<0)))
  <| z6o n a1 a0 c b (z4g n a1 a0 b d) false
def z9e (n:Nat)(a0:(List z00))(a1:z00):Option ((List z00)) :=
 z4g n a1 a0
  (fun b=>jon (z6p n a1 a0 b) <|
 reg <| cnd (decide (b<((a0.map z01).length:Int)))
  (idx a0 b fun c =>
  bnd (z89 n c a1) fun d =>
  z6p n a1 a0 b (decide (d=0)))
 <| z6p n a1 a0 b false) n 0
def z6n (n:Nat)(b:Bool):Option (Bool) :=
 some b
def zcq (n:Nat)(a0:Int):Option (Bool) :=
 jon (z6n n) <|
 reg <| cnd (decide (0<=a0))
  (z6n n (decide (a0<=5)))
 <| z6n n false
def z4q (n:Nat)(b:Bool):Option (Bool) :=
 some b
def zcp (n:Nat)(a0:Int)(a1:z05):Option (Bool) :=
 jon (z4q n) <|
 reg <| cnd (decide (a1.fKind=0))
  (z4q n true)
 <| cnd (!decide (a0=1))
  (cnd (!decide (a0=2))
    (z4q n (!decide (a0=3)))
  <| z4q n false)
 <| z4q n false
def zbf (n:Nat)(a0:Int)(a1:z05):Option (Int) :=
 bnd (zca n a1) fun x1 =>
 cnd (!decide (x1=0))
  (some x1)
 <| bnd (zcp n a0 a1) fun x2 =>
 cnd (!(x2))
  (some 9)
 <| some 0
def zft (n:Nat)(a0:Int)(a1:z05):Option (z05) :=
 cnd (decide (a0=0))
  (some (⟨0,0,ByteArray.empty⟩))
 <| some a1
def zee (n:Nat):Option (z05) :=
 some (⟨0,0,ByteArray.empty⟩)
def zed (n:Nat)(m0:z05)(m1:z05):Option (z05×z05×z05) :=
 some (⟨0,(IntKind.wrap .i64 (m0.fNum+m1.fNum)),ByteArray.empty⟩,m0,m1)
def zec (n:Nat)(m0:z05)(m1:z05):Option (z05×z05×z05) :=
 some (⟨0,(min m0.fNum m1.fNum),ByteArray.empty⟩,m0,m1)
def zeb (n:Nat)(m0:z05)(m1:z05):Option (z05×z05×z05) :=
 some (⟨0,(max m0.fNum m1.fNum),ByteArray.empty⟩,m0,m1)
def zea (n:Nat)(m0:z05):Option (z05×z05) :=
 some (m0,m0)
def ze9 (n:Nat)(m0:z05):Option (z05×z05) :=
 some (m0,m0)
def zdk (n:Nat)(a0:Int)(a1:z05)(a2:z05):Option (z05) :=
 natc a0 0
  (bnd (zee n) fun x1 =>
 some x1)
 <| natc a0 1
  (bndM 15 (zed n a1 a2) fun x2 =>
 some x2.1)
 <| natc a0 2
  (bndM 15 (zec n a1 a2) fun x3 =>
 some x3.1)
 <| natc a0 3
  (bndM 15 (zeb n a1 a2) fun x4 =>
 some x4.1)
 <| natc a0 4
  (bndM 15 (zea n a1) fun x5 =>
 some x5.1)
 <| natc a0 5
  (bndM 15 (ze9 n a2) fun x6 =>
 some x6.1)
 <| none
def zfu (n:Nat)(a0:z0o)(a1:z0o):Option (z0o) :=
 cnd (decide (a0.fCount=0))
  (some a1)
 <| cnd (decide (a1.fCount=0))
  (some a0)
 <| bnd (zdk n a0.fKind a0.fValue a1.fValue) fun x1 =>
 some (⟨a0.fKind,(IntKind.wrap .i64 (a0.fCount+a1.fCount)),x1⟩)
def zgx (n:Nat)(a0:z0o)(a1:z05)(a2:Int):Option (z0o) :=
 bnd (zft n a2 a1) fun x1 =>
 bnd (zfu n a0 (⟨a2,1,x1⟩:z0o)) fun x2 =>
 some x2
def za1 (n:Nat)(e:Int)(a1:(List z05))(c:Int->Int->Int->Int->ByteArray->Option (z0o)):Nat->Int×Int×Int×Int×Int×ByteArray->Option (z0o)
 |0,_=>none
 |f+1,b =>
  cnd (decide (b.1<((a1.map z08).length:Int)))
   (idx a1 b.1 fun g =>
   bnd (zgx n (⟨b.2.1,b.2.2.1,⟨b.2.2.2.1,b.2.2.2.2.1,b.2.2.2.2.2⟩⟩:z0o) g e) fun d =>
   (za1 n e a1 c f) ((IntKind.wrap .i64 (b.1+1)),d.fKind,d.fCount,d.fValue.fKind,d.fValue.fNum,d.fValue.fText))
  <| c b.2.1 b.2.2.1 b.2.2.2.1 b.2.2.2.2.1 b.2.2.2.2.2
def ze8 (n:Nat)(a0:z0o)(a1:(List z05))(g:Int):Option (z0o) :=
 za1 n g a1
  (fun b c d e f=>some (⟨b,c,⟨d,e,f⟩⟩)) n (0,a0.fKind,a0.fCount,a0.fValue.fKind,a0.fValue.fNum,a0.fValue.fText)
def z8p (n:Nat)(a0:z0o)(b:Bool):Option (Int) :=
 cnd (b)
  (some 2)
 <| reg <| cnd (decide (a0.fCount=0))
  (cnd (!((decide (a0.fValue.fKind=0) && (decide (a0.fValue.fNum=0) && ((a0.fValue.fText.toList == ByteArray.empty.toList) && true)))))
    (some 3)
  <| some 0)
 <| cnd (decide (a0.fKind=0))
  (cnd (!((decide (a0.fValue.fKind=0) && (decide (a0.fValue.fNum=0) && ((a0.fValue.fText.toList == ByteArray.empty.toList) && true)))))
    (some 3)
  <| some 0)
 <| reg <| cnd (decide (a0.fKind=1))
  (reg <| cnd (decide (a0.fValue.fKind=0))
    (cnd ((a0.fValue.fText.toList == ByteArray.empty.toList))
      (cnd (decide ((IntKind.wrap .i64 (0-(IntKind.wrap .i64 (a0.fCount*1099511627776))))<=a0.fValue.fNum))
        (cnd (!(decide (a0.fValue.fNum<=(IntKind.wrap .i64 (a0.fCount*1099511627776)))))
          (some 3)
        <| some 0)
      <| some 3)
    <| some 3)
  <| some 3)
 <| reg <| bnd (zca n a0.fValue) fun x3 =>
 cnd (decide (x3=0))
  (bnd (zcp n a0.fKind a0.fValue) fun x4 =>
  cnd (!(x4))
   (some 3)
  <| some 0)
 <| some 3
def zf6 (n:Nat)(a0:z0o):Option (Int) :=
 bnd (zcq n a0.fKind) fun x1 =>
 cnd (!(x1))
  (some 1)
 <| jon (z8p n a0) <|
 reg <| cnd (decide (a0.fCount<0))
  (z8p n a0 true)
 <| z8p n a0 (decide (4096<a0.fCount))
def z85 (n:Nat)(a1:z05)(a0:z0o)(b:Bool):Option (z05×Int) :=
 cnd (b)
  (some (a1,0))
 <| some (a0.fValue,0)
def zbu (n:Nat)(a0:z0o)(a1:z05):Option (z05×Int) :=
 bnd (zf6 n a0) fun x1 =>
 cnd (!decide (x1=0))
  (some (⟨0,0,ByteArray.empty⟩,x1))
 <| bnd (zbf n a0.fKind a1) fun x2 =>
 cnd (!decide (x2=0))
  (some (⟨0,0,ByteArray.empty⟩,x2))
 <| cnd (decide (a0.fKind=0))
  (some (⟨0,a0.fCount,ByteArray.empty⟩,0))
 <| jon (z85 n a1 a0) <|
 reg <| cnd (decide (a0.fCount=0))
  (z85 n a1 a0 (!decide (a0.fKind=1)))
 <| z85 n a1 a0 false
def zcr (n:Nat)(a2:z05)(a1:(List z05))(a0:Int)(b:Option (z05×Int)):Nat->Int->Option (z05×Int)
 |0,_=>none
 |d+1,c =>
  cnd (decide (c<((a1.map z08).length:Int)))
   (idx a1 c fun f =>
   bnd (zbf n a0 f) fun e =>
   cnd (!decide (e=0))
    (some (⟨0,0,ByteArray.empty⟩,e))
   <| (zcr n a2 a1 a0 b d) (IntKind.wrap .i64 (c+1)))
  <| b
def zfp (n:Nat)(a0:Int)(a1:(List z05))(a2:z05):Option (z05×Int) :=
 bnd (zcq n a0) fun x1 =>
 cnd (!(x1))
  (some (⟨0,0,ByteArray.empty⟩,1))
 <| cnd (decide (4096<((a1.map z08).length:Int)))
  (some (⟨0,0,ByteArray.empty⟩,5))
 <| zcr n a2 a1 a0
  (bnd (ze8 n (⟨a0,0,⟨0,0,ByteArray.empty⟩⟩:z0o) a1 a0) fun c =>
 bnd (zbu n c a2) fun b =>
 some (b.1,b.2)) n 0
def zjk (n:Nat)(a0:Int):Option (Bool) :=
 some (!decide (a0=a0))
def z3e (n:Nat)(a0:Int)(a1:Int):Option (Int) :=
 bnd (zjk n a0) fun x1 =>
 bnd (zjk n a1) fun x2 =>
 cnd (x1)
  (cnd (x2)
    (some 0)
  <| some (-1))
 <| cnd (x2)
  (some 1)
 <| cnd (decide (a0<a1))
  (some (-1))
 <| cnd (decide (a1<a0))
  (some 1)
 <| some 0
def zhv (n:Nat)(a0:(List Int))(b:Option (Int)):Nat->Int->Option (Int)
 |0,_=>none
 |d+1,c =>
  cnd (decide (c<((a0.map aI).length:Int)))
   (idx a0 c fun e =>
   cnd (!decide (e=0))
    (some e)
   <| (zhv n a0 b d) (IntKind.wrap .i64 (c+1)))
  <| b
def zgw (n:Nat)(a0:(List Int)):Option (Int) :=
 zhv n a0
  (some 0) n 0
def zi6 (n:Nat)(a0:z1h)(a1:z1h):Option (Int) :=
 bnd (z3e n a0.fTime a1.fTime) fun x1 =>
 bnd (z3e n a0.fSource a1.fSource) fun x2 =>
 bnd (z3e n a0.fSeq a1.fSeq) fun x3 =>
 bnd (zgw n ([x1,x2,x3])) fun x4 =>
 some x4
def zf3 (n:Nat)(a0:z0h)(a1:z0h):Option (Int) :=
 bnd (zi6 n (⟨a0.fRef.fTime,a0.fRef.fSource,a0.fRef.fSeq⟩:z1h) (⟨a1.fRef.fTime,a1.fRef.fSource,a1.fRef.fSeq⟩:z1h)) fun x1 =>
 bnd (z3e n a0.fVar a1.fVar) fun x2 =>
 bnd (zgw n ([x1,x2])) fun x3 =>
 some x3
def z8e (n:Nat)(a1:(List z0h))(a0:(List z0h))(c:Option (Int)):Nat->Int->Option (Int)
 |0,_=>none
 |f+1,b =>
  cnd (decide (b<((a0.map z0b).length:Int)))
   (idx a0 b fun d =>
   cnd (decide (((a1.map z0b).length:Int)<=b))
    (some 1)
   <| idx a1 b fun e =>
   bnd (zf3 n (⟨d.fVar,⟨d.fRef.fTime,d.fRef.fSource,d.fRef.fSeq⟩⟩:z0h) (⟨e.fVar,⟨e.fRef.fTime,e.fRef.fSource,e.fRef.fSeq⟩⟩:z0h)) fun g =>
   cnd (!decide (g=0))
    (some g)
   <| (z8e n a1 a0 c f) (IntKind.wrap .i64 (b+1)))
  <| c
def zc3 (n:Nat)(a0:(List z0h))(a1:(List z0h)):Option (Int) :=
 z8e n a1 a0
  (cnd (decide (((a0.map z0b).length:Int)<((a1.map z0b).length:Int)))
  (some (-1))
 <| some 0) n 0
def zf4 (n:Nat)(a0:z06)(a1:z06):Option (Int) :=
 bnd (zc3 n a0.fBindings a1.fBindings) fun x1 =>
 some x1
def zg7 (n:Nat)(a0:z0a)(a1:z0a):Option (Int) :=
 bnd (z3e n a0.fScope a1.fScope) fun x1 =>
 bnd (z3e n a0.fTime a1.fTime) fun x2 =>
 bnd (zgw n ([x1,x2])) fun x3 =>
 some x3
def z54 (n:Nat)(a1:(List z0a))(a0:(List z0a))(c:Option (Int)):Nat->Int->Option (Int)
 |0,_=>none
 |d+1,b =>
  cnd (decide (b<((a0.map z09).length:Int)))
   (idx a0 b fun f =>
   cnd (decide (((a1.map z09).length:Int)<=b))
    (some 1)
   <| idx a1 b fun g =>
   bnd (zg7 n f g) fun e =>
   cnd (!decide (e=0))
    (some e)
   <| (z54 n a1 a0 c d) (IntKind.wrap .i64 (b+1)))
  <| c
def z9x (n:Nat)(a0:(List z0a))(a1:(List z0a)):Option (Int) :=
 z54 n a1 a0
  (cnd (decide (((a0.map z09).length:Int)<((a1.map z09).length:Int)))
  (some (-1))
 <| some 0) n 0
def zhc (n:Nat)(a0:z00)(a1:z00):Option (Int) :=
 bnd (z3e n a0.fState a1.fState) fun x1 =>
 bnd (zf4 n (⟨a0.fBindings⟩:z06) (⟨a1.fBindings⟩:z06)) fun x2 =>
 bnd (z9x n a0.fStarts a1.fStarts) fun x3 =>
 bnd (zgw n ([x1,x2,x3])) fun x4 =>
 some x4
def z81 (n:Nat)(b:Bool):Option (Bool) :=
 some b
def zi3 (n:Nat)(a0:z03):Option (Bool) :=
 jon (z81 n) <|
 reg <| cnd (decide (0<=a0.fTime))
  (cnd (decide (a0.fTime<=1099511627776))
    (cnd (decide (0<=a0.fSource))
      (cnd (decide (a0.fSource<8))
        (cnd (decide (0<=a0.fSeq))
          (z81 n (decide (a0.fSeq<=1099511627776)))
        <| z81 n false)
      <| z81 n false)
    <| z81 n false)
  <| z81 n false)
 <| z81 n false
def zi2 (n:Nat)(a0:z03):Option (z1h) :=
 some (⟨a0.fTime,a0.fSource,a0.fSeq⟩)
def zhs (n:Nat)(a0:z1h)(a1:z1h):Option (Int) :=
 bnd (z3e n a0.fTime a1.fTime) fun x1 =>
 bnd (z3e n a0.fSource a1.fSource) fun x2 =>
 bnd (z3e n a0.fSeq a1.fSeq) fun x3 =>
 bnd (zgw n ([x1,x2,x3])) fun x4 =>
 some x4
def zg5 (n:Nat)(a0:z0h)(a1:z03):Option (Bool) :=
 bnd (zi2 n a1) fun x1 =>
 bnd (zhs n (⟨a0.fRef.fTime,a0.fRef.fSource,a0.fRef.fSeq⟩:z1h) (⟨x1.fTime,x1.fSource,x1.fSeq⟩:z1h)) fun x2 =>
 some (decide (0<=x2))
def z6c (n:Nat)(e:z03)(a0:(List z0h))(c:Option (Int)):Nat->Int->Option (Int)
 |0,_=>none
 |f+1,b =>
  cnd (decide (b<((a0.map z0b).length:Int)))
   (idx a0 b fun d =>
   bnd (zg5 n (⟨d.fVar,⟨d.fRef.fTime,d.fRef.fSource,d.fRef.fSeq⟩⟩:z0h) e) fun g =>
   cnd (g)
    (some b)
   <| (z6c n e a0 c f) (IntKind.wrap .i64 (b+1)))
  <| c
def zaz (n:Nat)(a0:(List z0h))(b:z03):Option (Int) :=
 z6c n b a0
  (some (-1)) n 0
def z99 (n:Nat)(a0:(List z0h))(b:z03):Option (Bool) :=
 bnd (zaz n a0 b) fun x1 =>
 some (decide (0<=x1))
def zrb (n:Nat)(a0:z00)(a1:z03):Option (Bool) :=
 bnd (z99 n a0.fBindings a1) fun x1 =>
 some x1
def zg6 (n:Nat)(a0:z00)(a1:z03):Option (Bool) :=
 bnd (zrb n a0 a1) fun x1 =>
 some x1
def z6d (n:Nat)(d:z03)(a0:(List z00))(c:Option (Int)):Nat->Int->Option (Int)
 |0,_=>none
 |e+1,b =>
  cnd (decide (b<((a0.map z01).length:Int)))
   (idx a0 b fun f =>
   bnd (zg6 n f d) fun g =>
   cnd (g)
    (some b)
   <| (z6d n d a0 c e) (IntKind.wrap .i64 (b+1)))
  <| c
def zb0 (n:Nat)(a0:(List z00))(b:z03):Option (Int) :=
 z6d n b a0
  (some (-1)) n 0
def z9a (n:Nat)(a0:(List z00))(b:z03):Option (Bool) :=
 bnd (zb0 n a0 b) fun x1 =>
 some (decide (0<=x1))
def zht (n:Nat)(a0:(List z00))(a1:z03):Option (Int) :=
 bnd (zi3 n a1) fun x1 =>
 cnd (!(x1))
  (some 2)
 <| bnd (z9a n a0 a1) fun x2 =>
 cnd (x2)
  (some 14)
 <| some 0
attribute [irreducible] z4x z1g z1w z3q z5v z2d z0j z2t z5w z5x z3s z1f z6r z31 z18 z1u z2c zdi zej zek zbp z65 z13 zel zem zcg z6j z83 z5d z84 z20 z3i z2r z3t z2e z4y z4z z51 z4l z48 z47 z28 z1s z1j z4v z4u z4w z3l z2n z3k z6p z6o z6n z4q z8p z85 z81
end Go.Proofs.YtidhlpjgifoneaaGreat
