/- What some functions compute, over plain values. -/
import Derived.Test.YtidhlpjgifoneaaGreatK17
set_option linter.unusedVariables false
set_option linter.unusedSimpArgs false
set_option maxRecDepth 100000
set_option maxHeartbeats 8000000
namespace Go.Proofs.YtidhlpjgifoneaaGreat
open Go.RowKit
structure z05 where
 fKind:Int
 fNum:Int
 fText:ByteArray
deriving DecidableEq,Inhabited
def z08 (x:z05):AV:=.agg [aI (x.fKind),aI (x.fNum),.str (x.fText)]
abbrev z26 (x:z05):List AV:=[aI (x.fKind),aI (x.fNum),.str (x.fText)]
structure z0r where
 fOp:Int
 fArgs:(List AV)
 fVar:Int
 fField:Int
 fKind:Int
 fValue:z05
deriving Inhabited
def z0l (x:z0r):AV:=.agg [aI (x.fOp),.sl 8 (x.fArgs.map idA),aI (x.fVar),aI (x.fField),aI (x.fKind),aI (x.fValue.fKind),aI (x.fValue.fNum),.str (x.fValue.fText)]
abbrev z8s (x:z0r):List AV:=[aI (x.fOp),.sl 8 (x.fArgs.map idA),aI (x.fVar),aI (x.fField),aI (x.fKind),aI (x.fValue.fKind),aI (x.fValue.fNum),.str (x.fValue.fText)]
def z1x:AV->Option z0r
 |.agg [.int .i64 c0,.sl 8 c1,.int .i64 c2,.int .i64 c3,.int .i64 c4,.int .i64 c5,.int .i64 c6,.str c7]=>some ⟨c0,c1,c2,c3,c4,⟨c5,c6,c7⟩⟩
 |_=>none
theorem z3v (a:AV)(y:z0r)(h:z1x a=some y):a=z0l y:=by
 unfold z1x at h
 split at h
 ·injection h with h;subst h;simp [z0l,aI,zuk]
 ·cases h
theorem zcu (y:z0r):z1x (z0l y)=some y:=by simp [z1x,z0l,aI,zuk]
def z4s (n:Nat)(b:z0r->Int->Option (Int))(a1:Int)(a0:z0r)(c:Int×Int)(d:Int->Option (Int))(e:(Int×Int)->Option (Int))(f:Bool):Option (Int) :=
 cnd (f)
  (idxD z1x a0.fArgs c.2 fun g =>
  bnd (b g a1) fun h =>
  e ((IntKind.wrap .i64 (c.1+h)),(IntKind.wrap .i64 (c.2+1))))
 <| d c.1
def z3c (n:Nat)(b:z0r->Int->Option (Int))(a1:Int)(a0:z0r)(c:Int->Option (Int)):Nat->Int×Int->Option (Int)
 |0,_=>none
 |e+1,d =>
  jon (z4s n b a1 a0 d c (z3c n b a1 a0 c e)) <|
  reg <| cnd (decide (d.2<((a0.fArgs.map idA).length:Int)))
   (z4s n b a1 a0 d c (z3c n b a1 a0 c e) (decide (d.1<=a1)))
  <| z4s n b a1 a0 d c (z3c n b a1 a0 c e) false
def z31:Nat->z0r->Int->Option (Int)
 |0,_,_=>none
 |n+1,a0,a1 =>
 z3c n (z31 n) a1 a0
  (fun b=>some b) n (1,0)
def z7f (n:Nat)(b:z0r->Option (Int))(a0:z0r)(d:Int->Option (Int)):Nat->Int×Int->Option (Int)
 |0,_=>none
 |e+1,c =>
  cnd (decide (c.2<((a0.fArgs.map idA).length:Int)))
   (idxD z1x a0.fArgs c.2 fun f =>
   bnd (b f) fun g =>
   (z7f n b a0 d e) ((max c.1 g),(IntKind.wrap .i64 (c.2+1))))
  <| d c.1
def z30:Nat->z0r->Option (Int)
 |0,_=>none
 |n+1,a0 =>
 z7f n (z30 n) a0
  (fun b=>some (IntKind.wrap .i64 (b+1))) n (0,0)
def z1f (n:Nat)(b:Bool):Option (Int) :=
 cnd (b)
  (some 2)
 <| some (-1)
def z1v (n:Nat)(a0:Int)(b:Bool):Option (Int) :=
 cnd (b)
  (some 0)
 <| cnd (decide (a0=12))
  (some 1)
 <| jon (z1f n) <|
 reg <| cnd (decide (a0=5))
  (z1f n (decide (a0=5)))
 <| reg <| cnd (decide (a0=6))
  (z1f n (decide (a0=6)))
 <| reg <| cnd (decide (a0=7))
  (z1f n (decide (a0=7)))
 <| reg <| cnd (decide (a0=8))
  (z1f n (decide (a0=8)))
 <| reg <| cnd (decide (a0=9))
  (z1f n (decide (a0=9)))
 <| reg <| cnd (decide (a0=10))
  (z1f n (decide (a0=10)))
 <| z1f n (decide (a0=11))
def zbj (n:Nat)(a0:Int):Option (Int) :=
 jon (z1v n a0) <|
 reg <| cnd (decide (a0=0))
  (z1v n a0 (decide (a0=0)))
 <| reg <| cnd (decide (a0=1))
  (z1v n a0 (decide (a0=1)))
 <| reg <| cnd (decide (a0=2))
  (z1v n a0 (decide (a0=2)))
 <| reg <| cnd (decide (a0=3))
  (z1v n a0 (decide (a0=3)))
 <| z1v n a0 (decide (a0=4))
def z3m (n:Nat)(b:Bool)(c:Bool):Option (Bool×Bool) :=
 some (c,b)
def z5t (n:Nat)(a0:Int)(b:Bool):Option (Bool×Bool) :=
 jon (z3m n b) <|
 reg <| cnd (b)
  (z3m n b true)
 <| cnd (decide (a0=2))
  (z3m n b true)
 <| z3m n b (decide (a0=3))
def zc0 (n:Nat)(a0:Int):Option (Bool×Bool) :=
 jon (z5t n a0) <|
 reg <| cnd (decide (a0=1))
  (z5t n a0 true)
 <| z5t n a0 (decide (a0=4))
def z3q (n:Nat)(a0:z05):Option (Int) :=
 cnd (decide (a0.fKind<0))
  (some 1)
 <| cnd (decide (2<a0.fKind))
  (some 1)
 <| cnd (decide (a0.fKind=2))
  (cnd (!decide (a0.fNum=0))
    (some 3)
  <| cnd (decide (64<((a0.fText.size:Nat):Int)))
   (some 13)
  <| some 0)
 <| cnd (!(a0.fText.toList == ByteArray.empty.toList))
  (some 3)
 <| cnd (decide (a0.fKind=1))
  (cnd (decide (a0.fNum<0))
    (some 2)
  <| cnd (decide (1<a0.fNum))
   (some 2)
  <| cnd (decide (a0.fNum<(-1099511627776)))
   (some 2)
  <| cnd (decide (1099511627776<a0.fNum))
   (some 2)
  <| some 0)
 <| cnd (decide (a0.fNum<(-1099511627776)))
  (some 2)
 <| cnd (decide (1099511627776<a0.fNum))
  (some 2)
 <| some 0
def z2b (n:Nat)(b:Bool):Option (Bool) :=
 some b
def z7x (n:Nat)(a0:Int)(a1:z05):Option (Bool) :=
 jon (z2b n) <|
 reg <| cnd (decide (a1.fKind=0))
  (z2b n true)
 <| cnd (decide (a0=0))
  (z2b n true)
 <| cnd (decide (a0=4))
  (z2b n true)
 <| z2b n (decide (a0=5))
def z0j (n:Nat)(b:Bool):Option (Int) :=
 cnd (b)
  (some 3)
 <| some 0
def z2q (n:Nat)(a0:z0r)(x2:Bool×Bool)(b:Bool)(c:Bool):Option (Int) :=
 cnd (c)
  (some 9)
 <| jon (z0j n) <|
 reg <| cnd (!(x2.1))
  (cnd (!decide (a0.fVar=0))
    (z0j n true)
  <| cnd (!(x2.2))
   (cnd (!decide (a0.fField=0))
     (z0j n true)
   <| cnd (!(decide (a0.fOp=4)))
    (cnd (!decide (a0.fKind=0))
      (z0j n true)
    <| cnd (!(b))
     (z0j n (!(decide (a0.fValue.fKind=0) && (decide (a0.fValue.fNum=0) && ((a0.fValue.fText.toList == ByteArray.empty.toList) && true)))))
    <| z0j n false)
   <| cnd (!(b))
    (z0j n (!(decide (a0.fValue.fKind=0) && (decide (a0.fValue.fNum=0) && ((a0.fValue.fText.toList == ByteArray.empty.toList) && true)))))
   <| z0j n false)
  <| cnd (!(decide (a0.fOp=4)))
   (cnd (!decide (a0.fKind=0))
     (z0j n true)
   <| cnd (!(b))
    (z0j n (!(decide (a0.fValue.fKind=0) && (decide (a0.fValue.fNum=0) && ((a0.fValue.fText.toList == ByteArray.empty.toList) && true)))))
   <| z0j n false)
  <| cnd (!(b))
   (z0j n (!(decide (a0.fValue.fKind=0) && (decide (a0.fValue.fNum=0) && ((a0.fValue.fText.toList == ByteArray.empty.toList) && true)))))
  <| z0j n false)
 <| cnd (!(x2.2))
  (cnd (!decide (a0.fField=0))
    (z0j n true)
  <| cnd (!(decide (a0.fOp=4)))
   (cnd (!decide (a0.fKind=0))
     (z0j n true)
   <| cnd (!(b))
    (z0j n (!(decide (a0.fValue.fKind=0) && (decide (a0.fValue.fNum=0) && ((a0.fValue.fText.toList == ByteArray.empty.toList) && true)))))
   <| z0j n false)
  <| cnd (!(b))
   (z0j n (!(decide (a0.fValue.fKind=0) && (decide (a0.fValue.fNum=0) && ((a0.fValue.fText.toList == ByteArray.empty.toList) && true)))))
  <| z0j n false)
 <| cnd (!(decide (a0.fOp=4)))
  (cnd (!decide (a0.fKind=0))
    (z0j n true)
  <| cnd (!(b))
   (z0j n (!(decide (a0.fValue.fKind=0) && (decide (a0.fValue.fNum=0) && ((a0.fValue.fText.toList == ByteArray.empty.toList) && true)))))
  <| z0j n false)
 <| cnd (!(b))
  (z0j n (!(decide (a0.fValue.fKind=0) && (decide (a0.fValue.fNum=0) && ((a0.fValue.fText.toList == ByteArray.empty.toList) && true)))))
 <| z0j n false
def z5u (n:Nat)(a0:z0r)(x2:Bool×Bool)(b:Bool)(_:Unit):Option (Int) :=
 jon (z2q n a0 x2 b) <|
 reg <| cnd (decide (a0.fOp=4))
  (bnd (z7x n a0.fKind a0.fValue) fun c =>
  cnd (!(c))
   (z2q n a0 x2 b true)
  <| cnd (decide (a0.fKind=1))
   (z2q n a0 x2 b (!(decide (a0.fValue.fKind=0) && (decide (a0.fValue.fNum=0) && ((a0.fValue.fText.toList == ByteArray.empty.toList) && true)))))
  <| z2q n a0 x2 b false)
 <| z2q n a0 x2 b false
def z5v (n:Nat)(a0:z0r)(x2:Bool×Bool)(b:Bool):Option (Int) :=
 jon (z5u n a0 x2 b) <|
 reg <| cnd (b)
  (bnd (z3q n a0.fValue) fun c =>
  cnd (!decide (c=0))
   (some c)
  <| z5u n a0 x2 b ())
 <| z5u n a0 x2 b ()
def z3o (n:Nat)(a0:z0r)(x2:Bool×Bool)(b:Bool):Option (Int) :=
 cnd (b)
  (some 1)
 <| jon (z5v n a0 x2) <|
 reg <| cnd (decide (a0.fOp=4))
  (z5v n a0 x2 true)
 <| z5v n a0 x2 (decide (a0.fOp=0))
def z1d (n:Nat)(a0:z0r)(x2:Bool×Bool)(b:Bool):Option (Int) :=
 cnd (b)
  (some 2)
 <| jon (z3o n a0 x2) <|
 reg <| cnd (decide (a0.fOp=4))
  (cnd (decide (a0.fKind<1))
    (z3o n a0 x2 true)
  <| z3o n a0 x2 (decide (5<a0.fKind)))
 <| z3o n a0 x2 false
def zc1 (n:Nat)(a0:z0r):Option (Int) :=
 bnd (zbj n a0.fOp) fun x1 =>
 cnd (decide (x1<0))
  (some 1)
 <| cnd (!decide (((a0.fArgs.map idA).length:Int)=x1))
  (some 15)
 <| bnd (zc0 n a0.fOp) fun x2 =>
 jon (z1d n a0 x2) <|
 reg <| cnd (x2.1)
  (cnd (decide (a0.fVar<0))
    (z1d n a0 x2 true)
  <| cnd (decide (16<=a0.fVar))
   (z1d n a0 x2 true)
  <| cnd (x2.2)
   (cnd (decide (a0.fField<0))
     (z1d n a0 x2 true)
   <| z1d n a0 x2 (decide (8<=a0.fField)))
  <| z1d n a0 x2 false)
 <| cnd (x2.2)
  (cnd (decide (a0.fField<0))
    (z1d n a0 x2 true)
  <| z1d n a0 x2 (decide (8<=a0.fField)))
 <| z1d n a0 x2 false
def z7e (n:Nat)(b:z0r->Option (Int))(a0:z0r)(c:Option (Int)):Nat->Int->Option (Int)
 |0,_=>none
 |e+1,d =>
  cnd (decide (d<((a0.fArgs.map idA).length:Int)))
   (idxD z1x a0.fArgs d fun g =>
   bnd (b g) fun f =>
   cnd (!decide (f=0))
    (some f)
   <| (z7e n b a0 c e) (IntKind.wrap .i64 (d+1)))
  <| c
def z3n:Nat->z0r->Option (Int)
 |0,_=>none
 |n+1,a0 =>
 bnd (zc1 n a0) fun x1 =>
 cnd (!decide (x1=0))
  (some x1)
 <| z7e n (z3n n) a0
  (some 0) n 0
def z32 (n:Nat)(a0:z0r):Option (Int) :=
 bnd (z31 n a0 64) fun x1 =>
 cnd (decide (64<x1))
  (some 5)
 <| bnd (z30 n a0) fun x2 =>
 cnd (decide (12<x2))
  (some 12)
 <| bnd (z3n n a0) fun x3 =>
 some x3
structure z0v where
 fScope:Int
 fType:Int
 fVar:Int
 fCond:z0r
deriving Inhabited
def z0u (x:z0v):AV:=.agg [aI (x.fScope),aI (x.fType),aI (x.fVar),aI (x.fCond.fOp),.sl 8 (x.fCond.fArgs.map idA),aI (x.fCond.fVar),aI (x.fCond.fField),aI (x.fCond.fKind),aI (x.fCond.fValue.fKind),aI (x.fCond.fValue.fNum),.str (x.fCond.fValue.fText)]
abbrev zje (x:z0v):List AV:=[aI (x.fScope),aI (x.fType),aI (x.fVar),aI (x.fCond.fOp),.sl 8 (x.fCond.fArgs.map idA),aI (x.fCond.fVar),aI (x.fCond.fField),aI (x.fCond.fKind),aI (x.fCond.fValue.fKind),aI (x.fCond.fValue.fNum),.str (x.fCond.fValue.fText)]
structure zeg where
 fGuards:(List z0v)
deriving Inhabited
def z0p (x:zeg):AV:=.agg [.sl 11 (x.fGuards.map z0u)]
structure z1h where
 fScope:Int
 fSpan:Int
deriving DecidableEq,Inhabited
def z24 (x:z1h):AV:=.agg [aI (x.fScope),aI (x.fSpan)]
abbrev zo8 (x:z1h):List AV:=[aI (x.fScope),aI (x.fSpan)]
structure z0t where
 fFrom:Int
 fTo:Int
 fVar:Int
 fType:Int
 fCond:z0r
 fOpens:(List Int)
 fCloses:(List Int)
 fChecks:(List AV)
 fLimits:(List z1h)
 fInside:(List Int)
deriving Inhabited
def z0w (x:z0t):AV:=.agg [aI (x.fFrom),aI (x.fTo),aI (x.fVar),aI (x.fType),aI (x.fCond.fOp),.sl 8 (x.fCond.fArgs.map idA),aI (x.fCond.fVar),aI (x.fCond.fField),aI (x.fCond.fKind),aI (x.fCond.fValue.fKind),aI (x.fCond.fValue.fNum),.str (x.fCond.fValue.fText),.sl 1 (x.fOpens.map aI),.sl 1 (x.fCloses.map aI),.sl 8 (x.fChecks.map idA),.sl 2 (x.fLimits.map z24),.sl 1 (x.fInside.map aI)]
abbrev z28 (x:z0t):List AV:=[aI (x.fFrom),aI (x.fTo),aI (x.fVar),aI (x.fType),aI (x.fCond.fOp),.sl 8 (x.fCond.fArgs.map idA),aI (x.fCond.fVar),aI (x.fCond.fField),aI (x.fCond.fKind),aI (x.fCond.fValue.fKind),aI (x.fCond.fValue.fNum),.str (x.fCond.fValue.fText),.sl 1 (x.fOpens.map aI),.sl 1 (x.fCloses.map aI),.sl 8 (x.fChecks.map idA),.sl 2 (x.fLimits.map z24),.sl 1 (x.fInside.map aI)]
structure z07 where
 fVars:Int
 fScopes:Int
 fStates:(List zeg)
 fEdges:(List z0t)
deriving Inhabited
def z0n (x:z07):AV:=.agg [aI (x.fVars),aI (x.fScopes),.sl 1 (x.fStates.map z0p),.sl 17 (x.fEdges.map z0w)]
abbrev z0g (x:z07):List AV:=[aI (x.fVars),aI (x.fScopes),.sl 1 (x.fStates.map z0p),.sl 17 (x.fEdges.map z0w)]
def z6q (n:Nat)(b:Bool):Option (Bool) :=
 some b
def z19 (n:Nat)(a0:Int)(a1:Int):Option (Bool) :=
 jon (z6q n) <|
 reg <| cnd (decide (a0<0))
  (z6q n true)
 <| z6q n (decide (a1<a0))
def z69 (n:Nat)(a1:(List z0v))(a0:z07)(c:Int)(b:Option (Int)):Nat->Int->Option (Int)
 |0,_=>none
 |e+1,d =>
  cnd (decide (d<c))
   (idx a1 d fun f =>
   idx a1 c fun g =>
   cnd (decide (f.fScope=g.fScope))
    (some 7)
   <| (z69 n a1 a0 c b e) (IntKind.wrap .i64 (d+1)))
  <| b
def z2y (n:Nat)(a1:(List z0v))(a0:z07)(b:Int)(c:Int->Option (Int))(e:Bool):Option (Int) :=
 cnd (e)
  (some 2)
 <| z69 n a1 a0 b
  (idx a1 b fun f =>
 bnd (z32 n f.fCond) fun d =>
 cnd (!decide (d=0))
  (some d)
 <| c (IntKind.wrap .i64 (b+1))) n 0
def z1o (n:Nat)(a1:(List z0v))(a0:z07)(b:Option (Int)):Nat->Int->Option (Int)
 |0,_=>none
 |d+1,c =>
  cnd (decide (c<((a1.map z0u).length:Int)))
   (jon (z2y n a1 a0 c (z1o n a1 a0 b d)) <|
   reg <| idx a1 c fun e =>
   bnd (z19 n e.fScope (IntKind.wrap .i64 (a0.fScopes-1))) fun f =>
   cnd (f)
    (z2y n a1 a0 c (z1o n a1 a0 b d) true)
   <| idx a1 c fun g =>
   bnd (z19 n g.fType 15) fun h =>
   cnd (h)
    (z2y n a1 a0 c (z1o n a1 a0 b d) true)
   <| idx a1 c fun j =>
   bnd (z19 n j.fVar (IntKind.wrap .i64 (a0.fVars-1))) fun k =>
   z2y n a1 a0 c (z1o n a1 a0 b d) k)
  <| b
def zau (n:Nat)(a0:z07)(a1:(List z0v)):Option (Int) :=
 cnd (decide (64<((a1.map z0u).length:Int)))
  (some 5)
 <| z1o n a1 a0
  (some 0) n 0
def z68 (n:Nat)(a1:Int)(a0:(List Int))(c:Int)(b:Option (Int)):Nat->Int->Option (Int)
 |0,_=>none
 |e+1,d =>
  cnd (decide (d<c))
   (idx a0 d fun f =>
   idx a0 c fun g =>
   cnd (decide (f=g))
    (some 7)
   <| (z68 n a1 a0 c b e) (IntKind.wrap .i64 (d+1)))
  <| b
def z3z (n:Nat)(a1:Int)(a0:(List Int))(c:Option (Int)):Nat->Int->Option (Int)
 |0,_=>none
 |d+1,b =>
  cnd (decide (b<((a0.map aI).length:Int)))
   (idx a0 b fun e =>
   bnd (z19 n e (IntKind.wrap .i64 (a1-1))) fun f =>
   cnd (f)
    (some 2)
   <| z68 n a1 a0 b
    ((z3z n a1 a0 c d) (IntKind.wrap .i64 (b+1))) n 0)
  <| c
def z8y (n:Nat)(a0:(List Int))(a1:Int):Option (Int) :=
 z3z n a1 a0
  (some 0) n 0
def z4o (n:Nat)(a1:z0t)(b:Option (Int)):Nat->Int->Option (Int)
 |0,_=>none
 |d+1,c =>
  cnd (decide (c<((a1.fLimits.map z24).length:Int)))
   (idx a1.fLimits c fun e =>
   bnd (z19 n e.fSpan 1099511627776) fun f =>
   cnd (f)
    (some 2)
   <| (z4o n a1 b d) (IntKind.wrap .i64 (c+1)))
  <| b
def z29 (n:Nat)(a1:z0t)(a0:z07)(b:(List Int))(c:Option (Int)):Nat->Int->Option (Int)
 |0,_=>none
 |f+1,d =>
  cnd (decide (d<4))
   (idx ([a1.fOpens,a1.fCloses,a1.fInside,b]:List (List Int)) d fun g =>
   bnd (z8y n g a0.fScopes) fun e =>
   cnd (!decide (e=0))
    (some e)
   <| (z29 n a1 a0 b c f) (IntKind.wrap .i64 (d+1)))
  <| c
def z7a (n:Nat)(a1:z0t)(a0:z07)(c:(List Int)->Option (Int)):Nat->Int×(List Int)->Option (Int)
 |0,_=>none
 |d+1,b =>
  cnd (decide (b.1<((a1.fLimits.map z24).length:Int)))
   (idx a1.fLimits b.1 fun e =>
   app b.2 [e.fScope] 8 fun f =>
   (z7a n a1 a0 c d) ((IntKind.wrap .i64 (b.1+1)),f))
  <| c b.2
def z9n (n:Nat)(a0:z07)(a1:z0t):Option (Int) :=
 z7a n a1 a0
  (fun b=>frz 7026 <| reg <| z29 n a1 a0 b
  (z4o n a1
  (some 0) n 0) n 0) n (0,[])
def z8b (n:Nat)(a1:z0t)(a0:z07)(b:Option (Int)):Nat->Int->Option (Int)
 |0,_=>none
 |d+1,c =>
  cnd (decide (c<((a1.fChecks.map idA).length:Int)))
   (idxD z1x a1.fChecks c fun f =>
   bnd (z32 n f) fun e =>
   cnd (!decide (e=0))
    (some e)
   <| (z8b n a1 a0 b d) (IntKind.wrap .i64 (c+1)))
  <| b
def z17 (n:Nat)(a2:Int)(a1:z0t)(a0:z07)(b:Bool):Option (Int) :=
 cnd (b)
  (some 2)
 <| cnd (decide (a1.fFrom<a2))
  (some 14)
 <| bnd (z32 n a1.fCond) fun x8 =>
 cnd (!decide (x8=0))
  (some x8)
 <| cnd (decide (64<((a1.fChecks.map idA).length:Int)))
  (some 5)
 <| z8b n a1 a0
  (bnd (z9n n a0 a1) fun c =>
 some c) n 0
def zby (n:Nat)(a0:z07)(a1:z0t)(a2:Int):Option (Int) :=
 jon (z17 n a2 a1 a0) <|
 reg <| bnd (z19 n a1.fFrom (IntKind.wrap .i64 (((a0.fStates.map z0p).length:Int)-1))) fun b =>
 cnd (b)
  (z17 n a2 a1 a0 true)
 <| cnd (!decide (a1.fTo=(-1)))
  (bnd (z19 n a1.fTo (IntKind.wrap .i64 (((a0.fStates.map z0p).length:Int)-1))) fun c =>
  cnd (c)
   (z17 n a2 a1 a0 true)
  <| bnd (z19 n a1.fVar (IntKind.wrap .i64 (a0.fVars-1))) fun d =>
  cnd (d)
   (z17 n a2 a1 a0 true)
  <| bnd (z19 n a1.fType 15) fun e =>
  z17 n a2 a1 a0 e)
 <| bnd (z19 n a1.fVar (IntKind.wrap .i64 (a0.fVars-1))) fun f =>
 cnd (f)
  (z17 n a2 a1 a0 true)
 <| bnd (z19 n a1.fType 15) fun g =>
 z17 n a2 a1 a0 g
def z7b (n:Nat)(a0:z07)(c:Option (Int)):Nat->Int×Int->Option (Int)
 |0,_=>none
 |d+1,b =>
  cnd (decide (b.2<((a0.fEdges.map z0w).length:Int)))
   (idx a0.fEdges b.2 fun f =>
   bnd (zby n a0 f b.1) fun e =>
   cnd (!decide (e=0))
    (some e)
   <| idx a0.fEdges b.2 fun g =>
   (z7b n a0 c d) (g.fFrom,(IntKind.wrap .i64 (b.2+1))))
  <| c
def z7c (n:Nat)(a0:z07)(b:Option (Int)):Nat->Int->Option (Int)
 |0,_=>none
 |d+1,c =>
  cnd (decide (c<((a0.fStates.map z0p).length:Int)))
   (idx a0.fStates c fun f =>
   bnd (zau n a0 f.fGuards) fun e =>
   cnd (!decide (e=0))
    (some e)
   <| (z7c n a0 b d) (IntKind.wrap .i64 (c+1)))
  <| b
def z1t (n:Nat)(a0:z07)(b:Bool):Option (Int) :=
 cnd (b)
  (some 5)
 <| z7c n a0
  (z7b n a0
  (some 0) n (0,0)) n 0
def z2a (n:Nat)(a0:z07)(b:Bool):Option (Int) :=
 cnd (b)
  (some 2)
 <| jon (z1t n a0) <|
 reg <| cnd (decide (((a0.fStates.map z0p).length:Int)<1))
  (z1t n a0 true)
 <| cnd (decide (256<((a0.fStates.map z0p).length:Int)))
  (z1t n a0 true)
 <| z1t n a0 (decide (2048<((a0.fEdges.map z0w).length:Int)))
def z54 (n:Nat)(a0:z07):Option (Int) :=
 jon (z2a n a0) <|
 reg <| bnd (z19 n a0.fVars 16) fun b =>
 cnd (b)
  (z2a n a0 true)
 <| bnd (z19 n a0.fScopes 64) fun c =>
 z2a n a0 c
def zfp (n:Nat)(b:z0r->Option (Int×Int))(a0:z0r)(d:Int->Int->Option (Int×Int)):Nat->Int×Int×Int->Option (Int×Int)
 |0,_=>none
 |e+1,c =>
  cnd (decide (c.2.2<((a0.fArgs.map idA).length:Int)))
   (idxD z1x a0.fArgs c.2.2 fun g =>
   bnd (b g) fun f =>
   (zfp n b a0 d e) ((IntKind.wrap .i64 (c.1+f.1)),(max c.2.1 f.2),(IntKind.wrap .i64 (c.2.2+1))))
  <| d c.1 c.2.1
def zfh:Nat->z0r->Option (Int×Int)
 |0,_=>none
 |n+1,a0 =>
 zfp n (zfh n) a0
  (fun b c=>some (b,(IntKind.wrap .i64 (c+1)))) n (1,0,0)
def zdh (n:Nat)(a0:Int)(b:Bool):Option (Int×Bool) :=
 cnd (b)
  (some (0,false))
 <| cnd (decide (a0<5))
  (some (0,true))
 <| cnd (decide (a0=12))
  (some (1,true))
 <| some (2,true)
def zia (n:Nat)(a0:Int):Option (Int×Bool) :=
 jon (zdh n a0) <|
 reg <| cnd (decide (a0<0))
  (zdh n a0 true)
 <| zdh n a0 (decide (12<a0))
def zek (n:Nat)(b:Bool):Option (Bool×Bool) :=
 cnd (b)
  (some (true,false))
 <| some (false,false)
def zel (n:Nat)(a0:Int)(b:Bool):Option (Bool×Bool) :=
 cnd (b)
  (some (true,true))
 <| jon (zek n) <|
 reg <| cnd (decide (a0=2))
  (zek n (decide (a0=2)))
 <| zek n (decide (a0=3))
def zhv (n:Nat)(a0:Int):Option (Bool×Bool) :=
 jon (zel n a0) <|
 reg <| cnd (decide (a0=1))
  (zel n a0 (decide (a0=1)))
 <| zel n a0 (decide (a0=4))
def zg6 (n:Nat)(a0:z05):Option (Int) :=
 cnd (decide (a0.fKind=0))
  (cnd (decide (a0.fNum<(-1099511627776)))
    (some 2)
  <| cnd (decide (1099511627776<a0.fNum))
   (some 2)
  <| cnd (decide (a0.fKind=1))
   (cnd (!decide (a0.fNum=0))
     (cnd (!decide (a0.fNum=1))
       (some 2)
     <| cnd (decide (64<((a0.fText.size:Nat):Int)))
      (some 13)
     <| some 0)
   <| cnd (decide (64<((a0.fText.size:Nat):Int)))
    (some 13)
   <| some 0)
  <| cnd (decide (64<((a0.fText.size:Nat):Int)))
   (some 13)
  <| some 0)
 <| cnd (decide (a0.fKind=1))
  (cnd (!decide (a0.fNum=0))
    (cnd (!decide (a0.fNum=1))
      (some 2)
    <| cnd (decide (64<((a0.fText.size:Nat):Int)))
     (some 13)
    <| some 0)
  <| cnd (decide (64<((a0.fText.size:Nat):Int)))
   (some 13)
  <| some 0)
 <| cnd (decide (64<((a0.fText.size:Nat):Int)))
  (some 13)
 <| some 0
def zca (n:Nat)(a0:z05):Option (Int) :=
 cnd (decide (a0.fKind=0))
  (cnd (decide (a0.fKind=0))
    (cnd (!(a0.fText.toList == ByteArray.empty.toList))
      (some 3)
    <| bnd (zg6 n a0) fun x1 =>
    some x1)
  <| cnd (decide (a0.fKind=2))
   (cnd (!decide (a0.fNum=0))
     (some 3)
   <| bnd (zg6 n a0) fun x2 =>
   some x2)
  <| some 1)
 <| cnd (decide (a0.fKind=1))
  (cnd (!(a0.fText.toList == ByteArray.empty.toList))
    (some 3)
  <| bnd (zg6 n a0) fun x3 =>
  some x3)
 <| cnd (decide (a0.fKind=2))
  (cnd (!decide (a0.fNum=0))
    (some 3)
  <| bnd (zg6 n a0) fun x4 =>
  some x4)
 <| some 1
def zbn (n:Nat)(b:Bool):Option (Bool) :=
 some b
def zi9 (n:Nat)(a0:Int)(a1:z05):Option (Bool) :=
 jon (zbn n) <|
 reg <| cnd (decide (a1.fKind=0))
  (zbn n true)
 <| cnd (decide (a0=4))
  (zbn n true)
 <| zbn n (decide (a0=5))
def z64 (n:Nat)(b:Bool):Option (Int) :=
 cnd (b)
  (some 9)
 <| some 0
def zfj (n:Nat)(a0:z0r):Option (Int) :=
 bnd (zca n a0.fValue) fun x1 =>
 cnd (!decide (x1=0))
  (some x1)
 <| jon (z64 n) <|
 reg <| cnd (decide (a0.fOp=4))
  (bnd (zi9 n a0.fKind a0.fValue) fun x4 =>
  cnd (!(x4))
   (z64 n true)
  <| cnd (decide (a0.fKind=1))
   (z64 n (!(decide (a0.fValue.fKind=0) && (decide (a0.fValue.fNum=0) && ((a0.fValue.fText.toList == ByteArray.empty.toList) && true)))))
  <| z64 n false)
 <| z64 n false
def z12 (n:Nat)(b:Bool):Option (Int) :=
 cnd (b)
  (some 3)
 <| some 0
def zem (n:Nat)(a0:z0r)(x2:Bool×Bool)(b:Bool)(_:Unit):Option (Int) :=
 jon (z12 n) <|
 reg <| cnd (!(x2.1))
  (cnd (!decide (a0.fVar=0))
    (z12 n true)
  <| cnd (!(x2.2))
   (cnd (!decide (a0.fField=0))
     (z12 n true)
   <| cnd (!(decide (a0.fOp=4)))
    (cnd (!decide (a0.fKind=0))
      (z12 n true)
    <| cnd (!(b))
     (z12 n (!(decide (a0.fValue.fKind=0) && (decide (a0.fValue.fNum=0) && ((a0.fValue.fText.toList == ByteArray.empty.toList) && true)))))
    <| z12 n false)
   <| cnd (!(b))
    (z12 n (!(decide (a0.fValue.fKind=0) && (decide (a0.fValue.fNum=0) && ((a0.fValue.fText.toList == ByteArray.empty.toList) && true)))))
   <| z12 n false)
  <| cnd (!(decide (a0.fOp=4)))
   (cnd (!decide (a0.fKind=0))
     (z12 n true)
   <| cnd (!(b))
    (z12 n (!(decide (a0.fValue.fKind=0) && (decide (a0.fValue.fNum=0) && ((a0.fValue.fText.toList == ByteArray.empty.toList) && true)))))
   <| z12 n false)
  <| cnd (!(b))
   (z12 n (!(decide (a0.fValue.fKind=0) && (decide (a0.fValue.fNum=0) && ((a0.fValue.fText.toList == ByteArray.empty.toList) && true)))))
  <| z12 n false)
 <| cnd (!(x2.2))
  (cnd (!decide (a0.fField=0))
    (z12 n true)
  <| cnd (!(decide (a0.fOp=4)))
   (cnd (!decide (a0.fKind=0))
     (z12 n true)
   <| cnd (!(b))
    (z12 n (!(decide (a0.fValue.fKind=0) && (decide (a0.fValue.fNum=0) && ((a0.fValue.fText.toList == ByteArray.empty.toList) && true)))))
   <| z12 n false)
  <| cnd (!(b))
   (z12 n (!(decide (a0.fValue.fKind=0) && (decide (a0.fValue.fNum=0) && ((a0.fValue.fText.toList == ByteArray.empty.toList) && true)))))
  <| z12 n false)
 <| cnd (!(decide (a0.fOp=4)))
  (cnd (!decide (a0.fKind=0))
    (z12 n true)
  <| cnd (!(b))
   (z12 n (!(decide (a0.fValue.fKind=0) && (decide (a0.fValue.fNum=0) && ((a0.fValue.fText.toList == ByteArray.empty.toList) && true)))))
  <| z12 n false)
 <| cnd (!(b))
  (z12 n (!(decide (a0.fValue.fKind=0) && (decide (a0.fValue.fNum=0) && ((a0.fValue.fText.toList == ByteArray.empty.toList) && true)))))
 <| z12 n false
def zen (n:Nat)(a0:z0r)(x2:Bool×Bool)(b:Bool):Option (Int) :=
 jon (zem n a0 x2 b) <|
 reg <| cnd (b)
  (bnd (zfj n a0) fun x8 =>
  cnd (!decide (x8=0))
   (some x8)
  <| zem n a0 x2 b ())
 <| zem n a0 x2 b ()
def zcg (n:Nat)(a0:z0r)(x2:Bool×Bool)(b:Bool):Option (Int) :=
 cnd (b)
  (some 1)
 <| jon (zen n a0 x2) <|
 reg <| cnd (decide (a0.fOp=4))
  (zen n a0 x2 true)
 <| zen n a0 x2 (decide (a0.fOp=0))
def z6h (n:Nat)(a0:z0r)(x2:Bool×Bool)(b:Bool):Option (Int) :=
 cnd (b)
  (some 2)
 <| jon (zcg n a0 x2) <|
 reg <| cnd (decide (a0.fOp=4))
  (cnd (decide (a0.fKind<1))
    (zcg n a0 x2 true)
  <| zcg n a0 x2 (decide (5<a0.fKind)))
 <| zcg n a0 x2 false
def zjl (n:Nat)(a0:z0r):Option (Int) :=
 bnd (zia n a0.fOp) fun x1 =>
 cnd (!(x1.2))
  (some 1)
 <| cnd (!decide (((a0.fArgs.map idA).length:Int)=x1.1))
  (some 15)
 <| bnd (zhv n a0.fOp) fun x2 =>
 jon (z6h n a0 x2) <|
 reg <| cnd (x2.1)
  (cnd (decide (a0.fVar<0))
    (z6h n a0 x2 true)
  <| cnd (decide (16<=a0.fVar))
   (z6h n a0 x2 true)
  <| cnd (x2.2)
   (cnd (decide (a0.fField<0))
     (z6h n a0 x2 true)
   <| z6h n a0 x2 (decide (8<=a0.fField)))
  <| z6h n a0 x2 false)
 <| cnd (x2.2)
  (cnd (decide (a0.fField<0))
    (z6h n a0 x2 true)
  <| z6h n a0 x2 (decide (8<=a0.fField)))
 <| z6h n a0 x2 false
def zf6 (n:Nat)(b:z0r->Option (Int))(a0:z0r)(c:Option (Int)):Nat->Int->Option (Int)
 |0,_=>none
 |e+1,d =>
  cnd (decide (d<((a0.fArgs.map idA).length:Int)))
   (idxD z1x a0.fArgs d fun g =>
   bnd (b g) fun f =>
   cnd (!decide (f=0))
    (some f)
   <| (zf6 n b a0 c e) (IntKind.wrap .i64 (d+1)))
  <| c
def ze2:Nat->z0r->Option (Int)
 |0,_=>none
 |n+1,a0 =>
 bnd (zjl n a0) fun x1 =>
 cnd (!decide (x1=0))
  (some x1)
 <| zf6 n (ze2 n) a0
  (some 0) n 0
def ze4 (n:Nat)(a0:z0r):Option (Int) :=
 bnd (zfh n a0) fun x1 =>
 cnd (decide (64<x1.1))
  (some 5)
 <| cnd (decide (12<x1.2))
  (some 12)
 <| bnd (ze2 n a0) fun x2 =>
 some x2
def z83 (n:Nat)(b:Bool):Option (Bool) :=
 some b
def z3t (n:Nat)(a0:Int)(a1:Int):Option (Bool) :=
 jon (z83 n) <|
 reg <| cnd (decide (0<=a0))
  (z83 n (decide (a0<a1)))
 <| z83 n false
def zaj (n:Nat)(a0:z0v)(a1:z0v):Option (Bool) :=
 some (decide (a0.fScope=a1.fScope))
def z9u (n:Nat)(d:z0v)(a0:(List z0v))(c:Option (Int)):Nat->Int->Option (Int)
 |0,_=>none
 |e+1,b =>
  cnd (decide (b<((a0.map z0u).length:Int)))
   (idx a0 b fun f =>
   bnd (zaj n f d) fun g =>
   cnd (g)
    (some b)
   <| (z9u n d a0 c e) (IntKind.wrap .i64 (b+1)))
  <| c
def zdw (n:Nat)(a0:(List z0v))(b:z0v):Option (Int) :=
 z9u n b a0
  (some (-1)) n 0
def z9w (n:Nat)(a0:(List z0v))(b:z0v):Option (Bool) :=
 bnd (zdw n a0 b) fun x1 =>
 some (decide (0<=x1))
def z59 (n:Nat)(a1:(List z0v))(a0:z07)(b:Int)(c:Int->Option (Int))(d:z0v)(f:Bool):Option (Int) :=
 cnd (f)
  (some 2)
 <| sls a1 0 b fun g =>
 bnd (z9w n g d) fun h =>
 cnd (h)
  (some 7)
 <| bnd (ze4 n d.fCond) fun e =>
 cnd (!decide (e=0))
  (some e)
 <| c (IntKind.wrap .i64 (b+1))
def z33 (n:Nat)(a1:(List z0v))(a0:z07)(b:Option (Int)):Nat->Int->Option (Int)
 |0,_=>none
 |d+1,c =>
  cnd (decide (c<((a1.map z0u).length:Int)))
   (idx a1 c fun e =>
   jon (z59 n a1 a0 c (z33 n a1 a0 b d) e) <|
   reg <| bnd (z3t n e.fScope a0.fScopes) fun f =>
   cnd (!(f))
    (z59 n a1 a0 c (z33 n a1 a0 b d) e true)
   <| bnd (z3t n e.fType 16) fun g =>
   cnd (!(g))
    (z59 n a1 a0 c (z33 n a1 a0 b d) e true)
   <| bnd (z3t n e.fVar a0.fVars) fun h =>
   z59 n a1 a0 c (z33 n a1 a0 b d) e !(h))
  <| b
def ze6 (n:Nat)(a0:z07)(a1:(List z0v)):Option (Int) :=
 cnd (decide (64<((a1.map z0u).length:Int)))
  (some 5)
 <| z33 n a1 a0
  (some 0) n 0
def z96 (n:Nat)(a0:(List z1h))(c:(List Int)->Option ((List Int))):Nat->Int×(List Int)->Option ((List Int))
 |0,_=>none
 |d+1,b =>
  cnd (decide (b.1<((a0.map z24).length:Int)))
   (idx a0 b.1 fun e =>
   app b.2 [e.fScope] 8 fun f =>
   (z96 n a0 c d) ((IntKind.wrap .i64 (b.1+1)),f))
  <| c b.2
def zb8 (n:Nat)(a0:(List z1h)):Option ((List Int)) :=
 z96 n a0
  (fun b=>some b) n (0,[])
def zck (n:Nat)(a1:Int)(a0:(List Int))(c:Option (Int)):Nat->Int->Option (Int)
 |0,_=>none
 |d+1,b =>
  cnd (decide (b<((a0.map aI).length:Int)))
   (idx a0 b fun e =>
   cnd (decide (a1=e))
    (some b)
   <| (zck n a1 a0 c d) (IntKind.wrap .i64 (b+1)))
  <| c
def zhx (n:Nat)(a0:(List Int))(a1:Int):Option (Int) :=
 zck n a1 a0
  (some (-1)) n 0
def z8e (n:Nat)(a0:(List Int))(a1:Int):Option (Bool) :=
 bnd (zhx n a0 a1) fun x1 =>
 some (decide (0<=x1))
def z3u (n:Nat)(a1:(List (List Int)))(a0:z07)(g:Int)(d:(List Int))(c:Option (Int)):Nat->Int->Option (Int)
 |0,_=>none
 |e+1,b =>
  cnd (decide (b<((d.map aI).length:Int)))
   (idx d b fun f =>
   bnd (z3t n f a0.fScopes) fun h =>
   cnd (!(h))
    (some 2)
   <| sls d 0 b fun j =>
   bnd (z8e n j f) fun k =>
   cnd (k)
    (some 7)
   <| (z3u n a1 a0 g d c e) (IntKind.wrap .i64 (b+1)))
  <| c
def z58 (n:Nat)(a1:(List (List Int)))(a0:z07)(c:Option (Int)):Nat->Int->Option (Int)
 |0,_=>none
 |d+1,b =>
  cnd (decide (b<(((List.map (fun q=>AV.sl 1 (List.map aI q)) (a1)).length:Nat):Int)))
   (idx a1 b fun e =>
   z3u n a1 a0 b e
    ((z58 n a1 a0 c d) (IntKind.wrap .i64 (b+1))) n 0)
  <| c
def ze5 (n:Nat)(a0:z07)(a1:(List (List Int))):Option (Int) :=
 z58 n a1 a0
  (some 0) n 0
def z84 (n:Nat)(b:Bool):Option (Bool) :=
 some b
def zac (n:Nat)(a0:z1h):Option (Bool) :=
 jon (z84 n) <|
 reg <| cnd (decide (a0.fSpan<0))
  (z84 n true)
 <| z84 n (decide (1099511627776<a0.fSpan))
def z6c (n:Nat)(a0:(List z1h))(c:Option (Int)):Nat->Int->Option (Int)
 |0,_=>none
 |d+1,b =>
  cnd (decide (b<((a0.map z24).length:Int)))
   (idx a0 b fun e =>
   bnd (zac n e) fun f =>
   cnd (f)
    (some b)
   <| (z6c n a0 c d) (IntKind.wrap .i64 (b+1)))
  <| c
def zay (n:Nat)(a0:(List z1h)):Option (Int) :=
 z6c n a0
  (some (-1)) n 0
def z6d (n:Nat)(a0:(List z1h)):Option (Bool) :=
 bnd (zay n a0) fun x1 =>
 some (decide (0<=x1))
def zb9 (n:Nat)(a1:z0t)(a0:z07)(b:Option (Int)):Nat->Int->Option (Int)
 |0,_=>none
 |d+1,c =>
  cnd (decide (c<((a1.fChecks.map idA).length:Int)))
   (idxD z1x a1.fChecks c fun f =>
   bnd (ze4 n f) fun e =>
   cnd (!decide (e=0))
    (some e)
   <| (zb9 n a1 a0 b d) (IntKind.wrap .i64 (c+1)))
  <| b
def z1z (n:Nat)(a2:Int)(a1:z0t)(a0:z07)(c:Bool):Option (Int) :=
 cnd (c)
  (some 2)
 <| cnd (decide (a1.fFrom<a2))
  (some 14)
 <| bnd (ze4 n a1.fCond) fun x5 =>
 cnd (!decide (x5=0))
  (some x5)
 <| cnd (decide (64<((a1.fChecks.map idA).length:Int)))
  (some 5)
 <| zb9 n a1 a0
  (bnd (zb8 n a1.fLimits) fun d =>
 bnd (ze5 n a0 ([a1.fOpens,a1.fCloses,a1.fInside,d])) fun b =>
 cnd (!decide (b=0))
  (some b)
 <| bnd (z6d n a1.fLimits) fun e =>
 cnd (e)
  (some 2)
 <| some 0) n 0
def zfk (n:Nat)(a0:z07)(a1:z0t)(a2:Int):Option (Int) :=
 jon (z1z n a2 a1 a0) <|
 reg <| bnd (z3t n a1.fFrom ((a0.fStates.map z0p).length:Int)) fun b =>
 cnd (!(b))
  (z1z n a2 a1 a0 true)
 <| cnd (decide (a1.fTo<(-1)))
  (z1z n a2 a1 a0 true)
 <| cnd (decide (((a0.fStates.map z0p).length:Int)<=a1.fTo))
  (z1z n a2 a1 a0 true)
 <| bnd (z3t n a1.fVar a0.fVars) fun c =>
 cnd (!(c))
  (z1z n a2 a1 a0 true)
 <| bnd (z3t n a1.fType 16) fun d =>
 z1z n a2 a1 a0 !(d)
def zak (n:Nat)(a0:z07)(c:Option (Int)):Nat->Int×Int->Option (Int)
 |0,_=>none
 |d+1,b =>
  cnd (decide (b.2<((a0.fEdges.map z0w).length:Int)))
   (idx a0.fEdges b.2 fun e =>
   bnd (zfk n a0 e b.1) fun f =>
   cnd (!decide (f=0))
    (some f)
   <| (zak n a0 c d) (e.fFrom,(IntKind.wrap .i64 (b.2+1))))
  <| c
def zal (n:Nat)(a0:z07)(b:Option (Int)):Nat->Int->Option (Int)
 |0,_=>none
 |d+1,c =>
  cnd (decide (c<((a0.fStates.map z0p).length:Int)))
   (idx a0.fStates c fun f =>
   bnd (ze6 n a0 f.fGuards) fun e =>
   cnd (!decide (e=0))
    (some e)
   <| (zal n a0 b d) (IntKind.wrap .i64 (c+1)))
  <| b
def z3e (n:Nat)(a0:z07)(b:Bool):Option (Int) :=
 cnd (b)
  (some 5)
 <| zal n a0
  (zak n a0
  (some 0) n (0,0)) n 0
def z2p (n:Nat)(a0:z07)(b:Bool):Option (Int) :=
 cnd (b)
  (some 2)
 <| jon (z3e n a0) <|
 reg <| cnd (decide (((a0.fStates.map z0p).length:Int)<1))
  (z3e n a0 true)
 <| cnd (decide (256<((a0.fStates.map z0p).length:Int)))
  (z3e n a0 true)
 <| z3e n a0 (decide (2048<((a0.fEdges.map z0w).length:Int)))
def zba (n:Nat)(a0:z07):Option (Int) :=
 jon (z2p n a0) <|
 reg <| cnd (decide (a0.fVars<0))
  (z2p n a0 true)
 <| cnd (decide (16<a0.fVars))
  (z2p n a0 true)
 <| cnd (decide (a0.fScopes<0))
  (z2p n a0 true)
 <| z2p n a0 (decide (64<a0.fScopes))
def z3p (n:Nat)(b:Bool):Option (Bool) :=
 some b
def zae (n:Nat)(a0:Int):Option (Bool) :=
 jon (z3p n) <|
 reg <| cnd (decide (0<=a0))
  (z3p n (decide (a0<=5)))
 <| z3p n false
structure z0o where
 fKind:Int
 fCount:Int
 fValue:z05
deriving DecidableEq,Inhabited
def z34 (x:z0o):AV:=.agg [aI (x.fKind),aI (x.fCount),aI (x.fValue.fKind),aI (x.fValue.fNum),.str (x.fValue.fText)]
abbrev zex (x:z0o):List AV:=[aI (x.fKind),aI (x.fCount),aI (x.fValue.fKind),aI (x.fValue.fNum),.str (x.fValue.fText)]
def z2c (n:Nat)(b:Bool):Option (Int) :=
 cnd (b)
  (some 3)
 <| some 0
def z4t (n:Nat)(b:Bool):Option (Int) :=
 cnd (b)
  (some 3)
 <| some 0
def z4u (n:Nat)(a0:z0o)(b:Bool):Option (Int) :=
 cnd (b)
  (cnd (!(decide (a0.fValue.fKind=0) && (decide (a0.fValue.fNum=0) && ((a0.fValue.fText.toList == ByteArray.empty.toList) && true))))
    (some 3)
  <| some 0)
 <| cnd (decide (a0.fKind=1))
  (jon (z2c n) <|
  reg <| cnd (!decide (a0.fValue.fKind=0))
   (z2c n true)
  <| cnd (!(a0.fValue.fText.toList == ByteArray.empty.toList))
   (z2c n true)
  <| cnd (decide (a0.fValue.fNum<(IntKind.wrap .i64 (0-(IntKind.wrap .i64 (a0.fCount*1099511627776))))))
   (z2c n true)
  <| z2c n (decide ((IntKind.wrap .i64 (a0.fCount*1099511627776))<a0.fValue.fNum)))
 <| jon (z4t n) <|
 reg <| bnd (z3q n a0.fValue) fun x8 =>
 cnd (!decide (x8=0))
  (z4t n true)
 <| bnd (z7x n a0.fKind a0.fValue) fun x9 =>
 z4t n !(x9)
def z4v (n:Nat)(a0:z0o)(b:Bool):Option (Int) :=
 cnd (b)
  (some 2)
 <| jon (z4u n a0) <|
 reg <| cnd (decide (a0.fCount=0))
  (z4u n a0 true)
 <| z4u n a0 (decide (a0.fKind=0))
def z9r (n:Nat)(a0:z0o):Option (Int) :=
 bnd (zae n a0.fKind) fun x1 =>
 cnd (!(x1))
  (some 1)
 <| jon (z4v n a0) <|
 reg <| cnd (decide (a0.fCount<0))
  (z4v n a0 true)
 <| z4v n a0 (decide (4096<a0.fCount))
def z9p (n:Nat)(a0:Int)(a1:z05):Option (Int) :=
 bnd (z3q n a1) fun x1 =>
 cnd (!decide (x1=0))
  (some x1)
 <| bnd (z7x n a0 a1) fun x2 =>
 cnd (!(x2))
  (some 9)
 <| some 0
def za6 (n:Nat)(a0:Int)(a1:z05)(a2:z05):Option (z05) :=
 cnd (decide (a0=1))
  (some (⟨0,(IntKind.wrap .i64 (a1.fNum+a2.fNum)),ByteArray.empty⟩))
 <| cnd (decide (a0=2))
  (some (⟨0,(min a1.fNum a2.fNum),ByteArray.empty⟩))
 <| cnd (decide (a0=3))
  (some (⟨0,(max a1.fNum a2.fNum),ByteArray.empty⟩))
 <| cnd (decide (a0=4))
  (some a1)
 <| cnd (decide (a0=5))
  (some a2)
 <| some (⟨0,0,ByteArray.empty⟩)
def z4g (n:Nat)(a0:z0o)(b:Int×Int×ByteArray):Option (z0o×Int) :=
 some (⟨a0.fKind,(IntKind.wrap .i64 (a0.fCount+1)),⟨b.1,b.2.1,b.2.2⟩⟩,0)
def zd2 (n:Nat)(a0:z0o)(a1:z05):Option (z0o×Int) :=
 bnd (z9r n a0) fun x1 =>
 cnd (!decide (x1=0))
  (some (⟨0,0,⟨0,0,ByteArray.empty⟩⟩,x1))
 <| bnd (z9p n a0.fKind a1) fun x2 =>
 cnd (!decide (x2=0))
  (some (⟨0,0,⟨0,0,ByteArray.empty⟩⟩,x2))
 <| cnd (decide (a0.fCount=4096))
  (some (⟨0,0,⟨0,0,ByteArray.empty⟩⟩,5))
 <| jon (z4g n a0) <|
 reg <| cnd (decide (a0.fKind=0))
  (z4g n a0 (0,0,ByteArray.empty))
 <| reg <| cnd (decide (0<a0.fCount))
  (bnd (za6 n a0.fKind a0.fValue a1) fun x7 =>
  z4g n a0 (x7.fKind,x7.fNum,x7.fText))
 <| z4g n a0 (a1.fKind,a1.fNum,a1.fText)
def z41 (n:Nat)(a1:z05)(a0:z0o)(b:Bool):Option (z05×Int) :=
 cnd (b)
  (some (a1,0))
 <| some (a0.fValue,0)
def z91 (n:Nat)(a0:z0o)(a1:z05):Option (z05×Int) :=
 bnd (z9r n a0) fun x1 =>
 cnd (!decide (x1=0))
  (some (⟨0,0,ByteArray.empty⟩,x1))
 <| bnd (z9p n a0.fKind a1) fun x2 =>
 cnd (!decide (x2=0))
  (some (⟨0,0,ByteArray.empty⟩,x2))
 <| cnd (decide (a0.fKind=0))
  (some (⟨0,a0.fCount,ByteArray.empty⟩,0))
 <| jon (z41 n a1 a0) <|
 reg <| cnd (decide (a0.fCount=0))
  (z41 n a1 a0 (!decide (a0.fKind=1)))
 <| z41 n a1 a0 false
def z9q (n:Nat)(a2:z05)(a1:(List z05))(d:Int->Int->Int->Int->ByteArray->Option (z05×Int)):Nat->Int×Int×Int×Int×Int×ByteArray->Option (z05×Int)
 |0,_=>none
 |e+1,b =>
  cnd (decide (b.1<((a1.map z08).length:Int)))
   (idx a1 b.1 fun f =>
   bnd (zd2 n (⟨b.2.1,b.2.2.1,⟨b.2.2.2.1,b.2.2.2.2.1,b.2.2.2.2.2⟩⟩:z0o) f) fun c =>
   cnd (!decide (c.2=0))
    (some (⟨0,0,ByteArray.empty⟩,c.2))
   <| (z9q n a2 a1 d e) ((IntKind.wrap .i64 (b.1+1)),c.1.fKind,c.1.fCount,c.1.fValue.fKind,c.1.fValue.fNum,c.1.fValue.fText))
  <| d b.2.1 b.2.2.1 b.2.2.2.1 b.2.2.2.2.1 b.2.2.2.2.2
def zbq (n:Nat)(a0:Int)(a1:(List z05))(a2:z05):Option (z05×Int) :=
 bnd (zae n a0) fun x1 =>
 cnd (!(x1))
  (some (⟨0,0,ByteArray.empty⟩,1))
 <| cnd (decide (4096<((a1.map z08).length:Int)))
  (some (⟨0,0,ByteArray.empty⟩,5))
 <| z9q n a2 a1
  (fun b c d e f=>bnd (z91 n (⟨b,c,⟨d,e,f⟩⟩:z0o) a2) fun g =>
 some (g.1,g.2)) n (0,a0,0,0,0,ByteArray.empty)
structure z03 where
 fSource:Int
 fSeq:Int
 fType:Int
 fTime:Int
 fValues:(List z05)
deriving DecidableEq,Inhabited
def z02 (x:z03):AV:=.agg [aI (x.fSource),aI (x.fSeq),aI (x.fType),aI (x.fTime),.sl 3 (x.fValues.map z08)]
abbrev z16 (x:z03):List AV:=[aI (x.fSource),aI (x.fSeq),aI (x.fType),aI (x.fTime),.sl 3 (x.fValues.map z08)]
structure z0i where
 fVars:(List (List z03))
deriving DecidableEq,Inhabited
def zct (x:z0i):AV:=.agg [.sl 1 (List.map (fun q=>AV.sl 5 (List.map z02 q)) (x.fVars))]
abbrev zcv (x:z0i):List AV:=[.sl 1 (List.map (fun q=>AV.sl 5 (List.map z02 q)) (x.fVars))]
def z40 (n:Nat)(a1:Int)(a0:z0i)(b:Bool):Option ((List z03)) :=
 cnd (b)
  (some [])
 <| idx a0.fVars a1 fun x2 =>
 some x2
def z6v (n:Nat)(a0:z0i)(a1:Int):Option ((List z03)) :=
 jon (z40 n a1 a0) <|
 reg <| cnd (decide (a1<0))
  (z40 n a1 a0 true)
 <| z40 n a1 a0 (decide ((((List.map (fun q=>AV.sl 5 (List.map z02 q)) (a0.fVars)).length:Nat):Int)<=a1))
def zeq (n:Nat)(a0:z0i)(a1:Int)(a2:Int)(a3:z03):Option (z03×Bool) :=
 cnd (decide (a1=a2))
  (some (a3,true))
 <| bnd (z6v n (⟨a0.fVars⟩:z0i) a1) fun x1 =>
 cnd (decide (((x1.map z02).length:Int)=0))
  (some (⟨0,0,0,0,[]⟩,false))
 <| idx x1 (IntKind.wrap .i64 (((x1.map z02).length:Int)-1)) fun x2 =>
 some (x2,true)
def z8c (n:Nat)(a0:z0r)(x2:(List z03))(c:(List z05)->Option (z05×Int)):Nat->Int×(List z05)->Option (z05×Int)
 |0,_=>none
 |d+1,b =>
  cnd (decide (b.1<((x2.map z02).length:Int)))
   (idx x2 b.1 fun e =>
   cnd (decide (((e.fValues.map z08).length:Int)<=a0.fField))
    (some (⟨0,0,ByteArray.empty⟩,6))
   <| idx x2 b.1 fun f =>
   idx f.fValues a0.fField fun g =>
   app b.2 [g] 32 fun h =>
   (z8c n a0 x2 c d) ((IntKind.wrap .i64 (b.1+1)),h))
  <| c b.2
def zad (n:Nat)(a0:z0r)(a1:z0i)(a2:Int)(a3:z03):Option (z05×Int) :=
 cnd (decide (a0.fOp=0))
  (some (a0.fValue,0))
 <| cnd (decide (a0.fOp=3))
  (bnd (z6v n (⟨a1.fVars⟩:z0i) a0.fVar) fun x1 =>
  some (⟨0,((x1.map z02).length:Int),ByteArray.empty⟩,0))
 <| cnd (decide (a0.fOp=4))
  (bnd (z6v n (⟨a1.fVars⟩:z0i) a0.fVar) fun x2 =>
  z8c n a0 x2
   (fun c=>bnd (zbq n a0.fKind c a0.fValue) fun d =>
  some (d.1,d.2)) n (0,[]))
 <| bnd (zeq n (⟨a1.fVars⟩:z0i) a0.fVar a2 a3) fun b =>
 cnd (!(b.2))
  (some (⟨0,0,ByteArray.empty⟩,10))
 <| cnd (decide (a0.fOp=2))
  (some (⟨0,b.1.fTime,ByteArray.empty⟩,0))
 <| cnd (decide (((b.1.fValues.map z08).length:Int)<=a0.fField))
  (some (⟨0,0,ByteArray.empty⟩,6))
 <| idx b.1.fValues a0.fField fun f =>
 bnd (z3q n f) fun e =>
 cnd (!decide (e=0))
  (some (⟨0,0,ByteArray.empty⟩,e))
 <| idx b.1.fValues a0.fField fun g =>
 some (g,0)
def z27 (n:Nat)(b:Bool):Option (Int) :=
 cnd (b)
  (some 1)
 <| some (-1)
def z1r (n:Nat)(a0:Int)(b:Bool):Option (Int) :=
 cnd (b)
  (some 0)
 <| jon (z27 n) <|
 reg <| cnd (decide (a0=10))
  (z27 n (decide (a0=10)))
 <| reg <| cnd (decide (a0=11))
  (z27 n (decide (a0=11)))
 <| z27 n (decide (a0=12))
def z9o (n:Nat)(a0:Int):Option (Int) :=
 jon (z1r n a0) <|
 reg <| cnd (decide (a0=5))
  (z1r n a0 (decide (a0=5)))
 <| reg <| cnd (decide (a0=6))
  (z1r n a0 (decide (a0=6)))
 <| reg <| cnd (decide (a0=7))
  (z1r n a0 (decide (a0=7)))
 <| z1r n a0 (decide (a0=8))
def z1i (n:Nat)(a1:(List Int))(a0:Int)(c:Int)(b:Int->Option (Int))(d:Bool):Option (Int) :=
 cnd (d)
  (some 9)
 <| b (IntKind.wrap .i64 (c+1))
def z1a (n:Nat)(a1:(List Int))(a0:Int)(b:Option (Int)):Nat->Int->Option (Int)
 |0,_=>none
 |d+1,c =>
  cnd (decide (c<((a1.map aI).length:Int)))
   (bnd (z9o n a0) fun e =>
   jon (z1i n a1 a0 c (z1a n a1 a0 b d)) <|
   reg <| cnd (decide (0<=e))
    (idx a1 c fun f =>
    cnd (!decide (f=e))
     (z1i n a1 a0 c (z1a n a1 a0 b d) true)
    <| cnd (decide (a0=9))
     (idx a1 c fun g =>
     idx a1 0 fun h =>
     z1i n a1 a0 c (z1a n a1 a0 b d) (!decide (g=h)))
    <| z1i n a1 a0 c (z1a n a1 a0 b d) false)
   <| cnd (decide (a0=9))
    (idx a1 c fun j =>
    idx a1 0 fun k =>
    z1i n a1 a0 c (z1a n a1 a0 b d) (!decide (j=k)))
   <| z1i n a1 a0 c (z1a n a1 a0 b d) false)
  <| b
def zbp (n:Nat)(a0:Int)(a1:(List Int)):Option (Int) :=
 z1a n a1 a0
  (some 0) n 0
def z1j (n:Nat)(a0:Bool):Option (z05) :=
 cnd (a0)
  (some (⟨1,1,ByteArray.empty⟩))
 <| some (⟨1,0,ByteArray.empty⟩)
def z4q (n:Nat)(b:Int×Int×ByteArray):Option (z05) :=
 some (⟨b.1,b.2.1,b.2.2⟩)
def z4p (n:Nat)(b:Int×Int×ByteArray):Option (z05) :=
 some (⟨b.1,b.2.1,b.2.2⟩)
def z7w (n:Nat)(a0:Int)(a1:(List z05)):Option (z05) :=
 cnd (decide (a0=5))
  (idx a1 0 fun x1 =>
  idx a1 1 fun x2 =>
  some (⟨0,(IntKind.wrap .i64 (x1.fNum+x2.fNum)),ByteArray.empty⟩))
 <| cnd (decide (a0=6))
  (idx a1 0 fun x3 =>
  idx a1 1 fun x4 =>
  some (⟨0,(IntKind.wrap .i64 (x3.fNum-x4.fNum)),ByteArray.empty⟩))
 <| cnd (decide (a0=7))
  (idx a1 0 fun x5 =>
  idx a1 1 fun x6 =>
  bnd (z1j n (decide (x5.fNum<x6.fNum))) fun x7 =>
  some x7)
 <| cnd (decide (a0=8))
  (idx a1 0 fun x8 =>
  idx a1 1 fun x9 =>
  bnd (z1j n (decide (x8.fNum<=x9.fNum))) fun h =>
  some h)
 <| cnd (decide (a0=9))
  (idx a1 0 fun b =>
  idx a1 1 fun c =>
  bnd (z1j n (decide (b.fKind=c.fKind) && (decide (b.fNum=c.fNum) && ((b.fText.toList == c.fText.toList) && true)))) fun j =>
  some j)
 <| cnd (decide (a0=10))
  (jon (z4q n) <|
  reg <| idx a1 0 fun k =>
  cnd (decide (k.fNum=1))
   (idx a1 1 fun l =>
   bnd (z1j n (decide (l.fNum=1))) fun d =>
   z4q n (d.fKind,d.fNum,d.fText))
  <| bnd (z1j n false) fun e =>
  z4q n (e.fKind,e.fNum,e.fText))
 <| cnd (decide (a0=11))
  (jon (z4p n) <|
  reg <| idx a1 0 fun o =>
  cnd (decide (o.fNum=1))
   (bnd (z1j n true) fun f =>
   z4p n (f.fKind,f.fNum,f.fText))
  <| idx a1 1 fun p =>
  bnd (z1j n (decide (p.fNum=1))) fun g =>
  z4p n (g.fKind,g.fNum,g.fText))
 <| idx a1 0 fun q =>
 bnd (z1j n (!decide (q.fNum=1))) fun s =>
 some s
def z8d (n:Nat)(b:z0r->z0i->Int->z03->Option (z05×Int))(a3:z03)(a2:Int)(a1:z0i)(a0:z0r)(d:(List z05)->(List Int)->Option (z05×Int)):Nat->Int×(List z05)×(List Int)->Option (z05×Int)
 |0,_=>none
 |f+1,c =>
  cnd (decide (c.1<((a0.fArgs.map idA).length:Int)))
   (idxD z1x a0.fArgs c.1 fun g =>
   bnd (b g (⟨a1.fVars⟩:z0i) a2 a3) fun e =>
   cnd (!decide (e.2=0))
    (some (⟨0,0,ByteArray.empty⟩,e.2))
   <| app c.2.1 [e.1] 32 fun h =>
   app c.2.2 [e.1.fKind] 8 fun j =>
   (z8d n b a3 a2 a1 a0 d f) ((IntKind.wrap .i64 (c.1+1)),h,j))
  <| d c.2.1 c.2.2
def z4k:Nat->z0r->z0i->Int->z03->Option (z05×Int)
 |0,_,_,_,_=>none
 |n+1,a0,a1,a2,a3 =>
 cnd (decide (((a0.fArgs.map idA).length:Int)=0))
  (bnd (zad n a0 (⟨a1.fVars⟩:z0i) a2 a3) fun x1 =>
  some (x1.1,x1.2))
 <| z8d n (z4k n) a3 a2 a1 a0
  (fun b c=>bnd (zbp n a0.fOp c) fun d =>
 cnd (!decide (d=0))
  (some (⟨0,0,ByteArray.empty⟩,d))
 <| bnd (z7w n a0.fOp b) fun e =>
 some (e,0)) n (0,[],[])
def zer (n:Nat)(a0:z0r)(a1:z0i)(a2:Int)(a3:z03):Option (z05×Int) :=
 bnd (z32 n a0) fun x1 =>
 cnd (!decide (x1=0))
  (some (⟨0,0,ByteArray.empty⟩,x1))
 <| bnd (z4k n a0 (⟨a1.fVars⟩:z0i) a2 a3) fun x2 =>
 some (x2.1,x2.2)
def z4r (n:Nat)(b:Bool):Option (Bool) :=
 some b
def z2z (n:Nat)(a0:z0r)(a1:z0i)(a2:Int)(a3:z03):Option (Bool) :=
 bnd (zer n a0 (⟨a1.fVars⟩:z0i) a2 a3) fun x1 =>
 jon (z4r n) <|
 reg <| cnd (decide (x1.2=0))
  (bnd (z1j n true) fun x4 =>
  z4r n (decide (x1.1.fKind=x4.fKind) && (decide (x1.1.fNum=x4.fNum) && ((x1.1.fText.toList == x4.fText.toList) && true))))
 <| z4r n false
structure z1g where
 fTime:Int
 fSource:Int
 fSeq:Int
deriving DecidableEq,Inhabited
def z1c (x:z1g):AV:=.agg [aI (x.fTime),aI (x.fSource),aI (x.fSeq)]
abbrev yim (x:z1g):List AV:=[aI (x.fTime),aI (x.fSource),aI (x.fSeq)]
structure z0h where
 fVar:Int
 fRef:z1g
deriving DecidableEq,Inhabited
def z0b (x:z0h):AV:=.agg [aI (x.fVar),aI (x.fRef.fTime),aI (x.fRef.fSource),aI (x.fRef.fSeq)]
abbrev y4e (x:z0h):List AV:=[aI (x.fVar),aI (x.fRef.fTime),aI (x.fRef.fSource),aI (x.fRef.fSeq)]
structure z06 where
 fBindings:(List z0h)
deriving DecidableEq,Inhabited
def z0d (x:z06):AV:=.agg [.sl 4 (x.fBindings.map z0b)]
abbrev zef (x:z06):List AV:=[.sl 4 (x.fBindings.map z0b)]
def z9s (n:Nat)(a0:z1g)(a1:z1g):Option (Int) :=
 cnd (!decide (a0.fTime=a1.fTime))
  (cnd (decide (a0.fTime<a1.fTime))
    (some (-1))
  <| some 1)
 <| cnd (!decide (a0.fSource=a1.fSource))
  (cnd (decide (a0.fSource<a1.fSource))
    (some (-1))
  <| some 1)
 <| cnd (decide (a0.fSeq<a1.fSeq))
  (some (-1))
 <| cnd (decide (a1.fSeq<a0.fSeq))
  (some 1)
 <| some 0
def zbh (n:Nat)(a0:z0h)(a1:z0h):Option (Int) :=
 bnd (z9s n (⟨a0.fRef.fTime,a0.fRef.fSource,a0.fRef.fSeq⟩:z1g) (⟨a1.fRef.fTime,a1.fRef.fSource,a1.fRef.fSeq⟩:z1g)) fun x1 =>
 cnd (!decide (x1=0))
  (some x1)
 <| cnd (decide (a0.fVar<a1.fVar))
  (some (-1))
 <| cnd (decide (a1.fVar<a0.fVar))
  (some 1)
 <| some 0
def z3h (n:Nat)(a1:z06)(a0:z06)(b:Int)(e:Option (Int))(f:Int->Option (Int))(h:Bool):Option (Int) :=
 cnd (h)
  (idx a0.fBindings b fun c =>
  idx a1.fBindings b fun d =>
  bnd (zbh n (⟨c.fVar,⟨c.fRef.fTime,c.fRef.fSource,c.fRef.fSeq⟩⟩:z0h) (⟨d.fVar,⟨d.fRef.fTime,d.fRef.fSource,d.fRef.fSeq⟩⟩:z0h)) fun g =>
  cnd (!decide (g=0))
   (some g)
  <| f (IntKind.wrap .i64 (b+1)))
 <| e
def z2m (n:Nat)(a1:z06)(a0:z06)(b:Option (Int)):Nat->Int->Option (Int)
 |0,_=>none
 |d+1,c =>
  jon (z3h n a1 a0 c b (z2m n a1 a0 b d)) <|
  reg <| cnd (decide (c<((a0.fBindings.map z0b).length:Int)))
   (z3h n a1 a0 c b (z2m n a1 a0 b d) (decide (c<((a1.fBindings.map z0b).length:Int))))
  <| z3h n a1 a0 c b (z2m n a1 a0 b d) false
def z5s (n:Nat)(a0:z06)(a1:z06):Option (Int) :=
 z2m n a1 a0
  (cnd (decide (((a0.fBindings.map z0b).length:Int)<((a1.fBindings.map z0b).length:Int)))
  (some (-1))
 <| cnd (decide (((a1.fBindings.map z0b).length:Int)<((a0.fBindings.map z0b).length:Int)))
  (some 1)
 <| some 0) n 0
structure z0a where
 fScope:Int
 fTime:Int
deriving DecidableEq,Inhabited
def z09 (x:z0a):AV:=.agg [aI (x.fScope),aI (x.fTime)]
abbrev zsw (x:z0a):List AV:=[aI (x.fScope),aI (x.fTime)]
structure z00 where
 fState:Int
 fBindings:(List z0h)
 fStarts:(List z0a)
deriving DecidableEq,Inhabited
def z01 (x:z00):AV:=.agg [aI (x.fState),.sl 4 (x.fBindings.map z0b),.sl 2 (x.fStarts.map z09)]
abbrev z10 (x:z00):List AV:=[aI (x.fState),.sl 4 (x.fBindings.map z0b),.sl 2 (x.fStarts.map z09)]
def z2l (n:Nat)(a1:z00)(a0:z00)(e:Int)(b:Int->Option (Int))(c:z0a)(d:z0a)(f:Bool):Option (Int) :=
 cnd (f)
  (some (-1))
 <| cnd (!(decide (c.fScope=d.fScope) && (decide (c.fTime=d.fTime) && true)))
  (some 1)
 <| b (IntKind.wrap .i64 (e+1))
def z3g (n:Nat)(a1:z00)(a0:z00)(b:Int)(f:Option (Int))(c:Int->Option (Int))(g:Bool):Option (Int) :=
 cnd (g)
  (idx a0.fStarts b fun d =>
  idx a1.fStarts b fun e =>
  jon (z2l n a1 a0 b c d e) <|
  reg <| cnd (decide (d.fScope<e.fScope))
   (z2l n a1 a0 b c d e true)
  <| cnd (decide (d.fScope=e.fScope))
   (z2l n a1 a0 b c d e (decide (d.fTime<e.fTime)))
  <| z2l n a1 a0 b c d e false)
 <| f
def z2k (n:Nat)(a1:z00)(a0:z00)(b:Option (Int)):Nat->Int->Option (Int)
 |0,_=>none
 |d+1,c =>
  jon (z3g n a1 a0 c b (z2k n a1 a0 b d)) <|
  reg <| cnd (decide (c<((a0.fStarts.map z09).length:Int)))
   (z3g n a1 a0 c b (z2k n a1 a0 b d) (decide (c<((a1.fStarts.map z09).length:Int))))
  <| z3g n a1 a0 c b (z2k n a1 a0 b d) false
def z5o (n:Nat)(a0:z00)(a1:z00):Option (Int) :=
 cnd (!decide (a0.fState=a1.fState))
  (cnd (decide (a0.fState<a1.fState))
    (some (-1))
  <| some 1)
 <| bnd (z5s n (⟨a0.fBindings⟩:z06) (⟨a1.fBindings⟩:z06)) fun x1 =>
 cnd (!decide (x1=0))
  (some x1)
 <| z2k n a1 a0
  (cnd (decide (((a0.fStarts.map z09).length:Int)<((a1.fStarts.map z09).length:Int)))
  (some (-1))
 <| cnd (decide (((a1.fStarts.map z09).length:Int)<((a0.fStarts.map z09).length:Int)))
  (some 1)
 <| some 0) n 0
def z6o (n:Nat)(a1:z00)(a0:(List z00))(b:Int)(c:Bool):Option ((List z00)) :=
 cnd (c)
  (some a0)
 <| sls a0 0 b fun d =>
 app ([]:List z00) d 56 fun e =>
 app e [a1] 56 fun f =>
 sls a0 b ((a0.map z01).length:Int) fun g =>
 app f g 56 fun h =>
 some h
def z6n (n:Nat)(a1:z00)(a0:(List z00))(b:Int)(c:Int->Option ((List z00)))(d:Int->Option ((List z00)))(e:Bool):Option ((List z00)) :=
 cnd (e)
  (d (IntKind.wrap .i64 (b+1)))
 <| c b
def z4b (n:Nat)(a1:z00)(a0:(List z00))(b:Int->Option ((List z00))):Nat->Int->Option ((List z00))
 |0,_=>none
 |d+1,c =>
  jon (z6n n a1 a0 c b (z4b n a1 a0 b d)) <|
  reg <| cnd (decide (c<((a0.map z01).length:Int)))
   (idx a0 c fun e =>
   bnd (z5o n e a1) fun f =>
   z6n n a1 a0 c b (z4b n a1 a0 b d) (decide (f<0)))
  <| z6n n a1 a0 c b (z4b n a1 a0 b d) false
def z9e (n:Nat)(a0:(List z00))(a1:z00):Option ((List z00)) :=
 z4b n a1 a0
  (fun b=>jon (z6o n a1 a0 b) <|
 reg <| cnd (decide (b<((a0.map z01).length:Int)))
  (idx a0 b fun c =>
  bnd (z5o n c a1) fun d =>
  z6o n a1 a0 b (decide (d=0)))
 <| z6o n a1 a0 b false) n 0
def z6m (n:Nat)(b:Bool):Option (Bool) :=
 some b
def zcr (n:Nat)(a0:Int):Option (Bool) :=
 jon (z6m n) <|
 reg <| cnd (decide (0<=a0))
  (z6m n (decide (a0<=5)))
 <| z6m n false
def z4l (n:Nat)(b:Bool):Option (Bool) :=
 some b
def zcq (n:Nat)(a0:Int)(a1:z05):Option (Bool) :=
 jon (z4l n) <|
 reg <| cnd (decide (a1.fKind=0))
  (z4l n true)
 <| cnd (!decide (a0=1))
  (cnd (!decide (a0=2))
    (z4l n (!decide (a0=3)))
  <| z4l n false)
 <| z4l n false
def zbb (n:Nat)(a0:Int)(a1:z05):Option (Int) :=
 bnd (zca n a1) fun x1 =>
 cnd (!decide (x1=0))
  (some x1)
 <| bnd (zcq n a0 a1) fun x2 =>
 cnd (!(x2))
  (some 9)
 <| some 0
def zfv (n:Nat)(a0:Int)(a1:z05):Option (z05) :=
 cnd (decide (a0=0))
  (some (⟨0,0,ByteArray.empty⟩))
 <| some a1
def zed (n:Nat):Option (z05) :=
 some (⟨0,0,ByteArray.empty⟩)
def zec (n:Nat)(m0:z05)(m1:z05):Option (z05×z05×z05) :=
 some (⟨0,(IntKind.wrap .i64 (m0.fNum+m1.fNum)),ByteArray.empty⟩,m0,m1)
def zeb (n:Nat)(m0:z05)(m1:z05):Option (z05×z05×z05) :=
 some (⟨0,(min m0.fNum m1.fNum),ByteArray.empty⟩,m0,m1)
def zea (n:Nat)(m0:z05)(m1:z05):Option (z05×z05×z05) :=
 some (⟨0,(max m0.fNum m1.fNum),ByteArray.empty⟩,m0,m1)
def ze9 (n:Nat)(m0:z05):Option (z05×z05) :=
 some (m0,m0)
def ze8 (n:Nat)(m0:z05):Option (z05×z05) :=
 some (m0,m0)
def zdj (n:Nat)(a0:Int)(a1:z05)(a2:z05):Option (z05) :=
 natc a0 0
  (bnd (zed n) fun x1 =>
 some x1)
 <| natc a0 1
  (bndM 15 (zec n a1 a2) fun x2 =>
 some x2.1)
 <| natc a0 2
  (bndM 15 (zeb n a1 a2) fun x3 =>
 some x3.1)
 <| natc a0 3
  (bndM 15 (zea n a1 a2) fun x4 =>
 some x4.1)
 <| natc a0 4
  (bndM 15 (ze9 n a1) fun x5 =>
 some x5.1)
 <| natc a0 5
  (bndM 15 (ze8 n a2) fun x6 =>
 some x6.1)
 <| none
def zfw (n:Nat)(a0:z0o)(a1:z0o):Option (z0o) :=
 cnd (decide (a0.fCount=0))
  (some a1)
 <| cnd (decide (a1.fCount=0))
  (some a0)
 <| bnd (zdj n a0.fKind a0.fValue a1.fValue) fun x1 =>
 some (⟨a0.fKind,(IntKind.wrap .i64 (a0.fCount+a1.fCount)),x1⟩)
def zgv (n:Nat)(a0:z0o)(a1:z05)(a2:Int):Option (z0o) :=
 bnd (zfv n a2 a1) fun x1 =>
 bnd (zfw n a0 (⟨a2,1,x1⟩:z0o)) fun x2 =>
 some x2
def za1 (n:Nat)(e:Int)(a1:(List z05))(c:Int->Int->Int->Int->ByteArray->Option (z0o)):Nat->Int×Int×Int×Int×Int×ByteArray->Option (z0o)
 |0,_=>none
 |f+1,b =>
  cnd (decide (b.1<((a1.map z08).length:Int)))
   (idx a1 b.1 fun g =>
   bnd (zgv n (⟨b.2.1,b.2.2.1,⟨b.2.2.2.1,b.2.2.2.2.1,b.2.2.2.2.2⟩⟩:z0o) g e) fun d =>
   (za1 n e a1 c f) ((IntKind.wrap .i64 (b.1+1)),d.fKind,d.fCount,d.fValue.fKind,d.fValue.fNum,d.fValue.fText))
  <| c b.2.1 b.2.2.1 b.2.2.2.1 b.2.2.2.2.1 b.2.2.2.2.2
def ze7 (n:Nat)(a0:z0o)(a1:(List z05))(g:Int):Option (z0o) :=
 za1 n g a1
  (fun b c d e f=>some (⟨b,c,⟨d,e,f⟩⟩)) n (0,a0.fKind,a0.fCount,a0.fValue.fKind,a0.fValue.fNum,a0.fValue.fText)
def z8p (n:Nat)(a0:z0o)(b:Bool):Option (Int) :=
 cnd (b)
  (some 2)
 <| reg <| cnd (decide (a0.fCount=0))
  (cnd (!((decide (a0.fValue.fKind=0) && (decide (a0.fValue.fNum=0) && ((a0.fValue.fText.toList == ByteArray.empty.toList) && true)))))
    (some 3)
  <| some 0)
 <| cnd (decide (a0.fKind=0))
  (cnd (!((decide (a0.fValue.fKind=0) && (decide (a0.fValue.fNum=0) && ((a0.fValue.fText.toList == ByteArray.empty.toList) && true)))))
    (some 3)
  <| some 0)
 <| reg <| cnd (decide (a0.fKind=1))
  (reg <| cnd (decide (a0.fValue.fKind=0))
    (cnd ((a0.fValue.fText.toList == ByteArray.empty.toList))
      (cnd (decide ((IntKind.wrap .i64 (0-(IntKind.wrap .i64 (a0.fCount*1099511627776))))<=a0.fValue.fNum))
        (cnd (!(decide (a0.fValue.fNum<=(IntKind.wrap .i64 (a0.fCount*1099511627776)))))
          (some 3)
        <| some 0)
      <| some 3)
    <| some 3)
  <| some 3)
 <| reg <| bnd (zca n a0.fValue) fun x3 =>
 cnd (decide (x3=0))
  (bnd (zcq n a0.fKind a0.fValue) fun x4 =>
  cnd (!(x4))
   (some 3)
  <| some 0)
 <| some 3
def zf7 (n:Nat)(a0:z0o):Option (Int) :=
 bnd (zcr n a0.fKind) fun x1 =>
 cnd (!(x1))
  (some 1)
 <| jon (z8p n a0) <|
 reg <| cnd (decide (a0.fCount<0))
  (z8p n a0 true)
 <| z8p n a0 (decide (4096<a0.fCount))
def z85 (n:Nat)(a1:z05)(a0:z0o)(b:Bool):Option (z05×Int) :=
 cnd (b)
  (some (a1,0))
 <| some (a0.fValue,0)
def zbr (n:Nat)(a0:z0o)(a1:z05):Option (z05×Int) :=
 bnd (zf7 n a0) fun x1 =>
 cnd (!decide (x1=0))
  (some (⟨0,0,ByteArray.empty⟩,x1))
 <| bnd (zbb n a0.fKind a1) fun x2 =>
 cnd (!decide (x2=0))
  (some (⟨0,0,ByteArray.empty⟩,x2))
 <| cnd (decide (a0.fKind=0))
  (some (⟨0,a0.fCount,ByteArray.empty⟩,0))
 <| jon (z85 n a1 a0) <|
 reg <| cnd (decide (a0.fCount=0))
  (z85 n a1 a0 (!decide (a0.fKind=1)))
 <| z85 n a1 a0 false
def zcs (n:Nat)(a2:z05)(a1:(List z05))(a0:Int)(b:Option (z05×Int)):Nat->Int->Option (z05×Int)
 |0,_=>none
 |d+1,c =>
  cnd (decide (c<((a1.map z08).length:Int)))
   (idx a1 c fun f =>
   bnd (zbb n a0 f) fun e =>
   cnd (!decide (e=0))
    (some (⟨0,0,ByteArray.empty⟩,e))
   <| (zcs n a2 a1 a0 b d) (IntKind.wrap .i64 (c+1)))
  <| b
def zfr (n:Nat)(a0:Int)(a1:(List z05))(a2:z05):Option (z05×Int) :=
 bnd (zcr n a0) fun x1 =>
 cnd (!(x1))
  (some (⟨0,0,ByteArray.empty⟩,1))
 <| cnd (decide (4096<((a1.map z08).length:Int)))
  (some (⟨0,0,ByteArray.empty⟩,5))
 <| zcs n a2 a1 a0
  (bnd (ze7 n (⟨a0,0,⟨0,0,ByteArray.empty⟩⟩:z0o) a1 a0) fun c =>
 bnd (zbr n c a2) fun b =>
 some (b.1,b.2)) n 0
def zjn (n:Nat)(a0:Int):Option (Bool) :=
 some (!decide (a0=a0))
def z3b (n:Nat)(a0:Int)(a1:Int):Option (Int) :=
 bnd (zjn n a0) fun x1 =>
 bnd (zjn n a1) fun x2 =>
 cnd (x1)
  (cnd (x2)
    (some 0)
  <| some (-1))
 <| cnd (x2)
  (some 1)
 <| cnd (decide (a0<a1))
  (some (-1))
 <| cnd (decide (a1<a0))
  (some 1)
 <| some 0
def zhw (n:Nat)(a0:(List Int))(b:Option (Int)):Nat->Int->Option (Int)
 |0,_=>none
 |d+1,c =>
  cnd (decide (c<((a0.map aI).length:Int)))
   (idx a0 c fun e =>
   cnd (!decide (e=0))
    (some e)
   <| (zhw n a0 b d) (IntKind.wrap .i64 (c+1)))
  <| b
def zgu (n:Nat)(a0:(List Int)):Option (Int) :=
 zhw n a0
  (some 0) n 0
def zi8 (n:Nat)(a0:z1g)(a1:z1g):Option (Int) :=
 bnd (z3b n a0.fTime a1.fTime) fun x1 =>
 bnd (z3b n a0.fSource a1.fSource) fun x2 =>
 bnd (z3b n a0.fSeq a1.fSeq) fun x3 =>
 bnd (zgu n ([x1,x2,x3])) fun x4 =>
 some x4
def zf4 (n:Nat)(a0:z0h)(a1:z0h):Option (Int) :=
 bnd (zi8 n (⟨a0.fRef.fTime,a0.fRef.fSource,a0.fRef.fSeq⟩:z1g) (⟨a1.fRef.fTime,a1.fRef.fSource,a1.fRef.fSeq⟩:z1g)) fun x1 =>
 bnd (z3b n a0.fVar a1.fVar) fun x2 =>
 bnd (zgu n ([x1,x2])) fun x3 =>
 some x3
def z8f (n:Nat)(a1:(List z0h))(a0:(List z0h))(c:Option (Int)):Nat->Int->Option (Int)
 |0,_=>none
 |f+1,b =>
  cnd (decide (b<((a0.map z0b).length:Int)))
   (idx a0 b fun d =>
   cnd (decide (((a1.map z0b).length:Int)<=b))
    (some 1)
   <| idx a1 b fun e =>
   bnd (zf4 n (⟨d.fVar,⟨d.fRef.fTime,d.fRef.fSource,d.fRef.fSeq⟩⟩:z0h) (⟨e.fVar,⟨e.fRef.fTime,e.fRef.fSource,e.fRef.fSeq⟩⟩:z0h)) fun g =>
   cnd (!decide (g=0))
    (some g)
   <| (z8f n a1 a0 c f) (IntKind.wrap .i64 (b+1)))
  <| c
def zc3 (n:Nat)(a0:(List z0h))(a1:(List z0h)):Option (Int) :=
 z8f n a1 a0
  (cnd (decide (((a0.map z0b).length:Int)<((a1.map z0b).length:Int)))
  (some (-1))
 <| some 0) n 0
def zf5 (n:Nat)(a0:z06)(a1:z06):Option (Int) :=
 bnd (zc3 n a0.fBindings a1.fBindings) fun x1 =>
 some x1
def zga (n:Nat)(a0:z0a)(a1:z0a):Option (Int) :=
 bnd (z3b n a0.fScope a1.fScope) fun x1 =>
 bnd (z3b n a0.fTime a1.fTime) fun x2 =>
 bnd (zgu n ([x1,x2])) fun x3 =>
 some x3
def z4x (n:Nat)(a1:(List z0a))(a0:(List z0a))(c:Option (Int)):Nat->Int->Option (Int)
 |0,_=>none
 |d+1,b =>
  cnd (decide (b<((a0.map z09).length:Int)))
   (idx a0 b fun f =>
   cnd (decide (((a1.map z09).length:Int)<=b))
    (some 1)
   <| idx a1 b fun g =>
   bnd (zga n f g) fun e =>
   cnd (!decide (e=0))
    (some e)
   <| (z4x n a1 a0 c d) (IntKind.wrap .i64 (b+1)))
  <| c
def z9x (n:Nat)(a0:(List z0a))(a1:(List z0a)):Option (Int) :=
 z4x n a1 a0
  (cnd (decide (((a0.map z09).length:Int)<((a1.map z09).length:Int)))
  (some (-1))
 <| some 0) n 0
def zhb (n:Nat)(a0:z00)(a1:z00):Option (Int) :=
 bnd (z3b n a0.fState a1.fState) fun x1 =>
 bnd (zf5 n (⟨a0.fBindings⟩:z06) (⟨a1.fBindings⟩:z06)) fun x2 =>
 bnd (z9x n a0.fStarts a1.fStarts) fun x3 =>
 bnd (zgu n ([x1,x2,x3])) fun x4 =>
 some x4
def z7z (n:Nat)(b:Bool):Option (Bool) :=
 some b
def zi5 (n:Nat)(a0:z03):Option (Bool) :=
 jon (z7z n) <|
 reg <| cnd (decide (0<=a0.fTime))
  (cnd (decide (a0.fTime<=1099511627776))
    (cnd (decide (0<=a0.fSource))
      (cnd (decide (a0.fSource<8))
        (cnd (decide (0<=a0.fSeq))
          (z7z n (decide (a0.fSeq<=1099511627776)))
        <| z7z n false)
      <| z7z n false)
    <| z7z n false)
  <| z7z n false)
 <| z7z n false
def zi4 (n:Nat)(a0:z03):Option (z1g) :=
 some (⟨a0.fTime,a0.fSource,a0.fSeq⟩)
def zhs (n:Nat)(a0:z1g)(a1:z1g):Option (Int) :=
 bnd (z3b n a0.fTime a1.fTime) fun x1 =>
 bnd (z3b n a0.fSource a1.fSource) fun x2 =>
 bnd (z3b n a0.fSeq a1.fSeq) fun x3 =>
 bnd (zgu n ([x1,x2,x3])) fun x4 =>
 some x4
def zg8 (n:Nat)(a0:z0h)(a1:z03):Option (Bool) :=
 bnd (zi4 n a1) fun x1 =>
 bnd (zhs n (⟨a0.fRef.fTime,a0.fRef.fSource,a0.fRef.fSeq⟩:z1g) (⟨x1.fTime,x1.fSource,x1.fSeq⟩:z1g)) fun x2 =>
 some (decide (0<=x2))
def z6a (n:Nat)(e:z03)(a0:(List z0h))(c:Option (Int)):Nat->Int->Option (Int)
 |0,_=>none
 |f+1,b =>
  cnd (decide (b<((a0.map z0b).length:Int)))
   (idx a0 b fun d =>
   bnd (zg8 n (⟨d.fVar,⟨d.fRef.fTime,d.fRef.fSource,d.fRef.fSeq⟩⟩:z0h) e) fun g =>
   cnd (g)
    (some b)
   <| (z6a n e a0 c f) (IntKind.wrap .i64 (b+1)))
  <| c
def zaw (n:Nat)(a0:(List z0h))(b:z03):Option (Int) :=
 z6a n b a0
  (some (-1)) n 0
def z99 (n:Nat)(a0:(List z0h))(b:z03):Option (Bool) :=
 bnd (zaw n a0 b) fun x1 =>
 some (decide (0<=x1))
def zrg (n:Nat)(a0:z00)(a1:z03):Option (Bool) :=
 bnd (z99 n a0.fBindings a1) fun x1 =>
 some x1
def zg9 (n:Nat)(a0:z00)(a1:z03):Option (Bool) :=
 bnd (zrg n a0 a1) fun x1 =>
 some x1
def z6b (n:Nat)(d:z03)(a0:(List z00))(c:Option (Int)):Nat->Int->Option (Int)
 |0,_=>none
 |e+1,b =>
  cnd (decide (b<((a0.map z01).length:Int)))
   (idx a0 b fun f =>
   bnd (zg9 n f d) fun g =>
   cnd (g)
    (some b)
   <| (z6b n d a0 c e) (IntKind.wrap .i64 (b+1)))
  <| c
def zax (n:Nat)(a0:(List z00))(b:z03):Option (Int) :=
 z6b n b a0
  (some (-1)) n 0
def z9a (n:Nat)(a0:(List z00))(b:z03):Option (Bool) :=
 bnd (zax n a0 b) fun x1 =>
 some (decide (0<=x1))
def zht (n:Nat)(a0:(List z00))(a1:z03):Option (Int) :=
 bnd (zi5 n a1) fun x1 =>
 cnd (!(x1))
  (some 2)
 <| bnd (z9a n a0 a1) fun x2 =>
 cnd (x2)
  (some 14)
 <| some 0
attribute [irreducible] z4s z1f z1v z3m z5t z2b z0j z2q z5u z5v z3o z1d z6q z2y z17 z1t z2a zdh zek zel zbn z64 z12 zem zen zcg z6h z83 z59 z84 z1z z3e z2p z3p z2c z4t z4u z4v z4g z41 z40 z27 z1r z1i z4q z4p z4r z3h z2l z3g z6o z6n z6m z4l z8p z85 z7z
end Go.Proofs.YtidhlpjgifoneaaGreat
