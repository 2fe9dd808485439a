/- What some functions compute, over plain values. -/
import Derived.Test.YtidhlpjgifoneaaGreatK20
set_option linter.unusedVariables false
set_option linter.unusedSimpArgs false
set_option maxRecDepth 100000
set_option maxHeartbeats 8000000
namespace Go.Proofs.YtidhlpjgifoneaaGreat
open Go.RowKit List
def zcw (n:Nat)(a0:z00)(a1:z00):Option (Bool) :=
 bnd (zhq n a0 a1) fun x1 =>
 some (decide (x1=0))
def z63 (n:Nat)(c:Nat)(d:Int->(List z00)->Option ((List z00))):Nat->Int×Int×(List z00)->Option ((List z00))
 |0,_=>none
 |e+1,b =>
  gle c (b.2.2.map z01).length <|
  cnd (decide (b.2.1<((((b.2.2.map z01).length-c:Nat)):Int)))
   (nat b.2.1 ((b.2.2.map z01).length-c) fun g =>
   elt b.2.2 (c+g) fun h =>
   nat (IntKind.wrap .i64 (b.2.1-1)) ((b.2.2.map z01).length-c) fun j =>
   elt b.2.2 (c+j) fun k =>
   bnd (zcw n h k) fun l =>
   cnd (!(l))
    (nat b.2.1 ((b.2.2.map z01).length-c) fun o =>
    elt b.2.2 (c+o) fun p =>
    nat b.1 (b.2.2.map z01).length fun q =>
    stx b.2.2 q (fun s=>p) fun f =>
    (z63 n c d e) ((IntKind.wrap .i64 (b.1+1)),(IntKind.wrap .i64 (b.2.1+1)),f))
   <| (z63 n c d e) (b.1,(IntKind.wrap .i64 (b.2.1+1)),b.2.2))
  <| d b.1 b.2.2
def z8m (n:Nat)(m0:(List z00))(e:Option ((List z00))):Nat->Int->Option ((List z00))
 |0,_=>none
 |f+1,b =>
  cnd (decide (b<((m0.map z01).length:Int)))
   (nat b (m0.map z01).length fun g =>
   elt m0 g fun h =>
   nat (IntKind.wrap .i64 (b-1)) (m0.map z01).length fun j =>
   elt m0 j fun k =>
   bnd (zcw n h k) fun l =>
   cnd (l)
    (nle b (m0.map z01).length fun o =>
    z63 n o
     (fun c d=>nle c (d.map z01).length fun p =>
    clr d p (⟨0,[],[]⟩:z00) fun q =>
    sls q 0 c fun s =>
    some s) n (b,1,m0))
   <| (z8m n m0 e f) (IntKind.wrap .i64 (b+1)))
  <| e
def zcd (n:Nat)(m0:(List z00)):Option ((List z00)) :=
 cnd (decide (((m0.map z01).length:Int)<2))
  (some m0)
 <| z8m n m0
  (some m0) n 1
def zhi (n:Nat)(m0:(List z00)):Option ((List z00)) :=
 bndC (zri cfOk zbk n m0) fun x1 =>
 frb 3 <| reg <| bndM 10 (zcd n x1) fun x2 =>
 some x2
def znc (n:Nat)(a0:(List z00)):Option ((List z00)×Int) :=
 bndR (zay n a0) fun x1 =>
 bndM 7 (zhi n x1) fun x2 =>
 cnd (decide (4096<((x2.map z01).length:Int)))
  (some ([],5))
 <| some (x2,0)
def z72 (n:Nat)(b:Bool):Option (Bool) :=
 some b
def z9p (n:Nat)(a0:z0s):Option (Bool) :=
 jon (z72 n) <|
 reg <| bnd (z33 n a0 200) fun x4 =>
 cnd (decide (x4<=200))
  (bnd (z32 n a0) fun x5 =>
  z72 n (decide (x5<=100)))
 <| z72 n false
def z96 (n:Nat)(a0:(List z0v))(b:Option (Bool)):Nat->Int->Option (Bool)
 |0,_=>none
 |d+1,c =>
  cnd (decide (c<((a0.map z0u).length:Int)))
   (idx a0 c fun e =>
   bnd (z9p n e.fCond) fun f =>
   cnd (!(f))
    (some false)
   <| (z96 n a0 b d) (IntKind.wrap .i64 (c+1)))
  <| b
def zd9 (n:Nat)(a0:(List z0v)):Option (Bool) :=
 z96 n a0
  (some true) n 0
def z6y (n:Nat)(b:Bool):Option (Bool) :=
 some b
def z97 (n:Nat)(a0:z07)(f:Int)(d:z0t)(b:Option (Bool)):Nat->Int->Option (Bool)
 |0,_=>none
 |e+1,c =>
  cnd (decide (c<((d.fChecks.map idA).length:Int)))
   (idxD z1z d.fChecks c fun g =>
   bnd (z9p n g) fun h =>
   cnd (!(h))
    (some false)
   <| (z97 n a0 f d b e) (IntKind.wrap .i64 (c+1)))
  <| b
def z1r (n:Nat)(a0:z07)(b:Int)(c:Int->Option (Bool))(e:z0t)(d:Bool):Option (Bool) :=
 cnd (d)
  (some false)
 <| z97 n a0 b e
  (c (IntKind.wrap .i64 (b+1))) n 0
def z5w (n:Nat)(a0:z07)(d:Int)(e:Option (Bool))(c:Int->Option (Bool))(f:Bool):Option (Bool) :=
 cnd (f)
  (idx a0.fEdges d fun b =>
  jon (z1r n a0 d c b) <|
  reg <| bnd (z9p n b.fCond) fun g =>
  cnd (!(g))
   (z1r n a0 d c b true)
  <| cnd (decide (8<((b.fChecks.map idA).length:Int)))
   (z1r n a0 d c b true)
  <| cnd (decide (12<((b.fOpens.map aI).length:Int)))
   (z1r n a0 d c b true)
  <| cnd (decide (12<((b.fCloses.map aI).length:Int)))
   (z1r n a0 d c b true)
  <| cnd (decide (12<((b.fInside.map aI).length:Int)))
   (z1r n a0 d c b true)
  <| z1r n a0 d c b (decide (12<((b.fLimits.map z27).length:Int))))
 <| e
def z4k (n:Nat)(a0:z07)(b:Option (Bool)):Nat->Int->Option (Bool)
 |0,_=>none
 |d+1,c =>
  jon (z5w n a0 c b (z4k n a0 b d)) <|
  reg <| cnd (decide (c<((a0.fEdges.map z0w).length:Int)))
   (z5w n a0 c b (z4k n a0 b d) (decide (c<60)))
  <| z5w n a0 c b (z4k n a0 b d) false
def z23 (n:Nat)(a0:z07)(d:Int)(b:Int->Option (Bool))(c:Bool):Option (Bool) :=
 cnd (c)
  (some false)
 <| b (IntKind.wrap .i64 (d+1))
def z5v (n:Nat)(a0:z07)(b:Int)(d:Option (Bool))(c:Int->Option (Bool))(e:Bool):Option (Bool) :=
 cnd (e)
  (jon (z23 n a0 b c) <|
  reg <| idx a0.fStates b fun f =>
  cnd (decide (12<((f.fGuards.map z0u).length:Int)))
   (idx a0.fStates b fun g =>
   cnd (decide (((g.fGuards.map z0u).length:Int)<=64))
    (z23 n a0 b c true)
   <| idx a0.fStates b fun h =>
   cnd (decide (70<((h.fGuards.map z0u).length:Int)))
    (z23 n a0 b c true)
   <| idx a0.fStates b fun j =>
   bnd (zd9 n j.fGuards) fun k =>
   z23 n a0 b c !(k))
  <| idx a0.fStates b fun l =>
  cnd (decide (70<((l.fGuards.map z0u).length:Int)))
   (z23 n a0 b c true)
  <| idx a0.fStates b fun o =>
  bnd (zd9 n o.fGuards) fun p =>
  z23 n a0 b c !(p))
 <| d
def z4l (n:Nat)(a0:z07)(b:Option (Bool)):Nat->Int->Option (Bool)
 |0,_=>none
 |d+1,c =>
  jon (z5v n a0 c b (z4l n a0 b d)) <|
  reg <| cnd (decide (c<((a0.fStates.map z0q).length:Int)))
   (z5v n a0 c b (z4l n a0 b d) (decide (c<30)))
  <| z5v n a0 c b (z4l n a0 b d) false
def zda (n:Nat)(a0:z07):Option (Bool) :=
 z4l n a0
  (z4k n a0
  (jon (z6y n) <|
 reg <| cnd (decide (((a0.fStates.map z0q).length:Int)<=20))
  (z6y n (decide (((a0.fEdges.map z0w).length:Int)<=40)))
 <| z6y n false) n 0) n 0
def z9a (n:Nat)(a0:(List z05))(b:Option (Bool)):Nat->Int->Option (Bool)
 |0,_=>none
 |d+1,c =>
  cnd (decide (c<((a0.map z08).length:Int)))
   (cnd (decide (c<40))
     (idx a0 c fun e =>
     cnd (decide (128<((e.fText.size:Nat):Int)))
      (some false)
     <| (z9a n a0 b d) (IntKind.wrap .i64 (c+1)))
   <| b)
  <| b
def zdd (n:Nat)(a0:(List z05)):Option (Bool) :=
 z9a n a0
  (some (decide (((a0.map z08).length:Int)<40))) n 0
def z99 (n:Nat)(a0:(List z03))(b:Option (Bool)):Nat->Int->Option (Bool)
 |0,_=>none
 |d+1,c =>
  cnd (decide (c<((a0.map z02).length:Int)))
   (cnd (decide (c<20))
     (idx a0 c fun e =>
     cnd (decide (12<((e.fValues.map z08).length:Int)))
      (some false)
     <| idx a0 c fun f =>
     bnd (zdd n f.fValues) fun g =>
     cnd (!(g))
      (some false)
     <| (z99 n a0 b d) (IntKind.wrap .i64 (c+1)))
   <| b)
  <| b
def zdc (n:Nat)(a0:(List z03)):Option (Bool) :=
 z99 n a0
  (some (decide (((a0.map z02).length:Int)<=12))) n 0
def zb4 (n:Nat)(a0:z03):Option (Bool) :=
 cnd (decide (0<=a0.fTime))
  (cnd (decide (a0.fTime<=1099511627776))
    (cnd (decide (0<=a0.fSource))
      (cnd (decide (a0.fSource<8))
        (cnd (decide (0<=a0.fSeq))
          (some (decide (a0.fSeq<=1099511627776)))
        <| some false)
      <| some false)
    <| some false)
  <| some false)
 <| some false
def z9q (n:Nat)(a0:z03):Option (z1f) :=
 some (⟨a0.fTime,a0.fSource,a0.fSeq⟩)
def zan (n:Nat)(a0:z03)(a1:z03):Option (Bool) :=
 cnd (decide (a0.fSource=a1.fSource))
  (some (decide (a0.fSeq=a1.fSeq)))
 <| some false
def z7o (n:Nat)(a0:(List z03))(c:Int)(b:Option (Int)):Nat->Int->Option (Int)
 |0,_=>none
 |e+1,d =>
  cnd (decide (d<c))
   (idx a0 d fun f =>
   idx a0 c fun g =>
   bnd (zan n f g) fun h =>
   cnd (h)
    (some 7)
   <| (z7o n a0 c b e) (IntKind.wrap .i64 (d+1)))
  <| b
def z7n (n:Nat)(a0:(List z03))(c:Int)(b:Option (Int)):Nat->Int->Option (Int)
 |0,_=>none
 |e+1,d =>
  cnd (decide (d<c))
   (idx a0 d fun f =>
   idx a0 c fun g =>
   bnd (zan n f g) fun h =>
   cnd (h)
    (some 7)
   <| (z7n n a0 c b e) (IntKind.wrap .i64 (d+1)))
  <| b
def z2f (n:Nat)(a0:(List z03))(c:Option (Int)):Nat->Int->Option (Int)
 |0,_=>none
 |d+1,b =>
  cnd (decide (b<((a0.map z02).length:Int)))
   (idx a0 b fun g =>
   bnd (zb4 n g) fun h =>
   cnd (!(h))
    (some 2)
   <| cnd (decide (0<b))
    (idx a0 (IntKind.wrap .i64 (b-1)) fun j =>
    bnd (z9q n j) fun e =>
    idx a0 b fun k =>
    bnd (z9q n k) fun f =>
    bnd (z9z n (⟨e.fTime,e.fSource,e.fSeq⟩:z1f) (⟨f.fTime,f.fSource,f.fSeq⟩:z1f)) fun l =>
    cnd (decide (0<=l))
     (some 14)
    <| z7o n a0 b
     ((z2f n a0 c d) (IntKind.wrap .i64 (b+1))) n 0)
   <| z7n n a0 b
    ((z2f n a0 c d) (IntKind.wrap .i64 (b+1))) n 0)
  <| c
def za0 (n:Nat)(a0:(List z03)):Option (Int) :=
 cnd (decide (4096<((a0.map z02).length:Int)))
  (some 5)
 <| z2f n a0
  (some 0) n 0
def z2q (n:Nat)(a0:z07)(a1:(List z03)):Option (Int) :=
 bnd (z5c n a0) fun x1 =>
 cnd (!decide (x1=0))
  (some x1)
 <| bnd (za0 n a1) fun x2 =>
 some x2
def ze3 (n:Nat):Option (z00) :=
 some (⟨0,[],[]⟩)
def z7k (n:Nat)(a1:z1f)(a0:(List z03))(c:Option (z03×Bool)):Nat->Int->Option (z03×Bool)
 |0,_=>none
 |e+1,b =>
  cnd (decide (b<((a0.map z02).length:Int)))
   (idx a0 b fun f =>
   bnd (z9q n f) fun d =>
   cnd ((decide (d.fTime=a1.fTime) && (decide (d.fSource=a1.fSource) && (decide (d.fSeq=a1.fSeq) && true))))
    (idx a0 b fun g =>
    some (g,true))
   <| (z7k n a1 a0 c e) (IntKind.wrap .i64 (b+1)))
  <| c
def zbp (n:Nat)(a0:(List z03))(a1:z1f):Option (z03×Bool) :=
 z7k n a1 a0
  (some (⟨0,0,0,0,[]⟩,false)) n 0
def z1v (n:Nat)(a2:(List z0h))(a1:Int)(a0:(List z03))(x1:Nat)(c:(List (List z03))->Option (z0i)):Nat->Int×(List (List z03))->Option (z0i)
 |0,_=>none
 |e+1,b =>
  cnd (decide (b.1<((a2.map z0b).length:Int)))
   (idx a2 b.1 fun d =>
   bnd (zbp n a0 (⟨d.fRef.fTime,d.fRef.fSource,d.fRef.fSeq⟩:z1f)) fun f =>
   reg <| cnd (f.2)
    (cnd (decide (0<=d.fVar))
      (cnd (decide (d.fVar<a1))
        (ncx d.fVar x1 <|
        ntk b.2 (Int.toNat d.fVar) fun g =>
        app g [f.1] 56 fun h =>
        ncx d.fVar x1 <|
        npt b.2 (Int.toNat d.fVar) h fun j =>
        (z1v n a2 a1 a0 x1 c e) ((IntKind.wrap .i64 (b.1+1)),j))
      <| (z1v n a2 a1 a0 x1 c e) ((IntKind.wrap .i64 (b.1+1)),b.2))
    <| (z1v n a2 a1 a0 x1 c e) ((IntKind.wrap .i64 (b.1+1)),b.2))
   <| (z1v n a2 a1 a0 x1 c e) ((IntKind.wrap .i64 (b.1+1)),b.2))
  <| c b.2
def ze4 (n:Nat)(a0:(List z03))(a1:Int)(a2:(List z0h)):Option (z0i) :=
 mkn a1 24 fun x1 =>
 nst 13 <| reg <| z1v n a2 a1 a0 x1
  (fun b=>frr 13 <| reg <| some ⟨b⟩) n (0,(replicate (x1) ([]:List z03)))
def z9n (n:Nat)(a0:(List z03))(a1:z00):Option (z0i) :=
 bnd (ze4 n a0 16 a1.fBindings) fun x1 =>
 some ⟨x1.fVars⟩
def z38 (n:Nat)(b:Bool):Option (Bool) :=
 some b
def z7f (n:Nat)(a0:z0v)(a1:z0i)(a2:z03):Option (Bool) :=
 jon (z38 n) <|
 reg <| cnd (decide (a0.fType=a2.fType))
  (bnd (z31 n a0.fCond (⟨a1.fVars⟩:z0i) a0.fVar a2) fun x3 =>
  z38 n x3)
 <| z38 n false
def z7g (n:Nat)(a3:z03)(x1:z0i)(x2:zem)(b:Option (Bool)):Nat->Int->Option (Bool)
 |0,_=>none
 |d+1,c =>
  cnd (decide (c<((x2.fGuards.map z0u).length:Int)))
   (idx x2.fGuards c fun e =>
   bnd (z7f n e (⟨x1.fVars⟩:z0i) a3) fun f =>
   cnd (f)
    (some false)
   <| (z7g n a3 x1 x2 b d) (IntKind.wrap .i64 (c+1)))
  <| b
def zbn (n:Nat)(a0:z07)(a1:(List z03))(a2:z00)(a3:z03):Option (Bool) :=
 bnd (z9n n a1 a2) fun x1 =>
 idx a0.fStates a2.fState fun x2 =>
 z7g n a3 x1 x2
  (some true) n 0
def z5u (n:Nat)(a1:Int)(a0:z07)(c:(List z0t)->Option ((List z0t))):Nat->Int×(List z0t)->Option ((List z0t))
 |0,_=>none
 |d+1,b =>
  cnd (decide (b.1<((a0.fEdges.map z0w).length:Int)))
   (reg <| idx a0.fEdges b.1 fun e =>
   cnd (decide (e.fFrom=a1))
    (idx a0.fEdges b.1 fun f =>
    app b.2 [f] 240 fun g =>
    (z5u n a1 a0 c d) ((IntKind.wrap .i64 (b.1+1)),g))
   <| (z5u n a1 a0 c d) ((IntKind.wrap .i64 (b.1+1)),b.2))
  <| c b.2
def zc8 (n:Nat)(a0:z07)(a1:Int):Option ((List z0t)) :=
 z5u n a1 a0
  (fun b=>some b) n (0,[])
def z90 (n:Nat)(a1:Int)(a0:(List Int))(b:Option (Bool)):Nat->Int->Option (Bool)
 |0,_=>none
 |d+1,c =>
  cnd (decide (c<((a0.map aI).length:Int)))
   (idx a0 c fun e =>
   cnd (decide (e=a1))
    (some true)
   <| (z90 n a1 a0 b d) (IntKind.wrap .i64 (c+1)))
  <| b
def zd6 (n:Nat)(a0:(List Int))(a1:Int):Option (Bool) :=
 z90 n a1 a0
  (some false) n 0
def z44 (n:Nat)(a1:Int)(a0:(List z0a))(c:(List z0a)->Option ((List z0a))):Nat->Int×(List z0a)->Option ((List z0a))
 |0,_=>none
 |d+1,b =>
  cnd (decide (b.1<((a0.map z09).length:Int)))
   (reg <| idx a0 b.1 fun e =>
   cnd (!decide (e.fScope=a1))
    (idx a0 b.1 fun f =>
    app b.2 [f] 16 fun g =>
    (z44 n a1 a0 c d) ((IntKind.wrap .i64 (b.1+1)),g))
   <| (z44 n a1 a0 c d) ((IntKind.wrap .i64 (b.1+1)),b.2))
  <| c b.2
def z91 (n:Nat)(a0:(List z0a))(a1:Int):Option ((List z0a)) :=
 z44 n a1 a0
  (fun b=>some b) n (0,[])
def z43 (n:Nat)(a2:Int)(a1:Int)(x1:(List z0a))(b:Int×(List z0a))(c:(List z0a)->Int->(List z0a)->Option ((List z0a)))(d:(Int×(List z0a))->Option ((List z0a)))(e:Bool):Option ((List z0a)) :=
 cnd (e)
  (idx x1 b.1 fun f =>
  app b.2 [f] 16 fun g =>
  d ((IntKind.wrap .i64 (b.1+1)),g))
 <| c x1 b.1 b.2
def z2y (n:Nat)(a2:Int)(a1:Int)(x1:(List z0a))(b:(List z0a)->Int->(List z0a)->Option ((List z0a))):Nat->Int×(List z0a)->Option ((List z0a))
 |0,_=>none
 |d+1,c =>
  jon (z43 n a2 a1 x1 c b (z2y n a2 a1 x1 b d)) <|
  reg <| cnd (decide (c.1<((x1.map z09).length:Int)))
   (idx x1 c.1 fun e =>
   z43 n a2 a1 x1 c b (z2y n a2 a1 x1 b d) (decide (e.fScope<a1)))
  <| z43 n a2 a1 x1 c b (z2y n a2 a1 x1 b d) false
def zb1 (n:Nat)(a0:(List z0a))(a1:Int)(a2:Int):Option ((List z0a)) :=
 bnd (z91 n a0 a1) fun x1 =>
 z2y n a2 a1 x1
  (fun b c d=>app d ([⟨a1,a2⟩]) 16 fun e =>
 sls b c ((b.map z09).length:Int) fun f =>
 app e f 16 fun g =>
 some g) n (0,[])
def z8e (n:Nat)(a2:Int)(a1:z1g)(a0:(List z0a))(c:Option (Bool)):Nat->Int->Option (Bool)
 |0,_=>none
 |d+1,b =>
  cnd (decide (b<((a0.map z09).length:Int)))
   (idx a0 b fun e =>
   cnd (decide (e.fScope=a1.fScope))
    (idx a0 b fun f =>
    some (decide ((IntKind.wrap .i64 (a2-f.fTime))<=a1.fSpan)))
   <| (z8e n a2 a1 a0 c d) (IntKind.wrap .i64 (b+1)))
  <| c
def zc5 (n:Nat)(a0:(List z0a))(a1:z1g)(a2:Int):Option (Bool) :=
 z8e n a2 a1 a0
  (some false) n 0
def z5g (n:Nat)(a3:z0t)(d:(List z0h))(c:(List z0a)->Option (z00×Bool)):Nat->Int×(List z0a)->Option (z00×Bool)
 |0,_=>none
 |e+1,b =>
  cnd (decide (b.1<((a3.fCloses.map aI).length:Int)))
   (idx a3.fCloses b.1 fun f =>
   bnd (z91 n b.2 f) fun g =>
   (z5g n a3 d c e) ((IntKind.wrap .i64 (b.1+1)),g))
  <| c b.2
def z5h (n:Nat)(a3:z0t)(d:(List z0a))(e:(List z0h))(f:z0i)(b:(List z0h)->Option (z00×Bool)):Nat->Int->Option (z00×Bool)
 |0,_=>none
 |g+1,c =>
  cnd (decide (c<((a3.fChecks.map idA).length:Int)))
   (idxD z1z a3.fChecks c fun h =>
   bnd (z31 n h (⟨f.fVars⟩:z0i) (-1) (⟨0,0,0,0,[]⟩:z03)) fun j =>
   cnd (!(j))
    (some (⟨0,[],[]⟩,false))
   <| (z5h n a3 d e f b g) (IntKind.wrap .i64 (c+1)))
  <| b e
def z5i (n:Nat)(a4:z03)(a3:z0t)(a2:z00)(a1:(List z03))(b:(List z0a))(c:Option (z00×Bool)):Nat->Int->Option (z00×Bool)
 |0,_=>none
 |e+1,d =>
  cnd (decide (d<((a3.fLimits.map z27).length:Int)))
   (idx a3.fLimits d fun f =>
   bnd (zc5 n b f a4.fTime) fun g =>
   cnd (!(g))
    (some (⟨0,[],[]⟩,false))
   <| (z5i n a4 a3 a2 a1 b c e) (IntKind.wrap .i64 (d+1)))
  <| c
def z5j (n:Nat)(a4:z03)(a3:z0t)(a2:z00)(a1:(List z03))(c:(List z0a)->Option (z00×Bool)):Nat->Int×(List z0a)->Option (z00×Bool)
 |0,_=>none
 |d+1,b =>
  cnd (decide (b.1<((a3.fOpens.map aI).length:Int)))
   (idx a3.fOpens b.1 fun e =>
   bnd (zb1 n b.2 e a4.fTime) fun f =>
   (z5j n a4 a3 a2 a1 c d) ((IntKind.wrap .i64 (b.1+1)),f))
  <| c b.2
def z18 (n:Nat)(a4:z03)(a3:z0t)(a2:z00)(a1:(List z03))(g:Bool):Option (z00×Bool) :=
 cnd (g)
  (some (⟨0,[],[]⟩,false))
 <| z5j n a4 a3 a2 a1
  (fun b=>z5i n a4 a3 a2 a1 b
  (app ([]:List z0h) a2.fBindings 32 fun h =>
 bnd (z9q n a4) fun d =>
 bldS ([⟨a3.fVar,⟨d.fTime,d.fSource,d.fSeq⟩⟩]:List z0h) fun j =>
 app h j 32 fun f =>
 frz 125 <| reg <| bld ([a4]:List z03) fun k =>
 app k a1 56 fun l =>
 bnd (z9n n l (⟨a3.fTo,f,b⟩:z00)) fun o =>
 z5h n a3 b f o
  (fun c=>z5g n a3 c
  (fun e=>some (⟨a3.fTo,c,e⟩,true)) n (0,b)) n 0) n 0) n (0,a2.fStarts)
def z3i (n:Nat)(a4:z03)(a3:z0t)(a2:z00)(a1:(List z03))(x1:z0i)(x2:zem)(c:Int)(b:Int->Option (z00×Bool))(d:Bool):Option (z00×Bool) :=
 cnd (d)
  (some (⟨0,[],[]⟩,false))
 <| b (IntKind.wrap .i64 (c+1))
def z2l (n:Nat)(a4:z03)(a3:z0t)(a2:z00)(a1:(List z03))(x1:z0i)(x2:zem)(b:(List (List z03))->Option (z00×Bool)):Nat->Int->Option (z00×Bool)
 |0,_=>none
 |d+1,c =>
  cnd (decide (c<((x2.fGuards.map z0u).length:Int)))
   (jon (z3i n a4 a3 a2 a1 x1 x2 c (z2l n a4 a3 a2 a1 x1 x2 b d)) <|
   reg <| idx x2.fGuards c fun e =>
   bnd (zd6 n a3.fInside e.fScope) fun f =>
   cnd (!(f))
    (idx x2.fGuards c fun g =>
    bnd (z7f n g (⟨x1.fVars⟩:z0i) a4) fun h =>
    z3i n a4 a3 a2 a1 x1 x2 c (z2l n a4 a3 a2 a1 x1 x2 b d) h)
   <| z3i n a4 a3 a2 a1 x1 x2 c (z2l n a4 a3 a2 a1 x1 x2 b d) false)
  <| b x1.fVars
def z5t (n:Nat)(a0:z07)(a1:(List z03))(a2:z00)(a3:z0t)(a4:z03):Option (z00×Bool) :=
 bnd (z9n n a1 a2) fun x1 =>
 idx a0.fStates a2.fState fun x2 =>
 z2l n a4 a3 a2 a1 x1 x2
  (fun b=>jon (z18 n a4 a3 a2 a1) <|
 reg <| cnd (!decide (a3.fType=a4.fType))
  (z18 n a4 a3 a2 a1 true)
 <| bnd (z31 n a3.fCond (⟨b⟩:z0i) a3.fVar a4) fun c =>
 z18 n a4 a3 a2 a1 !(c)) n 0
def z71 (n:Nat)(a1:z06)(a0:(List z06))(b:Int)(c:Bool):Option ((List z06)) :=
 cnd (c)
  (some a0)
 <| sls a0 0 b fun d =>
 app ([]:List z06) d 24 fun e =>
 app e [⟨a1.fBindings⟩] 24 fun f =>
 sls a0 b ((a0.map z0d).length:Int) fun g =>
 app f g 24 fun h =>
 some h
def z6z (n:Nat)(a1:z06)(a0:(List z06))(b:Int)(c:Int->Option ((List z06)))(d:Int->Option ((List z06)))(e:Bool):Option ((List z06)) :=
 cnd (e)
  (d (IntKind.wrap .i64 (b+1)))
 <| c b
def z4m (n:Nat)(a1:z06)(a0:(List z06))(b:Int->Option ((List z06))):Nat->Int->Option ((List z06))
 |0,_=>none
 |d+1,c =>
  jon (z6z n a1 a0 c b (z4m n a1 a0 b d)) <|
  reg <| cnd (decide (c<((a0.map z0d).length:Int)))
   (idx a0 c fun e =>
   bnd (z5x n (⟨e.fBindings⟩:z06) (⟨a1.fBindings⟩:z06)) fun f =>
   z6z n a1 a0 c b (z4m n a1 a0 b d) (decide (f<0)))
  <| z6z n a1 a0 c b (z4m n a1 a0 b d) false
def z9o (n:Nat)(a0:(List z06))(a1:z06):Option ((List z06)) :=
 z4m n a1 a0
  (fun b=>jon (z71 n a1 a0 b) <|
 reg <| cnd (decide (b<((a0.map z0d).length:Int)))
  (idx a0 b fun c =>
  bnd (z5x n (⟨c.fBindings⟩:z06) (⟨a1.fBindings⟩:z06)) fun d =>
  z71 n a1 a0 b (decide (d=0)))
 <| z71 n a1 a0 b false) n 0
def z4j (n:Nat)(a3:z03)(a2:z00)(a1:(List z03))(a0:z07)(x4:(List z0t))(c:(List z00)->(List z06)->Option ((List z00)×(List z06))):Nat->(List z00)×(List z06)×Int->Option ((List z00)×(List z06))
 |0,_=>none
 |d+1,b =>
  cnd (decide (b.2.2<((x4.map z0w).length:Int)))
   (idx x4 b.2.2 fun f =>
   bnd (z5t n a0 a1 a2 f a3) fun e =>
   cnd (!(e.2))
    ((z4j n a3 a2 a1 a0 x4 c d) (b.1,b.2.1,(IntKind.wrap .i64 (b.2.2+1))))
   <| reg <| cnd (decide (e.1.fState<0))
    (bnd (z9o n b.2.1 (⟨e.1.fBindings⟩:z06)) fun g =>
    (z4j n a3 a2 a1 a0 x4 c d) (b.1,g,(IntKind.wrap .i64 (b.2.2+1))))
   <| bnd (z9m n b.1 e.1) fun h =>
   (z4j n a3 a2 a1 a0 x4 c d) (h,b.2.1,(IntKind.wrap .i64 (b.2.2+1))))
  <| c b.1 b.2.1
def z6w (n:Nat)(a3:z03)(a2:z00)(a1:(List z03))(a0:z07)(d:(List z00)):Option ((List z00)×(List z06)) :=
 bnd (zc8 n a0 a2.fState) fun x4 =>
 z4j n a3 a2 a1 a0 x4
  (fun b c=>some (b,c)) n (d,[],0)
def zd7 (n:Nat)(a0:z07)(a1:(List z03))(a2:z00)(a3:z03):Option ((List z00)×(List z06)) :=
 jon (z6w n a3 a2 a1 a0) <|
 reg <| bnd (zbn n a0 a1 a2 a3) fun b =>
 cnd (b)
  (bnd (z9m n [] a2) fun c =>
  z6w n a3 a2 a1 a0 c)
 <| z6w n a3 a2 a1 a0 []
def z92 (n:Nat)(a3:z03)(a2:(List z00))(a1:(List z03))(a0:z07)(g:(List z00)×(List z06)×Int)(e:(List z00))(b:(List z06))(d:(List z06)->Option ((List z00)×(List z06))):Nat->(List z06)×Int->Option ((List z00)×(List z06))
 |0,_=>none
 |f+1,c =>
  cnd (decide (c.2<((b.map z0d).length:Int)))
   (idx b c.2 fun h =>
   bnd (z9o n c.1 (⟨h.fBindings⟩:z06)) fun j =>
   (z92 n a3 a2 a1 a0 g e b d f) (j,(IntKind.wrap .i64 (c.2+1))))
  <| d c.1
def z93 (n:Nat)(a3:z03)(a2:(List z00))(a1:(List z03))(a0:z07)(f:(List z00)×(List z06)×Int)(d:(List z00)×(List z06))(c:(List z00)->(List z06)->Option ((List z00)×(List z06))):Nat->(List z00)×Int->Option ((List z00)×(List z06))
 |0,_=>none
 |e+1,b =>
  cnd (decide (b.2<((d.1.map z01).length:Int)))
   (idx d.1 b.2 fun g =>
   bnd (z9m n b.1 g) fun h =>
   (z93 n a3 a2 a1 a0 f d c e) (h,(IntKind.wrap .i64 (b.2+1))))
  <| c b.1 d.2
def z94 (n:Nat)(a3:z03)(a2:(List z00))(a1:(List z03))(a0:z07)(d:(List z00)->(List z06)->Option ((List z00)×(List z06))):Nat->(List z00)×(List z06)×Int->Option ((List z00)×(List z06))
 |0,_=>none
 |g+1,b =>
  cnd (decide (b.2.2<((a2.map z01).length:Int)))
   (idx a2 b.2.2 fun h =>
   bnd (zd7 n a0 a1 h a3) fun j =>
   z93 n a3 a2 a1 a0 b j
    (fun c e=>z92 n a3 a2 a1 a0 b c e
    (fun f=>(z94 n a3 a2 a1 a0 d g) (c,f,(IntKind.wrap .i64 (b.2.2+1)))) n (b.2.1,0)) n (b.1,0))
  <| d b.1 b.2.1
def zd8 (n:Nat)(a0:z07)(a1:(List z03))(a2:(List z00))(a3:z03):Option ((List z00)×(List z06)) :=
 z94 n a3 a2 a1 a0
  (fun b c=>some (b,c)) n ([],[],0)
def z47 (n:Nat)(a2:Int)(a1:(List z03))(a0:z07)(e:(List z00)×(List z06)×Int)(d:((List z00)×(List z06)×Int)->Option ((List z00)×(List z06)×Bool))(b:(List z06))(c:(List z00))(f:Bool):Option ((List z00)×(List z06)×Bool) :=
 cnd (f)
  (some ([],[],false))
 <| d (c,b,(IntKind.wrap .i64 (e.2.2+1)))
def z6f (n:Nat)(a2:Int)(a1:(List z03))(a0:z07)(f:(List z00)×(List z06)×Int)(d:(List z00)×(List z06))(c:(List z06)->(List z00)->Option ((List z00)×(List z06)×Bool)):Nat->(List z06)×Int->Option ((List z00)×(List z06)×Bool)
 |0,_=>none
 |e+1,b =>
  cnd (decide (b.2<((d.2.map z0d).length:Int)))
   (idx d.2 b.2 fun g =>
   bnd (z9o n b.1 (⟨g.fBindings⟩:z06)) fun h =>
   (z6f n a2 a1 a0 f d c e) (h,(IntKind.wrap .i64 (b.2+1))))
  <| c b.1 d.1
def z2z (n:Nat)(a2:Int)(a1:(List z03))(a0:z07)(e:(List z00)->(List z06)->Option ((List z00)×(List z06)×Bool)):Nat->(List z00)×(List z06)×Int->Option ((List z00)×(List z06)×Bool)
 |0,_=>none
 |f+1,b =>
  cnd (decide (b.2.2<((a1.map z02).length:Int)))
   (idx a1 b.2.2 fun g =>
   bnd (zd8 n a0 a1 b.1 g) fun h =>
   z6f n a2 a1 a0 b h
    (fun c d=>jon (z47 n a2 a1 a0 b (z2z n a2 a1 a0 e f) c d) <|
   reg <| cnd (decide (a2<((d.map z01).length:Int)))
    (z47 n a2 a1 a0 b (z2z n a2 a1 a0 e f) c d true)
   <| z47 n a2 a1 a0 b (z2z n a2 a1 a0 e f) c d (decide (a2<((c.map z0d).length:Int)))) n (b.2.1,0))
  <| e b.1 b.2.1
def zb2 (n:Nat)(a0:z07)(a1:(List z03))(a2:Int):Option ((List z00)×(List z06)×Bool) :=
 bnd (ze3 n) fun x1 =>
 z2z n a2 a1 a0
  (fun b c=>some (b,c,true)) n ([x1],[],0)
def z4u (n:Nat)(a1:(List z03))(a0:z07)(b:Bool):Option (Bool) :=
 cnd (b)
  (some false)
 <| bnd (z2q n a0 a1) fun x4 =>
 cnd (!decide (x4=0))
  (some true)
 <| bnd (zb2 n a0 a1 150) fun x5 =>
 some x5.2.2
def z9t (n:Nat)(a0:z07)(a1:(List z03)):Option (Bool) :=
 jon (z4u n a1 a0) <|
 reg <| bnd (zda n a0) fun x6 =>
 cnd (!(x6))
  (z4u n a1 a0 true)
 <| bnd (zdc n a1) fun x7 =>
 z4u n a1 a0 !(x7)
def z6q (n:Nat)(a0:z07)(a1:(List z03)):Option (Int) :=
 bnd (z5c n a0) fun x1 =>
 cnd (!decide (x1=0))
  (some x1)
 <| bnd (za0 n a1) fun x2 =>
 some x2
def z61 (n:Nat)(b:Bool):Option (Bool) :=
 some b
def zcb (n:Nat)(a0:z07)(a1:(List z03)):Option (Bool) :=
 jon (z61 n) <|
 reg <| bnd (z9t n a0 a1) fun x4 =>
 cnd (x4)
  (bnd (z6q n a0 a1) fun x5 =>
  z61 n (decide (x5=0)))
 <| z61 n false
def z8t (n:Nat):Option (z07) :=
 bnd (z1k n true) fun x1 =>
 mak 2 24 (⟨[]⟩:zem) fun x2 =>
 some (⟨2,0,x2,[⟨0,1,0,0,⟨0,[],0,0,0,x1⟩,[],[],[],[],[]⟩,⟨1,(-1),1,1,⟨0,[],0,0,0,x1⟩,[],[],[],[],[]⟩]⟩)
structure z0n where
 fSets:(List (List z00))
deriving DecidableEq,Inhabited
structure z9s where
 fsource:Int
 fseq:Int
deriving DecidableEq,Inhabited
def zb9 (x:z9s):AV:=.agg [aI (x.fsource),aI (x.fseq)]
def zgg (n:Nat)(a0:z03):Option (Bool) :=
 cnd (decide (0<=a0.fTime))
  (cnd (decide (a0.fTime<=1099511627776))
    (cnd (decide (0<=a0.fSource))
      (cnd (decide (a0.fSource<8))
        (cnd (decide (0<=a0.fSeq))
          (some (decide (a0.fSeq<=1099511627776)))
        <| some false)
      <| some false)
    <| some false)
  <| some false)
 <| some false
def zjw (n:Nat)(a0:z03):Option (z1f) :=
 some (⟨a0.fTime,a0.fSource,a0.fSeq⟩)
def zgo (n:Nat)(a0:z03)(a1:z03):Option (Int) :=
 bnd (zjw n a0) fun x1 =>
 bnd (zjw n a1) fun x2 =>
 cnd ((decide (x1.fTime=x2.fTime) && (decide (x1.fSource=x2.fSource) && (decide (x1.fSeq=x2.fSeq) && true))))
  (some 0)
 <| bnd (z3e n a0.fTime a1.fTime) fun x3 =>
 bnd (z3e n a0.fSource a1.fSource) fun x4 =>
 bnd (z3e n a0.fSeq a1.fSeq) fun x5 =>
 bnd (zhb n ([x3,x4,x5])) fun x6 =>
 some x6
def zhg (n:Nat)(a0:z03):Option (z9s) :=
 some (⟨a0.fSource,a0.fSeq⟩)
def zbb (n:Nat)(a0:(List z03))(c:Option (Int)):Nat->Int×(List (z9s×Bool))->Option (Int)
 |0,_=>none
 |e+1,b =>
  cnd (decide (b.1<((a0.map z02).length:Int)))
   (idx a0 b.1 fun d =>
   bnd (zgg n d) fun f =>
   cnd (!(f))
    (some 2)
   <| cnd (decide (0<b.1))
    (idx a0 (IntKind.wrap .i64 (b.1-1)) fun g =>
    bnd (zgo n g d) fun h =>
    cnd (decide (0<=h))
     (some 14)
    <| bnd (zhg n d) fun j =>
    mgt b.2 j (false:Bool) fun k u =>
    cnd (k)
     (some 7)
    <| bnd (zhg n d) fun l =>
    mst b.2 l true fun o =>
    (zbb n a0 c e) ((IntKind.wrap .i64 (b.1+1)),o))
   <| bnd (zhg n d) fun p =>
   mgt b.2 p (false:Bool) fun q v =>
   cnd (q)
    (some 7)
   <| bnd (zhg n d) fun s =>
   mst b.2 s true fun t =>
   (zbb n a0 c e) ((IntKind.wrap .i64 (b.1+1)),t))
  <| c
def zfs (n:Nat)(a0:(List z03)):Option (Int) :=
 cnd (decide (4096<((a0.map z02).length:Int)))
  (some 5)
 <| zbb n a0
  (some 0) n (0,[])
def z8x (n:Nat)(a0:z07)(a1:(List z03)):Option (Int) :=
 bnd (zbg n a0) fun x1 =>
 cnd (!decide (x1=0))
  (some x1)
 <| bnd (zfs n a1) fun x2 =>
 some x2
def zfl (n:Nat):Option (z00) :=
 some (⟨0,[],[]⟩)
structure z0m where
 fa:z07
 fheld:(List (z1f×z03))
deriving Inhabited
def zfv (n:Nat)(a1:(List z03))(a0:z07)(c:(List (z1f×z03))->Option ((Option z0m)×Int)):Nat->Int×(List (z1f×z03))->Option ((Option z0m)×Int)
 |0,_=>none
 |e+1,b =>
  cnd (decide (b.1<((a1.map z02).length:Int)))
   (idx a1 b.1 fun f =>
   bnd (zih n f) fun d =>
   mst b.2 (⟨d.fTime,d.fSource,d.fSeq⟩:z1f) f fun g =>
   (zfv n a1 a0 c e) ((IntKind.wrap .i64 (b.1+1)),g))
  <| c b.2
def zeo (n:Nat)(a0:z07)(a1:(List z03)):Option ((Option z0m)×Int) :=
 bnd (zbg n a0) fun x1 =>
 cnd (!decide (x1=0))
  (some (none,x1))
 <| bnd (zfs n a1) fun x2 =>
 cnd (!decide (x2=0))
  (some (none,x2))
 <| zfv n a1 a0
  (fun b=>some ((some ⟨a0,b⟩),0)) n (0,[])
def z68 (n:Nat)(a1:z00)(a0:z0m)(d:Int)(b:Int->Option (Int))(c:Bool):Option (Int) :=
 cnd (c)
  (some 14)
 <| b (IntKind.wrap .i64 (d+1))
def z2v (n:Nat)(a1:z00)(a0:z0m)(b:Int)(c:Int->Option (Int))(e:z0a)(d:Bool):Option (Int) :=
 cnd (d)
  (some 2)
 <| jon (z68 n a1 a0 b c) <|
 reg <| cnd (decide (0<b))
  (idx a1.fStarts (IntKind.wrap .i64 (b-1)) fun f =>
  z68 n a1 a0 b c (decide (e.fScope<=f.fScope)))
 <| z68 n a1 a0 b c false
def z2j (n:Nat)(a1:z00)(a0:z0m)(b:Option (Int)):Nat->Int->Option (Int)
 |0,_=>none
 |d+1,c =>
  cnd (decide (c<((a1.fStarts.map z09).length:Int)))
   (idx a1.fStarts c fun e =>
   jon (z2v n a1 a0 c (z2j n a1 a0 b d) e) <|
   reg <| cnd (decide (e.fScope<0))
    (z2v n a1 a0 c (z2j n a1 a0 b d) e true)
   <| cnd (decide (a0.fa.fScopes<=e.fScope))
    (z2v n a1 a0 c (z2j n a1 a0 b d) e true)
   <| cnd (decide (e.fTime<0))
    (z2v n a1 a0 c (z2j n a1 a0 b d) e true)
   <| z2v n a1 a0 c (z2j n a1 a0 b d) e (decide (1099511627776<e.fTime)))
  <| b
def z65 (n:Nat)(a1:z00)(a0:z0m)(d:Int)(b:Int->Option (Int))(e:Bool)(c:Bool):Option (Int) :=
 cnd (c)
  (some 14)
 <| cnd (!(e))
  (some 6)
 <| b (IntKind.wrap .i64 (d+1))
def z67 (n:Nat)(a1:z00)(a0:z0m)(b:Int)(c:Int->Option (Int))(d:z0h)(e:Bool)(g:Bool):Option (Int) :=
 cnd (g)
  (some 2)
 <| jon (z65 n a1 a0 b c e) <|
 reg <| cnd (decide (0<b))
  (idx a1.fBindings (IntKind.wrap .i64 (b-1)) fun f =>
  bnd (zi5 n (⟨f.fRef.fTime,f.fRef.fSource,f.fRef.fSeq⟩:z1f) (⟨d.fRef.fTime,d.fRef.fSource,d.fRef.fSeq⟩:z1f)) fun h =>
  z65 n a1 a0 b c e (decide (0<=h)))
 <| z65 n a1 a0 b c e false
def z4o (n:Nat)(a1:z00)(a0:z0m)(b:Option (Int)):Nat->Int->Option (Int)
 |0,_=>none
 |e+1,d =>
  cnd (decide (d<((a1.fBindings.map z0b).length:Int)))
   (idx a1.fBindings d fun c =>
   mgv a0.fheld (⟨c.fRef.fTime,c.fRef.fSource,c.fRef.fSeq⟩:z1f) (⟨0,0,0,0,[]⟩:z03) fun g f =>
   jon (z67 n a1 a0 d (z4o n a1 a0 b e) c f) <|
   reg <| cnd (decide (c.fVar<0))
    (z67 n a1 a0 d (z4o n a1 a0 b e) c f true)
   <| z67 n a1 a0 d (z4o n a1 a0 b e) c f (decide (a0.fa.fVars<=c.fVar)))
  <| b
def z75 (n:Nat)(a1:z00)(a0:z0m)(b:Bool):Option (Int) :=
 cnd (b)
  (some 21)
 <| cnd (decide (4096<=((a1.fBindings.map z0b).length:Int)))
  (some 5)
 <| z4o n a1 a0
  (z2j n a1 a0
  (some 0) n 0) n 0
def z69 (n:Nat)(a0:z0m)(a1:z00):Option (Int) :=
 jon (z75 n a1 a0) <|
 reg <| cnd (decide (a1.fState<0))
  (z75 n a1 a0 true)
 <| z75 n a1 a0 (decide (((a0.fa.fStates.map z0q).length:Int)<=a1.fState))
def ze7 (n:Nat)(a0:z0m)(a1:z00)(a2:z03):Option (z0m×z00×z03) :=
 some (a0,a1,a2)
def z7u (n:Nat)(a0:z00)(m0:(List z00))(m1:(List z06)):Option ((List z00)×(List z06)) :=
 cnd (decide (a0.fState<0))
  (app m1 [⟨a0.fBindings⟩] 24 fun x3 =>
  some (m0,x3))
 <| app m0 [a0] 56 fun x4 =>
 some (x4,m1)
def zap (n:Nat)(a1:(List z0h))(a0:z0m)(x1:Nat)(d:(List (List z03))->Option (z0i)):Nat->Int×(List (List z03))->Option (z0i)
 |0,_=>none
 |e+1,b =>
  cnd (decide (b.1<((a1.map z0b).length:Int)))
   (idx a1 b.1 fun c =>
   ncx c.fVar x1 <|
   ntk b.2 (Int.toNat c.fVar) fun f =>
   mgv a0.fheld (⟨c.fRef.fTime,c.fRef.fSource,c.fRef.fSeq⟩:z1f) (⟨0,0,0,0,[]⟩:z03) fun g k =>
   app f [g] 56 fun h =>
   ncx c.fVar x1 <|
   npt b.2 (Int.toNat c.fVar) h fun j =>
   (zap n a1 a0 x1 d e) ((IntKind.wrap .i64 (b.1+1)),j))
  <| d b.2
def zf5 (n:Nat)(a0:z0m)(a1:(List z0h)):Option (z0i) :=
 mkn a0.fa.fVars 24 fun x1 =>
 nst 13 <| reg <| zap n a1 a0 x1
  (fun b=>frr 13 <| reg <| some ⟨b⟩) n (0,(replicate (x1) ([]:List z03)))
def z3b (n:Nat)(a1:Int)(a0f2:z03)(a0f1:Int)(a0f0:z0i)(b:Bool):Option ((List z03)) :=
 cnd (b)
  (some [])
 <| idx a0f0.fVars a1 fun x2 =>
 some x2
def z7y (n:Nat)(a0f0:z0i)(a0f1:Int)(a0f2:z03)(a1:Int):Option ((List z03)) :=
 jon (z3b n a1 a0f2 a0f1 a0f0) <|
 reg <| cnd (decide (a1<0))
  (z3b n a1 a0f2 a0f1 a0f0 true)
 <| z3b n a1 a0f2 a0f1 a0f0 (decide ((((List.map (fun q=>AV.sl 5 (List.map z02 q)) (a0f0.fVars)).length:Nat):Int)<=a1))
def zgn (n:Nat)(a0:z03)(a1:Int):Option (z05×Int) :=
 cnd (decide (((a0.fValues.map z08).length:Int)<=a1))
  (some (⟨0,0,ByteArray.empty⟩,6))
 <| idx a0.fValues a1 fun x1 =>
 some (x1,0)
def z5q (n:Nat)(a1:z0s)(x1:(List z03))(c:(List z05)->Option (z05×Int)):Nat->Int×(List z05)->Option (z05×Int)
 |0,_=>none
 |e+1,b =>
  cnd (decide (b.1<((x1.map z02).length:Int)))
   (idx x1 b.1 fun f =>
   bnd (zgn n f a1.fField) fun d =>
   cnd (!decide (d.2=0))
    (some (⟨0,0,ByteArray.empty⟩,d.2))
   <| app b.2 [d.1] 32 fun g =>
   (z5q n a1 x1 c e) ((IntKind.wrap .i64 (b.1+1)),g))
  <| c b.2
def zco (n:Nat)(a0f0:z0i)(a0f1:Int)(a0f2:z03)(a1:z0s):Option (z05×Int) :=
 bnd (z7y n (⟨a0f0.fVars⟩:z0i) a0f1 a0f2 a1.fVar) fun x1 =>
 z5q n a1 x1
  (fun b=>bnd (zfy n a1.fKind b a1.fValue) fun c =>
 some (c.1,c.2)) n (0,[])
def z4c (n:Nat)(x9:z05×Int)(b:Int):Option (z05×Int) :=
 cnd (!decide (b=0))
  (some (⟨0,0,ByteArray.empty⟩,b))
 <| some (x9.1,0)
def z4d (n:Nat)(a1:z0s)(b:Int×Int×Int×Int×(List z05)):Option (z05×Int) :=
 cnd (decide (a1.fOp=2))
  (some (⟨0,b.2.2.2.1,ByteArray.empty⟩,0))
 <| bnd (zgn n (⟨b.1,b.2.1,b.2.2.1,b.2.2.2.1,b.2.2.2.2⟩:z03) a1.fField) fun x9 =>
 jon (z4c n x9) <|
 reg <| cnd (decide (x9.2=0))
  (bnd (zci n x9.1) fun c =>
  z4c n x9 c)
 <| z4c n x9 x9.2
def z9d (n:Nat)(a0f0:z0i)(a0f1:Int)(a0f2:z03)(a1:z0s):Option (z05×Int) :=
 bnd (z7y n (⟨a0f0.fVars⟩:z0i) a0f1 a0f2 a1.fVar) fun x1 =>
 cnd (decide (a1.fOp=0))
  (some (a1.fValue,0))
 <| cnd (decide (a1.fOp=3))
  (some (⟨0,((x1.map z02).length:Int),ByteArray.empty⟩,0))
 <| cnd (decide (a1.fOp=4))
  (bnd (zco n (⟨a0f0.fVars⟩:z0i) a0f1 a0f2 a1) fun x2 =>
  some (x2.1,x2.2))
 <| jon (z4d n a1) <|
 reg <| cnd (!decide (a1.fVar=a0f1))
  (cnd (decide (((x1.map z02).length:Int)=0))
    (some (⟨0,0,ByteArray.empty⟩,10))
  <| idx x1 (IntKind.wrap .i64 (((x1.map z02).length:Int)-1)) fun b =>
  z4d n a1 (b.fSource,b.fSeq,b.fType,b.fTime,b.fValues))
 <| z4d n a1 (a0f2.fSource,a0f2.fSeq,a0f2.fType,a0f2.fTime,a0f2.fValues)
def z8y (n:Nat)(a1:(List Int))(a0:Int)(c:Int)(b:Int->Option (Int))(d:Int)(e:Bool):Option (Int) :=
 cnd (e)
  (cnd (!(decide (d=1)))
    (some 9)
  <| b (IntKind.wrap .i64 (c+1)))
 <| reg <| cnd (decide (a0=9))
  (idx a1 0 fun f =>
  cnd (!(decide (d=f)))
   (some 9)
  <| b (IntKind.wrap .i64 (c+1)))
 <| b (IntKind.wrap .i64 (c+1))
def z7e (n:Nat)(a1:(List Int))(a0:Int)(c:Int)(b:Int->Option (Int))(d:Int)(e:Bool):Option (Int) :=
 cnd (e)
  (cnd (!(decide (d=0)))
    (some 9)
  <| b (IntKind.wrap .i64 (c+1)))
 <| jon (z8y n a1 a0 c b d) <|
 reg <| cnd (decide (a0=10))
  (z8y n a1 a0 c b d (decide (a0=10)))
 <| reg <| cnd (decide (a0=11))
  (z8y n a1 a0 c b d (decide (a0=11)))
 <| z8y n a1 a0 c b d (decide (a0=12))
def z59 (n:Nat)(a1:(List Int))(a0:Int)(b:Option (Int)):Nat->Int->Option (Int)
 |0,_=>none
 |d+1,c =>
  cnd (decide (c<((a1.map aI).length:Int)))
   (idx a1 c fun e =>
   jon (z7e n a1 a0 c (z59 n a1 a0 b d) e) <|
   reg <| cnd (decide (a0=5))
    (z7e n a1 a0 c (z59 n a1 a0 b d) e (decide (a0=5)))
   <| reg <| cnd (decide (a0=6))
    (z7e n a1 a0 c (z59 n a1 a0 b d) e (decide (a0=6)))
   <| reg <| cnd (decide (a0=7))
    (z7e n a1 a0 c (z59 n a1 a0 b d) e (decide (a0=7)))
   <| z7e n a1 a0 c (z59 n a1 a0 b d) e (decide (a0=8)))
  <| b
def zhr (n:Nat)(a0:Int)(a1:(List Int)):Option (Int) :=
 z59 n a1 a0
  (some 0) n 0
def zkw (n:Nat)(a0:Bool):Option (z05) :=
 cnd (a0)
  (some (⟨1,1,ByteArray.empty⟩))
 <| some (⟨1,0,ByteArray.empty⟩)
def zai (n:Nat)(a0:Bool):Option (z05) :=
 bnd (zkw n a0) fun x1 =>
 some x1
def zdp (n:Nat)(a0:Int):Option (z05) :=
 some (⟨0,a0,ByteArray.empty⟩)
def zdo (n:Nat)(a0:Int)(a1:Int):Option (z05) :=
 bnd (zdp n (IntKind.wrap .i64 (a0+a1))) fun x1 =>
 some x1
def zdn (n:Nat)(a0:Int)(a1:Int):Option (z05) :=
 bnd (zdp n (IntKind.wrap .i64 (a0-a1))) fun x1 =>
 some x1
def zdm (n:Nat)(a0:Int)(a1:Int):Option (z05) :=
 bnd (zai n (decide (a0<a1))) fun x1 =>
 some x1
def zdl (n:Nat)(a0:Int)(a1:Int):Option (z05) :=
 bnd (zai n (decide (a0<=a1))) fun x1 =>
 some x1
def z79 (n:Nat)(b:Int×Int×ByteArray):Option (z05) :=
 some (⟨b.1,b.2.1,b.2.2⟩)
def zdk (n:Nat)(a0:Int)(a1:Int):Option (z05) :=
 jon (z79 n) <|
 reg <| cnd (decide (a0=1))
  (bnd (zai n (decide (a1=1))) fun x6 =>
  z79 n (x6.fKind,x6.fNum,x6.fText))
 <| bnd (zai n false) fun x7 =>
 z79 n (x7.fKind,x7.fNum,x7.fText)
def z78 (n:Nat)(b:Int×Int×ByteArray):Option (z05) :=
 some (⟨b.1,b.2.1,b.2.2⟩)
def zdj (n:Nat)(a0:Int)(a1:Int):Option (z05) :=
 jon (z78 n) <|
 reg <| cnd (decide (a0=1))
  (bnd (zai n true) fun x6 =>
  z78 n (x6.fKind,x6.fNum,x6.fText))
 <| bnd (zai n (decide (a1=1))) fun x7 =>
 z78 n (x7.fKind,x7.fNum,x7.fText)
def z9r (n:Nat)(a0:Int)(a1:Int):Option (z05) :=
 bnd (zai n (!decide (a0=1))) fun x1 =>
 some x1
def z6p (n:Nat)(b:z0i->Int->z03->z0s->Option (z05×Int))(a1:z0s)(a0f2:z03)(a0f1:Int)(a0f0:z0i)(d:(List z05)->(List Int)->Option (z05×Int)):Nat->Int×(List z05)×(List Int)->Option (z05×Int)
 |0,_=>none
 |f+1,c =>
  cnd (decide (c.1<((a1.fArgs.map idA).length:Int)))
   (idxD z1z a1.fArgs c.1 fun g =>
   bnd (b (⟨a0f0.fVars⟩:z0i) a0f1 a0f2 g) fun e =>
   cnd (!decide (e.2=0))
    (some (⟨0,0,ByteArray.empty⟩,e.2))
   <| app c.2.1 [e.1] 32 fun h =>
   app c.2.2 [e.1.fKind] 8 fun j =>
   (z6p n b a1 a0f2 a0f1 a0f0 d f) ((IntKind.wrap .i64 (c.1+1)),h,j))
  <| d c.2.1 c.2.2
def z3d:Nat->z0i->Int->z03->z0s->Option (z05×Int)
 |0,_,_,_,_=>none
 |n+1,a0f0,a0f1,a0f2,a1 =>
 cnd (decide (((a1.fArgs.map idA).length:Int)=0))
  (bnd (z9d n (⟨a0f0.fVars⟩:z0i) a0f1 a0f2 a1) fun x1 =>
  some (x1.1,x1.2))
 <| z6p n (z3d n) a1 a0f2 a0f1 a0f0
  (fun b c=>bnd (zhr n a1.fOp c) fun f =>
 cnd (!decide (f=0))
  (some (⟨0,0,ByteArray.empty⟩,f))
 <| cnd (decide (a1.fOp=9))
  (nat 0 (b.map z08).length fun z =>
  elt b z fun d =>
  nat 1 (b.map z08).length fun ba =>
  elt b ba fun e =>
  bnd (zai n (decide (d.fKind=e.fKind) && (decide (d.fNum=e.fNum) && ((d.fText.toList == e.fText.toList) && true)))) fun bb =>
  some (bb,0))
 <| natc a1.fOp 5
  (nat 0 (b.map z08).length fun g =>
 ltx g (b.map z08).length <| elt b g fun bc =>
 nat (IntKind.wrap .i64 (((b.map z08).length:Int)-1)) (b.map z08).length fun h =>
 ltx h (b.map z08).length <| elt b h fun bd =>
 bnd (zdo n bc.fNum bd.fNum) fun be =>
 some (be,0))
 <| natc a1.fOp 6
  (nat 0 (b.map z08).length fun j =>
 ltx j (b.map z08).length <| elt b j fun bf =>
 nat (IntKind.wrap .i64 (((b.map z08).length:Int)-1)) (b.map z08).length fun k =>
 ltx k (b.map z08).length <| elt b k fun bg =>
 bnd (zdn n bf.fNum bg.fNum) fun bh =>
 some (bh,0))
 <| natc a1.fOp 7
  (nat 0 (b.map z08).length fun l =>
 ltx l (b.map z08).length <| elt b l fun bi =>
 nat (IntKind.wrap .i64 (((b.map z08).length:Int)-1)) (b.map z08).length fun o =>
 ltx o (b.map z08).length <| elt b o fun bj =>
 bnd (zdm n bi.fNum bj.fNum) fun bk =>
 some (bk,0))
 <| natc a1.fOp 8
  (nat 0 (b.map z08).length fun p =>
 ltx p (b.map z08).length <| elt b p fun bl =>
 nat (IntKind.wrap .i64 (((b.map z08).length:Int)-1)) (b.map z08).length fun q =>
 ltx q (b.map z08).length <| elt b q fun bm =>
 bnd (zdl n bl.fNum bm.fNum) fun bn =>
 some (bn,0))
 <| natc a1.fOp 10
  (nat 0 (b.map z08).length fun s =>
 ltx s (b.map z08).length <| elt b s fun bo =>
 nat (IntKind.wrap .i64 (((b.map z08).length:Int)-1)) (b.map z08).length fun t =>
 ltx t (b.map z08).length <| elt b t fun bp =>
 bnd (zdk n bo.fNum bp.fNum) fun bq =>
 some (bq,0))
 <| natc a1.fOp 11
  (nat 0 (b.map z08).length fun u =>
 ltx u (b.map z08).length <| elt b u fun br =>
 nat (IntKind.wrap .i64 (((b.map z08).length:Int)-1)) (b.map z08).length fun v =>
 ltx v (b.map z08).length <| elt b v fun bs =>
 bnd (zdj n br.fNum bs.fNum) fun bt =>
 some (bt,0))
 <| natc a1.fOp 12
  (nat 0 (b.map z08).length fun w =>
 ltx w (b.map z08).length <| elt b w fun bu =>
 nat (IntKind.wrap .i64 (((b.map z08).length:Int)-1)) (b.map z08).length fun y =>
 ltx y (b.map z08).length <| elt b y fun bv =>
 bnd (z9r n bu.fNum bv.fNum) fun bw =>
 some (bw,0))
 <| none) n (0,[],[])
def zox (n:Nat)(a0:z0s)(a1:z0i)(a2:Int)(a3:z03):Option (z05×Int) :=
 bnd (zeb n a0) fun x1 =>
 cnd (!decide (x1=0))
  (some (⟨0,0,ByteArray.empty⟩,x1))
 <| bnd (z3d n (⟨a1.fVars⟩:z0i) a2 a3 a0) fun x2 =>
 some (x2.1,x2.2)
def zdr (n:Nat)(b:Bool):Option (Bool) :=
 some b
def zff (n:Nat)(a0:z0s)(a1:z0i)(a2:Int)(a3:z03):Option (Bool) :=
 bnd (zox n a0 (⟨a1.fVars⟩:z0i) a2 a3) fun x1 =>
 jon (zdr n) <|
 reg <| cnd (decide (x1.2=0))
  (bnd (zai n true) fun x4 =>
  zdr n (decide (x1.1.fKind=x4.fKind) && (decide (x1.1.fNum=x4.fNum) && ((x1.1.fText.toList == x4.fText.toList) && true))))
 <| zdr n false
def zbc (n:Nat)(b:Bool):Option (Bool) :=
 some b
def zfu (n:Nat)(a0:z0v)(a1:z0i)(a2:z03):Option (Bool) :=
 jon (zbc n) <|
 reg <| cnd (decide (a0.fType=a2.fType))
  (bnd (zff n a0.fCond (⟨a1.fVars⟩:z0i) a0.fVar a2) fun x3 =>
  zbc n x3)
 <| zbc n false
def z4b (n:Nat)(a0:z0v)(a1:z0i)(a2:z03):Option (Bool) :=
 bnd (zfu n a0 (⟨a1.fVars⟩:z0i) a2) fun x1 =>
 some x1
def z5n (n:Nat)(d:z03)(e:z0i)(a0:(List z0v))(c:Option (Int)):Nat->Int->Option (Int)
 |0,_=>none
 |f+1,b =>
  cnd (decide (b<((a0.map z0u).length:Int)))
   (idx a0 b fun g =>
   bnd (z4b n g (⟨e.fVars⟩:z0i) d) fun h =>
   cnd (h)
    (some b)
   <| (z5n n d e a0 c f) (IntKind.wrap .i64 (b+1)))
  <| c
def zah (n:Nat)(a0:(List z0v))(b:z0i)(c:z03):Option (Int) :=
 z5n n c b a0
  (some (-1)) n 0
def z8r (n:Nat)(a0:(List z0v))(b:z0i)(c:z03):Option (Bool) :=
 bnd (zah n a0 (⟨b.fVars⟩:z0i) c) fun x1 =>
 some (decide (0<=x1))
def z3o (n:Nat)(b:Bool):Option (Bool) :=
 some b
def z3x (n:Nat)(a0:z0v)(a1:z0t)(a2:z0i)(a3:z03):Option (Bool) :=
 jon (z3o n) <|
 reg <| bnd (z8k n a1.fInside a0.fScope) fun x4 =>
 cnd (!(x4))
  (bnd (zfu n a0 (⟨a2.fVars⟩:z0i) a3) fun x5 =>
  z3o n x5)
 <| z3o n false
def z5m (n:Nat)(d:z03)(e:z0i)(f:z0t)(a0:(List z0v))(c:Option (Int)):Nat->Int->Option (Int)
 |0,_=>none
 |g+1,b =>
  cnd (decide (b<((a0.map z0u).length:Int)))
   (idx a0 b fun h =>
   bnd (z3x n h f (⟨e.fVars⟩:z0i) d) fun j =>
   cnd (j)
    (some b)
   <| (z5m n d e f a0 c g) (IntKind.wrap .i64 (b+1)))
  <| c
def zag (n:Nat)(a0:(List z0v))(b:z0t)(c:z0i)(d:z03):Option (Int) :=
 z5m n d c b a0
  (some (-1)) n 0
def z8q (n:Nat)(a0:(List z0v))(b:z0t)(c:z0i)(d:z03):Option (Bool) :=
 bnd (zag n a0 b (⟨c.fVars⟩:z0i) d) fun x1 =>
 some (decide (0<=x1))
def zen (n:Nat)(a0:z0a)(a1:Int):Option (Int) :=
 bnd (z3e n a0.fScope a1) fun x1 =>
 some x1
def z2u (n:Nat)(a1:Int)(a0:(List z0a))(c:Int->Option (Int×Bool)):Nat->Int×Int->Option (Int×Bool)
 |0,_=>none
 |d+1,b =>
  cnd (decide (b.1<b.2))
   (shx (1:Int) <| idx a0 (IntKind.wrap .i64 (Int.fdiv (IntKind.wrap .u64 (IntKind.wrap .i64 (b.1+b.2))) (2 ^ min (Int.toNat (1:Int)) (IntKind.bits .u64)))) fun e =>
   bnd (zen n e a1) fun f =>
   cnd (decide (f<0))
    ((z2u n a1 a0 c d) ((IntKind.wrap .i64 ((IntKind.wrap .i64 (Int.fdiv (IntKind.wrap .u64 (IntKind.wrap .i64 (b.1+b.2))) (2 ^ min (Int.toNat (1:Int)) (IntKind.bits .u64))))+1)),b.2))
   <| (z2u n a1 a0 c d) (b.1,(IntKind.wrap .i64 (Int.fdiv (IntKind.wrap .u64 (IntKind.wrap .i64 (b.1+b.2))) (2 ^ min (Int.toNat (1:Int)) (IntKind.bits .u64))))))
  <| c b.1
def z6n (n:Nat)(a0:(List z0a))(a1:Int):Option (Int×Bool) :=
 z2u n a1 a0
  (fun b=>cnd (decide (b<((a0.map z09).length:Int)))
  (idx a0 b fun c =>
  bnd (zen n c a1) fun d =>
  some (b,decide (d=0)))
 <| some (b,false)) n (0,((a0.map z09).length:Int))
def zdg (n:Nat)(a2:Int)(a1:(List Int))(e:Int×(List z0a))(c:(Int×(List z0a))->Option ((List z0a)))(f:Int×Bool)(b:(List z0a)):Option ((List z0a)) :=
 nat f.1 (b.map z09).length fun d =>
 ltx d (b.map z09).length <| stx b d (fun g=>⟨g.fScope,a2⟩) fun h =>
 c ((IntKind.wrap .i64 (e.1+1)),h)
def zbr (n:Nat)(a2:Int)(a1:(List Int))(c:(List z0a)->Option ((List z0a))):Nat->Int×(List z0a)->Option ((List z0a))
 |0,_=>none
 |d+1,b =>
  cnd (decide (b.1<((a1.map aI).length:Int)))
   (idx a1 b.1 fun f =>
   bnd (z6n n b.2 f) fun e =>
   jon (zdg n a2 a1 b (zbr n a2 a1 c d) e) <|
   reg <| cnd (!(e.2))
    (bndC (zs1 n b.2 e.1 ([⟨f,0⟩])) fun g =>
    zdg n a2 a1 b (zbr n a2 a1 c d) e g)
   <| zdg n a2 a1 b (zbr n a2 a1 c d) e b.2)
  <| c b.2
def zij (n:Nat)(a0:(List z0a))(a1:(List Int))(a2:Int):Option ((List z0a)) :=
 bndR (zay n a0) fun x1 =>
 zbr n a2 a1
  (fun b=>some b) n (0,x1)
def zh7 (n:Nat)(a0:z0a)(a1:z1g):Option (Bool) :=
 some (decide (a0.fScope=a1.fScope))
def z5l (n:Nat)(d:z1g)(a0:(List z0a))(c:Option (Int)):Nat->Int->Option (Int)
 |0,_=>none
 |e+1,b =>
  cnd (decide (b<((a0.map z09).length:Int)))
   (idx a0 b fun f =>
   bnd (zh7 n f d) fun g =>
   cnd (g)
    (some b)
   <| (z5l n d a0 c e) (IntKind.wrap .i64 (b+1)))
  <| c
def zaf (n:Nat)(a0:(List z0a))(b:z1g):Option (Int) :=
 z5l n b a0
  (some (-1)) n 0
def zdh (n:Nat)(a2:Int)(a1:(List z1g))(a0:(List z0a))(c:Int)(b:Int->Option (Bool))(d:Bool):Option (Bool) :=
 cnd (d)
  (some false)
 <| b (IntKind.wrap .i64 (c+1))
def zbs (n:Nat)(a2:Int)(a1:(List z1g))(a0:(List z0a))(b:Option (Bool)):Nat->Int->Option (Bool)
 |0,_=>none
 |d+1,c =>
  cnd (decide (c<((a1.map z27).length:Int)))
   (idx a1 c fun e =>
   bnd (zaf n a0 e) fun f =>
   jon (zdh n a2 a1 a0 c (zbs n a2 a1 a0 b d)) <|
   reg <| cnd (decide (f<0))
    (zdh n a2 a1 a0 c (zbs n a2 a1 a0 b d) true)
   <| idx a0 f fun g =>
   zdh n a2 a1 a0 c (zbs n a2 a1 a0 b d) (decide (e.fSpan<(IntKind.wrap .i64 (a2-g.fTime)))))
  <| b
def zik (n:Nat)(a0:(List z0a))(a1:(List z1g))(a2:Int):Option (Bool) :=
 zbs n a2 a1 a0
  (some true) n 0
def z64 (n:Nat)(a0:z0a)(a1:z0t):Option (Bool) :=
 bnd (z8k n a1.fCloses a0.fScope) fun x1 =>
 some x1
def z5k (n:Nat)(d:z0t)(a0:(List z0a))(c:Option (Int)):Nat->Int->Option (Int)
 |0,_=>none
 |e+1,b =>
  cnd (decide (b<((a0.map z09).length:Int)))
   (idx a0 b fun f =>
   bnd (z64 n f d) fun g =>
   cnd (g)
    (some b)
   <| (z5k n d a0 c e) (IntKind.wrap .i64 (b+1)))
  <| c
def zae (n:Nat)(a0:(List z0a))(b:z0t):Option (Int) :=
 z5k n b a0
  (some (-1)) n 0
def z4h (n:Nat)(a0:z0a)(m0:z0t):Option (Bool×z0t) :=
 bnd (z8k n m0.fCloses a0.fScope) fun x1 =>
 some (x1,m0)
def z74 (n:Nat)(d:Int->Int->Int->Int->Int->Int->(List AV)->Int->Int->Int->Int->Int->ByteArray->(List Int)->(List Int)->(List AV)->(List z1g)->(List Int)->(List z0a)->Option ((List z0a)×z0t)):Nat->Int×Int×Int×Int×Int×Int×Int×(List AV)×Int×Int×Int×Int×Int×ByteArray×(List Int)×(List Int)×(List AV)×(List z1g)×(List Int)×(List z0a)->Option ((List z0a)×z0t)
 |0,_=>none
 |e+1,b =>
  cnd (decide (b.2.1<((b.2.2.2.2.2.2.2.2.2.2.2.2.2.2.2.2.2.2.2.map z09).length:Int)))
   (nat b.2.1 (b.2.2.2.2.2.2.2.2.2.2.2.2.2.2.2.2.2.2.2.map z09).length fun g =>
   elt b.2.2.2.2.2.2.2.2.2.2.2.2.2.2.2.2.2.2.2 g fun f =>
   bndM 28 (z4h n f (⟨b.2.2.1,b.2.2.2.1,b.2.2.2.2.1,b.2.2.2.2.2.1,⟨b.2.2.2.2.2.2.1,b.2.2.2.2.2.2.2.1,b.2.2.2.2.2.2.2.2.1,b.2.2.2.2.2.2.2.2.2.1,b.2.2.2.2.2.2.2.2.2.2.1,⟨b.2.2.2.2.2.2.2.2.2.2.2.1,b.2.2.2.2.2.2.2.2.2.2.2.2.1,b.2.2.2.2.2.2.2.2.2.2.2.2.2.1⟩⟩,b.2.2.2.2.2.2.2.2.2.2.2.2.2.2.1,b.2.2.2.2.2.2.2.2.2.2.2.2.2.2.2.1,b.2.2.2.2.2.2.2.2.2.2.2.2.2.2.2.2.1,b.2.2.2.2.2.2.2.2.2.2.2.2.2.2.2.2.2.1,b.2.2.2.2.2.2.2.2.2.2.2.2.2.2.2.2.2.2.1⟩:z0t)) fun c =>
   cnd (!(c.1))
    (nat b.1 (b.2.2.2.2.2.2.2.2.2.2.2.2.2.2.2.2.2.2.2.map z09).length fun h =>
    stx b.2.2.2.2.2.2.2.2.2.2.2.2.2.2.2.2.2.2.2 h (fun k=>f) fun j =>
    (z74 n d e) ((IntKind.wrap .i64 (b.1+1)),(IntKind.wrap .i64 (b.2.1+1)),c.2.fFrom,c.2.fTo,c.2.fVar,c.2.fType,c.2.fCond.fOp,c.2.fCond.fArgs,c.2.fCond.fVar,c.2.fCond.fField,c.2.fCond.fKind,c.2.fCond.fValue.fKind,c.2.fCond.fValue.fNum,c.2.fCond.fValue.fText,c.2.fOpens,c.2.fCloses,c.2.fChecks,c.2.fLimits,c.2.fInside,j))
   <| (z74 n d e) (b.1,(IntKind.wrap .i64 (b.2.1+1)),c.2.fFrom,c.2.fTo,c.2.fVar,c.2.fType,c.2.fCond.fOp,c.2.fCond.fArgs,c.2.fCond.fVar,c.2.fCond.fField,c.2.fCond.fKind,c.2.fCond.fValue.fKind,c.2.fCond.fValue.fNum,c.2.fCond.fValue.fText,c.2.fOpens,c.2.fCloses,c.2.fChecks,c.2.fLimits,c.2.fInside,b.2.2.2.2.2.2.2.2.2.2.2.2.2.2.2.2.2.2.2))
  <| d b.1 b.2.2.1 b.2.2.2.1 b.2.2.2.2.1 b.2.2.2.2.2.1 b.2.2.2.2.2.2.1 b.2.2.2.2.2.2.2.1 b.2.2.2.2.2.2.2.2.1 b.2.2.2.2.2.2.2.2.2.1 b.2.2.2.2.2.2.2.2.2.2.1 b.2.2.2.2.2.2.2.2.2.2.2.1 b.2.2.2.2.2.2.2.2.2.2.2.2.1 b.2.2.2.2.2.2.2.2.2.2.2.2.2.1 b.2.2.2.2.2.2.2.2.2.2.2.2.2.2.1 b.2.2.2.2.2.2.2.2.2.2.2.2.2.2.2.1 b.2.2.2.2.2.2.2.2.2.2.2.2.2.2.2.2.1 b.2.2.2.2.2.2.2.2.2.2.2.2.2.2.2.2.2.1 b.2.2.2.2.2.2.2.2.2.2.2.2.2.2.2.2.2.2.1 b.2.2.2.2.2.2.2.2.2.2.2.2.2.2.2.2.2.2.2
def zdf (n:Nat)(m0:z0t)(m1:(List z0a)):Option ((List z0a)×z0t) :=
 bnd (zae n m1 m0) fun x1 =>
 cnd (decide (x1=(-1)))
  (some (m1,m0))
 <| z74 n
  (fun c o p q s t u v w y d e f g h j k l b=>nle c (b.map z09).length fun z =>
 clr b z (⟨0,0⟩:z0a) fun ba =>
 sls ba 0 c fun bb =>
 some (bb,⟨o,p,q,s,⟨t,u,v,w,y,⟨d,e,f⟩⟩,g,h,j,k,l⟩)) n (x1,(IntKind.wrap .i64 (x1+1)),m0.fFrom,m0.fTo,m0.fVar,m0.fType,m0.fCond.fOp,m0.fCond.fArgs,m0.fCond.fVar,m0.fCond.fField,m0.fCond.fKind,m0.fCond.fValue.fKind,m0.fCond.fValue.fNum,m0.fCond.fValue.fText,m0.fOpens,m0.fCloses,m0.fChecks,m0.fLimits,m0.fInside,m1)
def z7s (n:Nat)(a4:z03)(a2:z0t)(a1:z00)(x5:(List z0a))(e:(List (List z03)))(b:(List z0a)->Option (z00×Bool)):Nat->Int->Option (z00×Bool)
 |0,_=>none
 |d+1,c =>
  cnd (decide (c<((a2.fChecks.map idA).length:Int)))
   (idxD z1z a2.fChecks c fun f =>
   bnd (zff n f (⟨e⟩:z0i) (-1) (⟨0,0,0,0,[]⟩:z03)) fun g =>
   cnd (!(g))
    (some (⟨0,[],[]⟩,false))
   <| (z7s n a4 a2 a1 x5 e b d) (IntKind.wrap .i64 (c+1)))
  <| b x5
def z1y (n:Nat)(a4:z03)(a3:z0i)(a2:z0t)(a1:z00)(e:Bool):Option (z00×Bool) :=
 cnd (e)
  (some (⟨0,[],[]⟩,false))
 <| bndR (zij n a1.fStarts a2.fOpens a4.fTime) fun x5 =>
 bnd (zik n x5 a2.fLimits a4.fTime) fun x6 =>
 cnd (!(x6))
  (some (⟨0,[],[]⟩,false))
 <| bndR (zay n a3.fVars) fun x7 =>
 idx a3.fVars a2.fVar fun x8 =>
 bndR (zay n x8) fun x9 =>
 app x9 [a4] 56 fun f =>
 nat a2.fVar (List.map (fun q=>AV.sl 5 (List.map z02 q)) (x7)).length fun g =>
 stx x7 g (fun _=>f) fun h =>
 z7s n a4 a2 a1 x5 h
  (fun b=>bndM 96 (zdf n a2 b) fun c =>
 bndR (zay n a1.fBindings) fun j =>
 bnd (zih n a4) fun d =>
 app j ([⟨c.2.fVar,⟨d.fTime,d.fSource,d.fSeq⟩⟩]) 32 fun k =>
 some (⟨c.2.fTo,k,c.1⟩,true)) n 0
def za5 (n:Nat)(a0:z0m)(a1:z00)(a2:z0t)(a3:z0i)(a4:z03):Option (z00×Bool) :=
 jon (z1y n a4 a3 a2 a1) <|
 reg <| cnd (!decide (a4.fType=a2.fType))
  (z1y n a4 a3 a2 a1 true)
 <| idx a0.fa.fStates a1.fState fun b =>
 bnd (z8q n b.fGuards a2 (⟨a3.fVars⟩:z0i) a4) fun c =>
 cnd (c)
  (z1y n a4 a3 a2 a1 true)
 <| bnd (zff n a2.fCond (⟨a3.fVars⟩:z0i) a2.fVar a4) fun d =>
 z1y n a4 a3 a2 a1 !(d)
def z1n (n:Nat)(m4:z03)(m3:z00)(m2:z0m)(x1:z0i)(c:(List z00)->(List z06)->Option ((List z00)×(List z06)×z0m×z00×z03)):Nat->Int×(List z00)×(List z06)->Option ((List z00)×(List z06)×z0m×z00×z03)
 |0,_=>none
 |d+1,b =>
  cnd (decide (b.1<((m2.fa.fEdges.map z0w).length:Int)))
   (idx m2.fa.fEdges b.1 fun e =>
   cnd (!decide (e.fFrom=m3.fState))
    ((z1n n m4 m3 m2 x1 c d) ((IntKind.wrap .i64 (b.1+1)),b.2.1,b.2.2))
   <| bnd (za5 n m2 m3 e (⟨x1.fVars⟩:z0i) m4) fun f =>
   cnd (f.2)
    (bndM 63 (z7u n f.1 b.2.1 b.2.2) fun g =>
    (z1n n m4 m3 m2 x1 c d) ((IntKind.wrap .i64 (b.1+1)),g.1,g.2))
   <| (z1n n m4 m3 m2 x1 c d) ((IntKind.wrap .i64 (b.1+1)),b.2.1,b.2.2))
  <| c b.2.1 b.2.2
def z1m (n:Nat)(m4:z03)(m3:z00)(m2:z0m)(x1:z0i)(c:(List z00)->(List z06)->Option ((List z00)×(List z06)×z0m×z00×z03)):Nat->Int×(List z00)×(List z06)->Option ((List z00)×(List z06)×z0m×z00×z03)
 |0,_=>none
 |d+1,b =>
  cnd (decide (b.1<((m2.fa.fEdges.map z0w).length:Int)))
   (idx m2.fa.fEdges b.1 fun e =>
   cnd (!decide (e.fFrom=m3.fState))
    ((z1m n m4 m3 m2 x1 c d) ((IntKind.wrap .i64 (b.1+1)),b.2.1,b.2.2))
   <| bnd (za5 n m2 m3 e (⟨x1.fVars⟩:z0i) m4) fun f =>
   cnd (f.2)
    (bndM 63 (z7u n f.1 b.2.1 b.2.2) fun g =>
    (z1m n m4 m3 m2 x1 c d) ((IntKind.wrap .i64 (b.1+1)),g.1,g.2))
   <| (z1m n m4 m3 m2 x1 c d) ((IntKind.wrap .i64 (b.1+1)),b.2.1,b.2.2))
  <| c b.2.1 b.2.2
def z7d (n:Nat)(m0:(List z00))(m1:(List z06))(m2:z0m)(m3:z00)(m4:z03):Option ((List z00)×(List z06)×z0m×z00×z03) :=
 bnd (zf5 n m2 m3.fBindings) fun x1 =>
 idx m2.fa.fStates m3.fState fun x2 =>
 bnd (z8r n x2.fGuards (⟨x1.fVars⟩:z0i) m4) fun x3 =>
 cnd (!(x3))
  (bndM 32 (z7u n m3 m0 m1) fun x4 =>
  z1n n m4 m3 m2 x1
   (fun b c=>some (b,c,m2,m3,m4)) n (0,x4.1,x4.2))
 <| z1m n m4 m3 m2 x1
  (fun d e=>some (d,e,m2,m3,m4)) n (0,m0,m1)
def zcu (n:Nat)(a0:z06)(a1:z06):Option (Bool) :=
 bnd (zfb n (⟨a0.fBindings⟩:z06) (⟨a1.fBindings⟩:z06)) fun x1 =>
 some (decide (x1=0))
def z2t (n:Nat)(c:Nat)(d:Int->(List z06)->Option ((List z06))):Nat->Int×Int×(List z06)->Option ((List z06))
 |0,_=>none
 |e+1,b =>
  gle c (b.2.2.map z0d).length <|
  cnd (decide (b.2.1<((((b.2.2.map z0d).length-c:Nat)):Int)))
   (nat b.2.1 ((b.2.2.map z0d).length-c) fun g =>
   elt b.2.2 (c+g) fun h =>
   nat (IntKind.wrap .i64 (b.2.1-1)) ((b.2.2.map z0d).length-c) fun j =>
   elt b.2.2 (c+j) fun k =>
   bnd (zcu n (⟨h.fBindings⟩:z06) (⟨k.fBindings⟩:z06)) fun l =>
   cnd (!(l))
    (nat b.2.1 ((b.2.2.map z0d).length-c) fun o =>
    elt b.2.2 (c+o) fun p =>
    nat b.1 (b.2.2.map z0d).length fun q =>
    stx b.2.2 q (fun s=>⟨p.fBindings⟩) fun f =>
    (z2t n c d e) ((IntKind.wrap .i64 (b.1+1)),(IntKind.wrap .i64 (b.2.1+1)),f))
   <| (z2t n c d e) (b.1,(IntKind.wrap .i64 (b.2.1+1)),b.2.2))
  <| d b.1 b.2.2
def z4g (n:Nat)(m0:(List z06))(e:Option ((List z06))):Nat->Int->Option ((List z06))
 |0,_=>none
 |f+1,b =>
  cnd (decide (b<((m0.map z0d).length:Int)))
   (nat b (m0.map z0d).length fun g =>
   elt m0 g fun h =>
   nat (IntKind.wrap .i64 (b-1)) (m0.map z0d).length fun j =>
   elt m0 j fun k =>
   bnd (zcu n (⟨h.fBindings⟩:z06) (⟨k.fBindings⟩:z06)) fun l =>
   cnd (l)
    (nle b (m0.map z0d).length fun o =>
    z2t n o
     (fun c d=>nle c (d.map z0d).length fun p =>
    clr d p (⟨[]⟩:z06) fun q =>
    sls q 0 c fun s =>
    some s) n (b,1,m0))
   <| (z4g n m0 e f) (IntKind.wrap .i64 (b+1)))
  <| e
def z9k (n:Nat)(m0:(List z06)):Option ((List z06)) :=
 cnd (decide (((m0.map z0d).length:Int)<2))
  (some m0)
 <| z4g n m0
  (some m0) n 1
def zcv (n:Nat)(m0:(List z06)):Option ((List z06)) :=
 bndC (zri maOk zbv n m0) fun x1 =>
 frb 3 <| reg <| bndM 10 (z9k n x1) fun x2 =>
 some x2
def z7t (n:Nat)(a2:z03)(a1:(List z00))(a0:z0m)(c:(List z00)->(List z06)->Option ((List z00)×(List z06))):Nat->Int×(List z00)×(List z06)->Option ((List z00)×(List z06))
 |0,_=>none
 |e+1,b =>
  cnd (decide (b.1<((a1.map z01).length:Int)))
   (idx a1 b.1 fun g =>
   bndM 22 (ze7 n a0 g a2) fun d =>
   bndM 810 (z7d n b.2.1 b.2.2 d.1 d.2.1 d.2.2) fun f =>
   (z7t n a2 a1 a0 c e) ((IntKind.wrap .i64 (b.1+1)),f.1,f.2.1))
  <| c b.2.1 b.2.2
def z5d (n:Nat)(a0:z0m)(a1:(List z00))(a2:z03):Option ((List z00)×(List z06)) :=
 z7t n a2 a1 a0
  (fun b c=>bndM 39 (zhi n b) fun d =>
 bndM 41 (zcv n c) fun e =>
 some (d,e)) n (0,[],[])
def zc1 (n:Nat)(b:(List z00)×(List z06))(c:Bool):Option ((List z00)×(List z06)×Int) :=
 cnd (c)
  (some ([],[],17))
 <| some (b.1,b.2,0)
def zdu (n:Nat)(a3:z03)(a2:(List z00))(x2:z0m)(b:Int->Int->(List zem)->(List z0t)->(List (z1f×z03))->Option ((List z00)×(List z06)×Int)):Nat->Int->Option ((List z00)×(List z06)×Int)
 |0,_=>none
 |d+1,c =>
  cnd (decide (c<((a2.map z01).length:Int)))
   (idx a2 c fun f =>
   bnd (z69 n x2 f) fun e =>
   cnd (!decide (e=0))
    (some ([],[],e))
   <| (zdu n a3 a2 x2 b d) (IntKind.wrap .i64 (c+1)))
  <| b x2.fa.fVars x2.fa.fScopes x2.fa.fStates x2.fa.fEdges x2.fheld
def zfm (n:Nat)(a0:z07)(a1:(List z03))(a2:(List z00))(a3:z03):Option ((List z00)×(List z06)×Int) :=
 bndP (zeo n a0 a1) (fun r=>r.1)
  (fun x1 =>
 cnd (!decide (x1.2=0))
  (some ([],[],x1.2))
 <| cnd (decide (4096<((a2.map z01).length:Int)))
  (some ([],[],5))
 <| none) fun x1 x2 =>
 cnd (!decide (x1.2=0))
  (some ([],[],x1.2))
 <| cnd (decide (4096<((a2.map z01).length:Int)))
  (some ([],[],5))
 <| zdu n a3 a2 x2
  (fun c d e f g=>bnd (zi6 n a2 a3) fun h =>
 cnd (!decide (h=0))
  (some ([],[],h))
 <| bnd (z5d n (⟨⟨c,d,e,f⟩,g⟩:z0m) a2 a3) fun b =>
 jon (zc1 n b) <|
 reg <| cnd (decide (4096<((b.1.map z01).length:Int)))
  (zc1 n b true)
 <| zc1 n b (decide (4096<((b.2.map z0d).length:Int)))) n 0
def zbd (n:Nat)(a0:(List z00))(c:(List z00)->Option ((List z00))):Nat->Int×(List z00)->Option ((List z00))
 |0,_=>none
 |e+1,b =>
  cnd (decide (b.1<((a0.map z01).length:Int)))
   (idx a0 b.1 fun d =>
   bnd (zay n d.fBindings) fun f =>
   bnd (zay n d.fStarts) fun g =>
   app b.2 ([⟨d.fState,f,g⟩]) 56 fun h =>
   (zbd n a0 c e) ((IntKind.wrap .i64 (b.1+1)),h))
  <| c b.2
def zc2 (n:Nat)(a0:(List z00)):Option ((List z00)) :=
 zbd n a0
  (fun b=>some b) n (0,[])
def zaq (n:Nat)(a1:(List z03))(a0:z07)(c:(List (List z00))->Option ((List (List z00))×Int)):Nat->Int×(List (List z00))->Option ((List (List z00))×Int)
 |0,_=>none
 |e+1,b =>
  cnd (decide (b.1<((a1.map z02).length:Int)))
   (idx a1 b.1 fun f =>
   sls a1 0 b.1 fun g =>
   nat b.1 (List.map (fun q=>AV.sl 3 (List.map z01 q)) (b.2)).length fun h =>
   elt b.2 h fun j =>
   bnd (zfm n a0 g j f) fun d =>
   cnd (!decide (d.2.2=0))
    (some ([],d.2.2))
   <| cnd (decide (0<((d.2.1.map z0d).length:Int)))
    (some ([],22))
   <| bnd (zc2 n d.1) fun k =>
   bldS ([k]:List (List z00)) fun l =>
   app b.2 l 24 fun o =>
   (zaq n a1 a0 c e) ((IntKind.wrap .i64 (b.1+1)),o))
  <| c b.2
def zf7 (n:Nat)(a0:z07)(a1:(List z03)):Option ((List (List z00))×Int) :=
 bnd (zfl n) fun x1 =>
 bldS ([x1]:List z00) fun x2 =>
 bld ([x2]:List (List z00)) fun x3 =>
 zaq n a1 a0
  (fun b=>some (b,0)) n (0,x3)
def zby (n:Nat)(a0:z07)(a1:(List z03)):Option (z0n×Int) :=
 bnd (z8x n a0 a1) fun x1 =>
 cnd (!decide (x1=0))
  (some (⟨[]⟩,x1))
 <| bnd (zf7 n a0 a1) fun x2 =>
 some (⟨x2.1⟩,x2.2)
def zgl (n:Nat)(a1:(List z03))(x2:z0m)(b:(List z00)×Int×(List z06))(c:(List z00)×Int×(List z06)->Option ((List z00)×(List z06)×Int))(d:(List z00)×(List z06))(e:Bool):Option ((List z00)×(List z06)×Int) :=
 cnd (e)
  (some ([],[],17))
 <| app b.2.2 d.2 24 fun f =>
 c (d.1,(IntKind.wrap .i64 (b.2.1+1)),f)
def zgk (n:Nat)(a1:(List z03))(x2:z0m)(c:(List z00)->(List z06)->Option ((List z00)×(List z06)×Int)):Nat->(List z00)×Int×(List z06)->Option ((List z00)×(List z06)×Int)
 |0,_=>none
 |d+1,b =>
  cnd (decide (b.2.1<((a1.map z02).length:Int)))
   (idx a1 b.2.1 fun f =>
   bnd (z5d n x2 b.1 f) fun e =>
   jon (zgl n a1 x2 b (zgk n a1 x2 c d) e) <|
   reg <| cnd (decide (4096<((e.1.map z01).length:Int)))
    (zgl n a1 x2 b (zgk n a1 x2 c d) e true)
   <| cnd (decide (4096<((e.2.map z0d).length:Int)))
    (zgl n a1 x2 b (zgk n a1 x2 c d) e true)
   <| zgl n a1 x2 b (zgk n a1 x2 c d) e (decide (4096<(IntKind.wrap .i64 (((b.2.2.map z0d).length:Int)+((e.2.map z0d).length:Int))))))
  <| c b.1 b.2.2
def zzu (n:Nat)(a0:z07)(a1:(List z03)):Option ((List z00)×(List z06)×Int) :=
 bndP (zeo n a0 a1) (fun r=>r.1)
  (fun x1 =>
 cnd (!decide (x1.2=0))
  (some ([],[],x1.2))
 <| bnd (zfl n) fun x3 =>
 none) fun x1 x2 =>
 cnd (!decide (x1.2=0))
  (some ([],[],x1.2))
 <| bnd (zfl n) fun x4 =>
 zgk n a1 x2
  (fun b c=>bndM 62 (zcv n c) fun d =>
 some (b,d,0)) n ([x4],0,[])
def zow (n:Nat)(a0:z07)(a1:(List z03)):Option ((List z06)×Int) :=
 bnd (zzu n a0 a1) fun x1 =>
 some (x1.2.1,x1.2.2)
def zea (n:Nat)(a0:z0s)(m0:B16):Option (Int×B16) :=
 bnd (zi7 n a0.fOp) fun x1 =>
 cnd (x1.1)
  (cnd (decide (0<=a0.fVar))
    (cnd (decide (a0.fVar<16))
      (natc a0.fVar 0
        (some (0,(true,m0.2.1,m0.2.2.1,m0.2.2.2.1,m0.2.2.2.2.1,m0.2.2.2.2.2.1,m0.2.2.2.2.2.2.1,m0.2.2.2.2.2.2.2.1,m0.2.2.2.2.2.2.2.2.1,m0.2.2.2.2.2.2.2.2.2.1,m0.2.2.2.2.2.2.2.2.2.2.1,m0.2.2.2.2.2.2.2.2.2.2.2.1,m0.2.2.2.2.2.2.2.2.2.2.2.2.1,m0.2.2.2.2.2.2.2.2.2.2.2.2.2.1,m0.2.2.2.2.2.2.2.2.2.2.2.2.2.2.1,m0.2.2.2.2.2.2.2.2.2.2.2.2.2.2.2)))
      <| natc a0.fVar 1
       (some (0,(m0.1,true,m0.2.2.1,m0.2.2.2.1,m0.2.2.2.2.1,m0.2.2.2.2.2.1,m0.2.2.2.2.2.2.1,m0.2.2.2.2.2.2.2.1,m0.2.2.2.2.2.2.2.2.1,m0.2.2.2.2.2.2.2.2.2.1,m0.2.2.2.2.2.2.2.2.2.2.1,m0.2.2.2.2.2.2.2.2.2.2.2.1,m0.2.2.2.2.2.2.2.2.2.2.2.2.1,m0.2.2.2.2.2.2.2.2.2.2.2.2.2.1,m0.2.2.2.2.2.2.2.2.2.2.2.2.2.2.1,m0.2.2.2.2.2.2.2.2.2.2.2.2.2.2.2)))
      <| natc a0.fVar 2
       (some (0,(m0.1,m0.2.1,true,m0.2.2.2.1,m0.2.2.2.2.1,m0.2.2.2.2.2.1,m0.2.2.2.2.2.2.1,m0.2.2.2.2.2.2.2.1,m0.2.2.2.2.2.2.2.2.1,m0.2.2.2.2.2.2.2.2.2.1,m0.2.2.2.2.2.2.2.2.2.2.1,m0.2.2.2.2.2.2.2.2.2.2.2.1,m0.2.2.2.2.2.2.2.2.2.2.2.2.1,m0.2.2.2.2.2.2.2.2.2.2.2.2.2.1,m0.2.2.2.2.2.2.2.2.2.2.2.2.2.2.1,m0.2.2.2.2.2.2.2.2.2.2.2.2.2.2.2)))
      <| natc a0.fVar 3
       (some (0,(m0.1,m0.2.1,m0.2.2.1,true,m0.2.2.2.2.1,m0.2.2.2.2.2.1,m0.2.2.2.2.2.2.1,m0.2.2.2.2.2.2.2.1,m0.2.2.2.2.2.2.2.2.1,m0.2.2.2.2.2.2.2.2.2.1,m0.2.2.2.2.2.2.2.2.2.2.1,m0.2.2.2.2.2.2.2.2.2.2.2.1,m0.2.2.2.2.2.2.2.2.2.2.2.2.1,m0.2.2.2.2.2.2.2.2.2.2.2.2.2.1,m0.2.2.2.2.2.2.2.2.2.2.2.2.2.2.1,m0.2.2.2.2.2.2.2.2.2.2.2.2.2.2.2)))
      <| natc a0.fVar 4
       (some (0,(m0.1,m0.2.1,m0.2.2.1,m0.2.2.2.1,true,m0.2.2.2.2.2.1,m0.2.2.2.2.2.2.1,m0.2.2.2.2.2.2.2.1,m0.2.2.2.2.2.2.2.2.1,m0.2.2.2.2.2.2.2.2.2.1,m0.2.2.2.2.2.2.2.2.2.2.1,m0.2.2.2.2.2.2.2.2.2.2.2.1,m0.2.2.2.2.2.2.2.2.2.2.2.2.1,m0.2.2.2.2.2.2.2.2.2.2.2.2.2.1,m0.2.2.2.2.2.2.2.2.2.2.2.2.2.2.1,m0.2.2.2.2.2.2.2.2.2.2.2.2.2.2.2)))
      <| natc a0.fVar 5
       (some (0,(m0.1,m0.2.1,m0.2.2.1,m0.2.2.2.1,m0.2.2.2.2.1,true,m0.2.2.2.2.2.2.1,m0.2.2.2.2.2.2.2.1,m0.2.2.2.2.2.2.2.2.1,m0.2.2.2.2.2.2.2.2.2.1,m0.2.2.2.2.2.2.2.2.2.2.1,m0.2.2.2.2.2.2.2.2.2.2.2.1,m0.2.2.2.2.2.2.2.2.2.2.2.2.1,m0.2.2.2.2.2.2.2.2.2.2.2.2.2.1,m0.2.2.2.2.2.2.2.2.2.2.2.2.2.2.1,m0.2.2.2.2.2.2.2.2.2.2.2.2.2.2.2)))
      <| natc a0.fVar 6
       (some (0,(m0.1,m0.2.1,m0.2.2.1,m0.2.2.2.1,m0.2.2.2.2.1,m0.2.2.2.2.2.1,true,m0.2.2.2.2.2.2.2.1,m0.2.2.2.2.2.2.2.2.1,m0.2.2.2.2.2.2.2.2.2.1,m0.2.2.2.2.2.2.2.2.2.2.1,m0.2.2.2.2.2.2.2.2.2.2.2.1,m0.2.2.2.2.2.2.2.2.2.2.2.2.1,m0.2.2.2.2.2.2.2.2.2.2.2.2.2.1,m0.2.2.2.2.2.2.2.2.2.2.2.2.2.2.1,m0.2.2.2.2.2.2.2.2.2.2.2.2.2.2.2)))
      <| natc a0.fVar 7
       (some (0,(m0.1,m0.2.1,m0.2.2.1,m0.2.2.2.1,m0.2.2.2.2.1,m0.2.2.2.2.2.1,m0.2.2.2.2.2.2.1,true,m0.2.2.2.2.2.2.2.2.1,m0.2.2.2.2.2.2.2.2.2.1,m0.2.2.2.2.2.2.2.2.2.2.1,m0.2.2.2.2.2.2.2.2.2.2.2.1,m0.2.2.2.2.2.2.2.2.2.2.2.2.1,m0.2.2.2.2.2.2.2.2.2.2.2.2.2.1,m0.2.2.2.2.2.2.2.2.2.2.2.2.2.2.1,m0.2.2.2.2.2.2.2.2.2.2.2.2.2.2.2)))
      <| natc a0.fVar 8
       (some (0,(m0.1,m0.2.1,m0.2.2.1,m0.2.2.2.1,m0.2.2.2.2.1,m0.2.2.2.2.2.1,m0.2.2.2.2.2.2.1,m0.2.2.2.2.2.2.2.1,true,m0.2.2.2.2.2.2.2.2.2.1,m0.2.2.2.2.2.2.2.2.2.2.1,m0.2.2.2.2.2.2.2.2.2.2.2.1,m0.2.2.2.2.2.2.2.2.2.2.2.2.1,m0.2.2.2.2.2.2.2.2.2.2.2.2.2.1,m0.2.2.2.2.2.2.2.2.2.2.2.2.2.2.1,m0.2.2.2.2.2.2.2.2.2.2.2.2.2.2.2)))
      <| natc a0.fVar 9
       (some (0,(m0.1,m0.2.1,m0.2.2.1,m0.2.2.2.1,m0.2.2.2.2.1,m0.2.2.2.2.2.1,m0.2.2.2.2.2.2.1,m0.2.2.2.2.2.2.2.1,m0.2.2.2.2.2.2.2.2.1,true,m0.2.2.2.2.2.2.2.2.2.2.1,m0.2.2.2.2.2.2.2.2.2.2.2.1,m0.2.2.2.2.2.2.2.2.2.2.2.2.1,m0.2.2.2.2.2.2.2.2.2.2.2.2.2.1,m0.2.2.2.2.2.2.2.2.2.2.2.2.2.2.1,m0.2.2.2.2.2.2.2.2.2.2.2.2.2.2.2)))
      <| natc a0.fVar 10
       (some (0,(m0.1,m0.2.1,m0.2.2.1,m0.2.2.2.1,m0.2.2.2.2.1,m0.2.2.2.2.2.1,m0.2.2.2.2.2.2.1,m0.2.2.2.2.2.2.2.1,m0.2.2.2.2.2.2.2.2.1,m0.2.2.2.2.2.2.2.2.2.1,true,m0.2.2.2.2.2.2.2.2.2.2.2.1,m0.2.2.2.2.2.2.2.2.2.2.2.2.1,m0.2.2.2.2.2.2.2.2.2.2.2.2.2.1,m0.2.2.2.2.2.2.2.2.2.2.2.2.2.2.1,m0.2.2.2.2.2.2.2.2.2.2.2.2.2.2.2)))
      <| natc a0.fVar 11
       (some (0,(m0.1,m0.2.1,m0.2.2.1,m0.2.2.2.1,m0.2.2.2.2.1,m0.2.2.2.2.2.1,m0.2.2.2.2.2.2.1,m0.2.2.2.2.2.2.2.1,m0.2.2.2.2.2.2.2.2.1,m0.2.2.2.2.2.2.2.2.2.1,m0.2.2.2.2.2.2.2.2.2.2.1,true,m0.2.2.2.2.2.2.2.2.2.2.2.2.1,m0.2.2.2.2.2.2.2.2.2.2.2.2.2.1,m0.2.2.2.2.2.2.2.2.2.2.2.2.2.2.1,m0.2.2.2.2.2.2.2.2.2.2.2.2.2.2.2)))
      <| natc a0.fVar 12
       (some (0,(m0.1,m0.2.1,m0.2.2.1,m0.2.2.2.1,m0.2.2.2.2.1,m0.2.2.2.2.2.1,m0.2.2.2.2.2.2.1,m0.2.2.2.2.2.2.2.1,m0.2.2.2.2.2.2.2.2.1,m0.2.2.2.2.2.2.2.2.2.1,m0.2.2.2.2.2.2.2.2.2.2.1,m0.2.2.2.2.2.2.2.2.2.2.2.1,true,m0.2.2.2.2.2.2.2.2.2.2.2.2.2.1,m0.2.2.2.2.2.2.2.2.2.2.2.2.2.2.1,m0.2.2.2.2.2.2.2.2.2.2.2.2.2.2.2)))
      <| natc a0.fVar 13
       (some (0,(m0.1,m0.2.1,m0.2.2.1,m0.2.2.2.1,m0.2.2.2.2.1,m0.2.2.2.2.2.1,m0.2.2.2.2.2.2.1,m0.2.2.2.2.2.2.2.1,m0.2.2.2.2.2.2.2.2.1,m0.2.2.2.2.2.2.2.2.2.1,m0.2.2.2.2.2.2.2.2.2.2.1,m0.2.2.2.2.2.2.2.2.2.2.2.1,m0.2.2.2.2.2.2.2.2.2.2.2.2.1,true,m0.2.2.2.2.2.2.2.2.2.2.2.2.2.2.1,m0.2.2.2.2.2.2.2.2.2.2.2.2.2.2.2)))
      <| natc a0.fVar 14
       (some (0,(m0.1,m0.2.1,m0.2.2.1,m0.2.2.2.1,m0.2.2.2.2.1,m0.2.2.2.2.2.1,m0.2.2.2.2.2.2.1,m0.2.2.2.2.2.2.2.1,m0.2.2.2.2.2.2.2.2.1,m0.2.2.2.2.2.2.2.2.2.1,m0.2.2.2.2.2.2.2.2.2.2.1,m0.2.2.2.2.2.2.2.2.2.2.2.1,m0.2.2.2.2.2.2.2.2.2.2.2.2.1,m0.2.2.2.2.2.2.2.2.2.2.2.2.2.1,true,m0.2.2.2.2.2.2.2.2.2.2.2.2.2.2.2)))
      <| natc a0.fVar 15
       (some (0,(m0.1,m0.2.1,m0.2.2.1,m0.2.2.2.1,m0.2.2.2.2.1,m0.2.2.2.2.2.1,m0.2.2.2.2.2.2.1,m0.2.2.2.2.2.2.2.1,m0.2.2.2.2.2.2.2.2.1,m0.2.2.2.2.2.2.2.2.2.1,m0.2.2.2.2.2.2.2.2.2.2.1,m0.2.2.2.2.2.2.2.2.2.2.2.1,m0.2.2.2.2.2.2.2.2.2.2.2.2.1,m0.2.2.2.2.2.2.2.2.2.2.2.2.2.1,m0.2.2.2.2.2.2.2.2.2.2.2.2.2.2.1,true)))
      <| none)
    <| some (0,m0))
  <| some (0,m0))
 <| some (0,m0)
def zas (n:Nat)(d:z0s->B16->Option (Int×B16))(a0:z0s)(e:Bool->Bool->Bool->Bool->Bool->Bool->Bool->Bool->Bool->Bool->Bool->Bool->Bool->Bool->Bool->Bool->Option (Int×B16)):Nat->Int×B16->Option (Int×B16)
 |0,_=>none
 |f+1,b =>
  cnd (decide (b.1<((a0.fArgs.map idA).length:Int)))
   (idxD z1z a0.fArgs b.1 fun g =>
   bndM 24 (d g b.2) fun c =>
   cnd (!decide (c.1=0))
    (some (c.1,c.2))
   <| (zas n d a0 e f) ((IntKind.wrap .i64 (b.1+1)),c.2.1,c.2.2.1,c.2.2.2.1,c.2.2.2.2.1,c.2.2.2.2.2.1,c.2.2.2.2.2.2.1,c.2.2.2.2.2.2.2.1,c.2.2.2.2.2.2.2.2.1,c.2.2.2.2.2.2.2.2.2.1,c.2.2.2.2.2.2.2.2.2.2.1,c.2.2.2.2.2.2.2.2.2.2.2.1,c.2.2.2.2.2.2.2.2.2.2.2.2.1,c.2.2.2.2.2.2.2.2.2.2.2.2.2.1,c.2.2.2.2.2.2.2.2.2.2.2.2.2.2.1,c.2.2.2.2.2.2.2.2.2.2.2.2.2.2.2.1,c.2.2.2.2.2.2.2.2.2.2.2.2.2.2.2.2))
  <| e b.2.1 b.2.2.1 b.2.2.2.1 b.2.2.2.2.1 b.2.2.2.2.2.1 b.2.2.2.2.2.2.1 b.2.2.2.2.2.2.2.1 b.2.2.2.2.2.2.2.2.1 b.2.2.2.2.2.2.2.2.2.1 b.2.2.2.2.2.2.2.2.2.2.1 b.2.2.2.2.2.2.2.2.2.2.2.1 b.2.2.2.2.2.2.2.2.2.2.2.2.1 b.2.2.2.2.2.2.2.2.2.2.2.2.2.1 b.2.2.2.2.2.2.2.2.2.2.2.2.2.2.1 b.2.2.2.2.2.2.2.2.2.2.2.2.2.2.2.1 b.2.2.2.2.2.2.2.2.2.2.2.2.2.2.2.2
def za7:Nat->z0s->B16->Option (Int×B16)
 |0,_,_=>none
 |n+1,a0,m0 =>
 bndM 11 (zea n a0 m0) fun x1 =>
 cnd (!decide (x1.1=0))
  (some (x1.1,x1.2))
 <| zas n (za7 n) a0
  (fun h j k l o p q s t u b c d e f g=>some (0,(h,j,k,l,o,p,q,s,t,u,b,c,d,e,f,g))) n (0,x1.2.1,x1.2.2.1,x1.2.2.2.1,x1.2.2.2.2.1,x1.2.2.2.2.2.1,x1.2.2.2.2.2.2.1,x1.2.2.2.2.2.2.2.1,x1.2.2.2.2.2.2.2.2.1,x1.2.2.2.2.2.2.2.2.2.1,x1.2.2.2.2.2.2.2.2.2.2.1,x1.2.2.2.2.2.2.2.2.2.2.2.1,x1.2.2.2.2.2.2.2.2.2.2.2.2.1,x1.2.2.2.2.2.2.2.2.2.2.2.2.2.1,x1.2.2.2.2.2.2.2.2.2.2.2.2.2.2.1,x1.2.2.2.2.2.2.2.2.2.2.2.2.2.2.2.1,x1.2.2.2.2.2.2.2.2.2.2.2.2.2.2.2.2)
def z0f (n:Nat)(x1:Int×B16)(c:(List Int)->Option ((List Int))):Nat->Int×(List Int)->Option ((List Int))
 |0,_=>none
 |d+1,b =>
  cnd (decide (b.1<16))
   (natc b.1 0
     (reg <| cnd (x1.2.1)
     (app b.2 [b.1] 8 fun e =>
     (z0f n x1 c d) ((IntKind.wrap .i64 (b.1+1)),e))
   <| (z0f n x1 c d) ((IntKind.wrap .i64 (b.1+1)),b.2))
   <| natc b.1 1
    (reg <| cnd (x1.2.2.1)
    (app b.2 [b.1] 8 fun f =>
    (z0f n x1 c d) ((IntKind.wrap .i64 (b.1+1)),f))
   <| (z0f n x1 c d) ((IntKind.wrap .i64 (b.1+1)),b.2))
   <| natc b.1 2
    (reg <| cnd (x1.2.2.2.1)
    (app b.2 [b.1] 8 fun g =>
    (z0f n x1 c d) ((IntKind.wrap .i64 (b.1+1)),g))
   <| (z0f n x1 c d) ((IntKind.wrap .i64 (b.1+1)),b.2))
   <| natc b.1 3
    (reg <| cnd (x1.2.2.2.2.1)
    (app b.2 [b.1] 8 fun h =>
    (z0f n x1 c d) ((IntKind.wrap .i64 (b.1+1)),h))
   <| (z0f n x1 c d) ((IntKind.wrap .i64 (b.1+1)),b.2))
   <| natc b.1 4
    (reg <| cnd (x1.2.2.2.2.2.1)
    (app b.2 [b.1] 8 fun j =>
    (z0f n x1 c d) ((IntKind.wrap .i64 (b.1+1)),j))
   <| (z0f n x1 c d) ((IntKind.wrap .i64 (b.1+1)),b.2))
   <| natc b.1 5
    (reg <| cnd (x1.2.2.2.2.2.2.1)
    (app b.2 [b.1] 8 fun k =>
    (z0f n x1 c d) ((IntKind.wrap .i64 (b.1+1)),k))
   <| (z0f n x1 c d) ((IntKind.wrap .i64 (b.1+1)),b.2))
   <| natc b.1 6
    (reg <| cnd (x1.2.2.2.2.2.2.2.1)
    (app b.2 [b.1] 8 fun l =>
    (z0f n x1 c d) ((IntKind.wrap .i64 (b.1+1)),l))
   <| (z0f n x1 c d) ((IntKind.wrap .i64 (b.1+1)),b.2))
   <| natc b.1 7
    (reg <| cnd (x1.2.2.2.2.2.2.2.2.1)
    (app b.2 [b.1] 8 fun o =>
    (z0f n x1 c d) ((IntKind.wrap .i64 (b.1+1)),o))
   <| (z0f n x1 c d) ((IntKind.wrap .i64 (b.1+1)),b.2))
   <| natc b.1 8
    (reg <| cnd (x1.2.2.2.2.2.2.2.2.2.1)
    (app b.2 [b.1] 8 fun p =>
    (z0f n x1 c d) ((IntKind.wrap .i64 (b.1+1)),p))
   <| (z0f n x1 c d) ((IntKind.wrap .i64 (b.1+1)),b.2))
   <| natc b.1 9
    (reg <| cnd (x1.2.2.2.2.2.2.2.2.2.2.1)
    (app b.2 [b.1] 8 fun q =>
    (z0f n x1 c d) ((IntKind.wrap .i64 (b.1+1)),q))
   <| (z0f n x1 c d) ((IntKind.wrap .i64 (b.1+1)),b.2))
   <| natc b.1 10
    (reg <| cnd (x1.2.2.2.2.2.2.2.2.2.2.2.1)
    (app b.2 [b.1] 8 fun s =>
    (z0f n x1 c d) ((IntKind.wrap .i64 (b.1+1)),s))
   <| (z0f n x1 c d) ((IntKind.wrap .i64 (b.1+1)),b.2))
   <| natc b.1 11
    (reg <| cnd (x1.2.2.2.2.2.2.2.2.2.2.2.2.1)
    (app b.2 [b.1] 8 fun t =>
    (z0f n x1 c d) ((IntKind.wrap .i64 (b.1+1)),t))
   <| (z0f n x1 c d) ((IntKind.wrap .i64 (b.1+1)),b.2))
   <| natc b.1 12
    (reg <| cnd (x1.2.2.2.2.2.2.2.2.2.2.2.2.2.1)
    (app b.2 [b.1] 8 fun u =>
    (z0f n x1 c d) ((IntKind.wrap .i64 (b.1+1)),u))
   <| (z0f n x1 c d) ((IntKind.wrap .i64 (b.1+1)),b.2))
   <| natc b.1 13
    (reg <| cnd (x1.2.2.2.2.2.2.2.2.2.2.2.2.2.2.1)
    (app b.2 [b.1] 8 fun v =>
    (z0f n x1 c d) ((IntKind.wrap .i64 (b.1+1)),v))
   <| (z0f n x1 c d) ((IntKind.wrap .i64 (b.1+1)),b.2))
   <| natc b.1 14
    (reg <| cnd (x1.2.2.2.2.2.2.2.2.2.2.2.2.2.2.2.1)
    (app b.2 [b.1] 8 fun w =>
    (z0f n x1 c d) ((IntKind.wrap .i64 (b.1+1)),w))
   <| (z0f n x1 c d) ((IntKind.wrap .i64 (b.1+1)),b.2))
   <| natc b.1 15
    (reg <| cnd (x1.2.2.2.2.2.2.2.2.2.2.2.2.2.2.2.2)
    (app b.2 [b.1] 8 fun y =>
    (z0f n x1 c d) ((IntKind.wrap .i64 (b.1+1)),y))
   <| (z0f n x1 c d) ((IntKind.wrap .i64 (b.1+1)),b.2))
   <| none)
  <| c b.2
def zdv (n:Nat)(a0:z0s):Option ((List Int)) :=
 bndM 9 (za7 n a0 (false,false,false,false,false,false,false,false,false,false,false,false,false,false,false,false)) fun x1 =>
 z0f n x1
  (fun b=>some b) n (0,[])
def z5p (n:Nat)(m0n:Nat)(a1:(List AV))(a0:Int)(f:Int×(Ars (List (Int×Bool))))(d:(List Int))(c:(Ars (List (Int×Bool)))->Option (Nat×(Ars (List (Int×Bool))))):Nat->Int×(Ars (List (Int×Bool)))->Option (Nat×(Ars (List (Int×Bool))))
 |0,_=>none
 |e+1,b =>
  cnd (decide (b.1<((d.map aI).length:Int)))
   (idx d b.1 fun g =>
   ncx a0 m0n <|
   aob b.2 (Int.toNat a0) fun h =>
   aup b.2 h g true fun j =>
   (z5p n m0n a1 a0 f d c e) ((IntKind.wrap .i64 (b.1+1)),j))
  <| c b.2
def z3p (n:Nat)(m0n:Nat)(a1:(List AV))(a0:Int)(c:(Ars (List (Int×Bool)))->Option (Nat×(Ars (List (Int×Bool))))):Nat->Int×(Ars (List (Int×Bool)))->Option (Nat×(Ars (List (Int×Bool))))
 |0,_=>none
 |e+1,b =>
  cnd (decide (b.1<((a1.map idA).length:Int)))
   (idxD z1z a1 b.1 fun f =>
   bnd (zdv n f) fun g =>
   z5p n m0n a1 a0 b g
    (fun d=>(z3p n m0n a1 a0 c e) ((IntKind.wrap .i64 (b.1+1)),d)) n (0,b.2))
  <| c b.2
def zcm (n:Nat)(a0:Int)(a1:(List AV))(m0n:Nat)(m0:(Ars (List (Int×Bool)))):Option (Nat×(Ars (List (Int×Bool)))) :=
 z3p n m0n a1 a0
  (fun b=>some (m0n,b)) n (0,m0)
def z37 (n:Nat)(m1:(List AV))(m0n:Nat)(a0:Int)(f:Int×(Ars (List (Int×Bool))))(d:(List Int))(c:(Ars (List (Int×Bool)))->Option (Nat×(Ars (List (Int×Bool))))):Nat->Int×(Ars (List (Int×Bool)))->Option (Nat×(Ars (List (Int×Bool))))
 |0,_=>none
 |e+1,b =>
  cnd (decide (b.1<((d.map aI).length:Int)))
   (idx d b.1 fun g =>
   ncx a0 m0n <|
   aob b.2 (Int.toNat a0) fun h =>
   aup b.2 h g true fun j =>
   (z37 n m1 m0n a0 f d c e) ((IntKind.wrap .i64 (b.1+1)),j))
  <| c b.2
def z20 (n:Nat)(m1:(List AV))(m0n:Nat)(a0:Int)(c:(Ars (List (Int×Bool)))->Option (Nat×(Ars (List (Int×Bool))))):Nat->Int×(Ars (List (Int×Bool)))->Option (Nat×(Ars (List (Int×Bool))))
 |0,_=>none
 |e+1,b =>
  cnd (decide (b.1<((m1.map idA).length:Int)))
   (nat b.1 (m1.map idA).length fun f =>
   eltD z1z m1 f fun g =>
   bnd (zdv n g) fun h =>
   z37 n m1 m0n a0 b h
    (fun d=>(z20 n m1 m0n a0 c e) ((IntKind.wrap .i64 (b.1+1)),d)) n (0,b.2))
  <| c b.2
def zab (n:Nat)(a0:Int)(m0n:Nat)(m0:(Ars (List (Int×Bool))))(m1:(List AV)):Option (Nat×(Ars (List (Int×Bool)))) :=
 z20 n m1 m0n a0
  (fun b=>some (m0n,b)) n (0,m0)
def z5o (n:Nat)(b:Int->Int->Nat->(Ars (List (Int×Bool)))->(List (List Int))->Option (Nat×(Ars (List (Int×Bool)))×(List (List Int))))(a1:Int)(x6:(List Int))(d:Nat->(Ars (List (Int×Bool)))->(List (List Int))->Option (Nat×(Ars (List (Int×Bool)))×(List (List Int)))):Nat->Int×Nat×(List (List Int))×(Ars (List (Int×Bool)))->Option (Nat×(Ars (List (Int×Bool)))×(List (List Int)))
 |0,_=>none
 |f+1,c =>
  cnd (decide (c.1<((x6.map aI).length:Int)))
   (idx x6 c.1 fun g =>
   bndM 32 (b g a1 c.2.1 c.2.2.2 c.2.2.1) fun e =>
   (z5o n b a1 x6 d f) ((IntKind.wrap .i64 (c.1+1)),e.1,e.2.2,e.2.1))
  <| d c.2.1 c.2.2.2 c.2.2.1
def z3y:Nat->Int->Int->Nat->(Ars (List (Int×Bool)))->(List (List Int))->Option (Nat×(Ars (List (Int×Bool)))×(List (List Int)))
 |0,_,_,_,_,_=>none
 |n+1,a0,a1,m0n,m0,m1 =>
 ncx a0 m0n <|
 aob m0 (Int.toNat a0) fun x1 =>
 alk m0 x1 a1 (false:Bool) fun x2 x3 =>
 cnd (x2)
  (some (m0n,m0,m1))
 <| ncx a0 m0n <|
 aob m0 (Int.toNat a0) fun x4 =>
 aup m0 x4 a1 true fun x5 =>
 idx m1 a0 fun x6 =>
 z5o n (z3y n) a1 x6
  (fun b c d=>some (b,c,d)) n (0,m0n,m1,x5)
noncomputable def z7w (n:Nat)(d:(Ars (List (Int×Bool))))(f:Int×Nat×(List (List Int))×(Ars (List (Int×Bool))))(c:Nat->(Ars (List (Int×Bool)))->(List (List Int))->Option ((List (List (Int×Bool))))):Nat->Nat×(List (List Int))×(List (Int×Bool))×(Ars (List (Int×Bool)))->Option ((List (List (Int×Bool))))
 |0,_=>none
 |g+1,b =>
  nxt b.2.2.1
   (c b.1 b.2.2.2 b.2.1)
  <| pck b.2.2.1 fun h j =>
  reg <| bndM 120 (z3y n f.1 h.1 b.1 b.2.2.2 b.2.1) fun e =>
  (z7w n d f c g) (e.1,e.2.2,j,e.2.1)
noncomputable def z2h (n:Nat)(b:(Ars (List (Int×Bool))))(d:Nat->(Ars (List (Int×Bool)))->Option ((List (List (Int×Bool))))):Nat->Int×Nat×(List (List Int))×(Ars (List (Int×Bool)))->Option ((List (List (Int×Bool))))
 |0,_=>none
 |h+1,c =>
  cnd (decide (c.1<(((List.map (fun q=>AV.mapv (List.map (encM aI AV.bool) q)) ((aval b))).length:Nat):Int)))
   (idx (aval b) c.1 fun j =>
   z7w n b c
    (fun e f g=>(z2h n b d h) ((IntKind.wrap .i64 (c.1+1)),e,g,f)) n (c.2.1,c.2.2.1,j,c.2.2.2))
  <| d c.2.1 c.2.2.2
def z3g (n:Nat)(k:Nat)(d:Nat)(e:(Ars (List (Int×Bool))))(f:(List (List Int)))(g:Nat)(c:Nat->(Ars (List (Int×Bool)))->Option ((List (List (Int×Bool))))):Nat->Int×(Ars (List (Int×Bool)))->Option ((List (List (Int×Bool))))
 |0,_=>none
 |h+1,b =>
  cnd (decide (b.1<((g:Nat):Int)))
   (ncx b.1 g <|
   ast b.2 (Int.toNat b.1) [] fun j =>
   (z3g n k d e f g c h) ((IntKind.wrap .i64 (b.1+1)),j))
  <| c g b.2
def z2i (n:Nat)(a0:z07)(f:Nat)(d:Nat->(Ars (List (Int×Bool)))->(List (List Int))->Option ((List (List (Int×Bool))))):Nat->Int×Nat×(List (List Int))×(Ars (List (Int×Bool)))->Option ((List (List (Int×Bool))))
 |0,_=>none
 |g+1,b =>
  cnd (decide (b.1<((a0.fEdges.map z0w).length:Int)))
   (idx a0.fEdges b.1 fun c =>
   bndR (zay n c.fChecks) fun h =>
   app h ([(z0l c.fCond)]) 88 fun j =>
   bndM 71 (zab n c.fFrom b.2.1 b.2.2.2 j) fun e =>
   reg <| cnd (decide (0<=c.fTo))
    (ncx c.fTo f <|
    ntk b.2.2.1 (Int.toNat c.fTo) fun k =>
    app k [c.fFrom] 8 fun l =>
    ncx c.fTo f <|
    npt b.2.2.1 (Int.toNat c.fTo) l fun o =>
    (z2i n a0 f d g) ((IntKind.wrap .i64 (b.1+1)),e.1,o,e.2))
   <| (z2i n a0 f d g) ((IntKind.wrap .i64 (b.1+1)),e.1,b.2.2.1,e.2))
  <| d b.2.1 b.2.2.2 b.2.2.1
def z7v (n:Nat)(a0:z07)(e:Int×Nat×(Ars (List (Int×Bool))))(d:zem)(c:Nat->(Ars (List (Int×Bool)))->Option ((List (List (Int×Bool))))):Nat->Int×Nat×(Ars (List (Int×Bool)))->Option ((List (List (Int×Bool))))
 |0,_=>none
 |g+1,b =>
  cnd (decide (b.1<((d.fGuards.map z0u).length:Int)))
   (idx d.fGuards b.1 fun h =>
   bndM 47 (zcm n e.1 ([(z0l h.fCond)]) b.2.1 b.2.2) fun f =>
   (z7v n a0 e d c g) ((IntKind.wrap .i64 (b.1+1)),f.1,f.2))
  <| c b.2.1 b.2.2
def z58 (n:Nat)(a0:z07)(c:Nat->(Ars (List (Int×Bool)))->Option ((List (List (Int×Bool))))):Nat->Int×Nat×(Ars (List (Int×Bool)))->Option ((List (List (Int×Bool))))
 |0,_=>none
 |f+1,b =>
  cnd (decide (b.1<((a0.fStates.map z0q).length:Int)))
   (idx a0.fStates b.1 fun g =>
   ncx b.1 b.2.1 <|
   ast b.2.2 (Int.toNat b.1) [] fun h =>
   z7v n a0 b g
    (fun d e=>(z58 n a0 c f) ((IntKind.wrap .i64 (b.1+1)),d,e)) n (0,b.2.1,h))
  <| c b.2.1 b.2.2
noncomputable def zbt (n:Nat)(a0:z07):Option ((List (List (Int×Bool)))) :=
 mkm ((a0.fStates.map z0q).length:Int) 8 fun x1 =>
 are 21 <| reg <| z58 n a0
  (fun d e=>mkn ((a0.fStates.map z0q).length:Int) 24 fun k =>
 nst 53 <| reg <| z2i n a0 k
  (fun f b c=>mkm ((a0.fStates.map z0q).length:Int) 8 fun l =>
 are 92 <| reg <| z3g n k f b c l
  (fun g h=>frr 53 <| reg <| frm 7021 <| reg <| z2h n b
  (fun o j=>frm 7092 <| reg <| some (aval j)) n (0,g,c,h)) n (0,(mkA (List (Int×Bool)) l))) n (0,d,(replicate (k) ([]:List Int)),e)) n (0,x1,(mkA (List (Int×Bool)) x1))
noncomputable def z3z (n:Nat)(a0:z07):Option ((List (List (Int×Bool)))) :=
 bnd (zbt n a0) fun x1 =>
 some x1
def z2w (n:Nat)(b:Bool):Option (Bool) :=
 some b
def z9l (n:Nat)(a0:z0a)(a1:z0a):Option (Bool) :=
 jon (z2w n) <|
 reg <| cnd (decide (a0.fScope=a1.fScope))
  (z2w n (decide (a1.fTime<=a0.fTime)))
 <| z2w n false
def za2 (n:Nat)(a1:(List z0a))(a0:(List z0a))(c:Option (Bool)):Nat->Int->Option (Bool)
 |0,_=>none
 |d+1,b =>
  cnd (decide (b<((a0.map z09).length:Int)))
   (idx a0 b fun e =>
   idx a1 b fun f =>
   bnd (z9l n e f) fun g =>
   cnd (!(g))
    (some false)
   <| (za2 n a1 a0 c d) (IntKind.wrap .i64 (b+1)))
  <| c
def ze6 (n:Nat)(a0:(List z0a))(a1:(List z0a)):Option (Bool) :=
 cnd (!decide (((a0.map z09).length:Int)=((a1.map z09).length:Int)))
  (some false)
 <| za2 n a1 a0
  (some true) n 0
def z8u (n:Nat)(a1:(List (Int×Bool)))(a0:z00)(c:(List z0h)->Option ((List z0h))):Nat->Int×(List z0h)->Option ((List z0h))
 |0,_=>none
 |e+1,b =>
  cnd (decide (b.1<((a0.fBindings.map z0b).length:Int)))
   (idx a0.fBindings b.1 fun d =>
   reg <| mgv a1 d.fVar (false:Bool) fun f h =>
   cnd (f)
    (app b.2 ([⟨d.fVar,⟨d.fRef.fTime,d.fRef.fSource,d.fRef.fSeq⟩⟩]) 32 fun g =>
    (z8u n a1 a0 c e) ((IntKind.wrap .i64 (b.1+1)),g))
   <| (z8u n a1 a0 c e) ((IntKind.wrap .i64 (b.1+1)),b.2))
  <| c b.2
def zcx (n:Nat)(a0:z00)(a1:(List (Int×Bool))):Option ((List z0h)) :=
 z8u n a1 a0
  (fun b=>some b) n (0,[])
def zct (n:Nat)(a1:(List z0h))(a0:(List z0h))(c:Option (Bool)):Nat->Int->Option (Bool)
 |0,_=>none
 |f+1,b =>
  cnd (decide (b<((a0.map z0b).length:Int)))
   (idx a0 b fun d =>
   idx a1 b fun e =>
   cnd (!(decide (d.fVar=e.fVar) && (decide (d.fRef.fTime=e.fRef.fTime) && (decide (d.fRef.fSource=e.fRef.fSource) && (decide (d.fRef.fSeq=e.fRef.fSeq) && true)))))
    (some false)
   <| (zct n a1 a0 c f) (IntKind.wrap .i64 (b+1)))
  <| c
def zft (n:Nat)(a0:(List z0h))(a1:(List z0h)):Option (Bool) :=
 cnd (!decide (((a0.map z0b).length:Int)=((a1.map z0b).length:Int)))
  (some false)
 <| zct n a1 a0
  (some true) n 0
def z2p (n:Nat)(b:Bool):Option (Bool) :=
 some b
def z6a (n:Nat)(a0:z00)(a1:z00)(a2:(List (List (Int×Bool)))):Option (Bool) :=
 jon (z2p n) <|
 reg <| cnd (decide (a0.fState=a1.fState))
  (bnd (ze6 n a0.fStarts a1.fStarts) fun x8 =>
  cnd (x8)
   (idx a2 a0.fState fun x9 =>
   bnd (zcx n a0 x9) fun b =>
   idx a2 a1.fState fun c =>
   bnd (zcx n a1 c) fun d =>
   bnd (zft n b d) fun e =>
   z2p n e)
  <| z2p n false)
 <| z2p n false
def z26 (n:Nat)(g:(List (List (Int×Bool))))(a0:(List z00))(h:Int×(List z00))(b:z00)(c:Int)(d:Int->Int->(List z0h)->(List z0a)->Option ((List z00)))(e:Int->Option ((List z00)))(f:Bool):Option ((List z00)) :=
 cnd (f)
  (d c b.fState b.fBindings b.fStarts)
 <| e (IntKind.wrap .i64 (c+1))
def z1q (n:Nat)(c:(List (List (Int×Bool))))(a0:(List z00))(d:Int×(List z00))(e:z00)(b:Int->Int->(List z0h)->(List z0a)->Option ((List z00))):Nat->Int->Option ((List z00))
 |0,_=>none
 |g+1,f =>
  cnd (decide (f<((a0.map z01).length:Int)))
   (idx a0 f fun h =>
   jon (z26 n c a0 d e f b (z1q n c a0 d e b g)) <|
   reg <| cnd (!decide (f=d.1))
    (bnd (z6a n h e c) fun j =>
    cnd (j)
     (cnd (decide (f<d.1))
       (z26 n c a0 d e f b (z1q n c a0 d e b g) true)
     <| bnd (z6a n e h c) fun k =>
     z26 n c a0 d e f b (z1q n c a0 d e b g) !(k))
    <| z26 n c a0 d e f b (z1q n c a0 d e b g) false)
   <| z26 n c a0 d e f b (z1q n c a0 d e b g) false)
  <| b (-1) e.fState e.fBindings e.fStarts
def z24 (n:Nat)(d:(List (List (Int×Bool))))(a0:(List z00))(c:(List z00)->Option ((List z00))):Nat->Int×(List z00)->Option ((List z00))
 |0,_=>none
 |j+1,b =>
  cnd (decide (b.1<((a0.map z01).length:Int)))
   (idx a0 b.1 fun k =>
   z1q n d a0 b k
    (fun e f g h=>reg <| cnd (decide (e<0))
    (app b.2 ([⟨f,g,h⟩]) 56 fun l =>
    (z24 n d a0 c j) ((IntKind.wrap .i64 (b.1+1)),l))
   <| (z24 n d a0 c j) ((IntKind.wrap .i64 (b.1+1)),b.2)) n 0)
  <| c b.2
def z9c (n:Nat)(a0:(List z00))(c:(List (List (Int×Bool)))):Option ((List z00)) :=
 z24 n c a0
  (fun b=>some b) n (0,[])
def zgm (n:Nat)(a0:(List z00))(a1bc0:(List (List (Int×Bool)))):Option ((List z00)) :=
 bnd (z9c n a0 a1bc0) fun x1 =>
 bnd (zc2 n x1) fun x2 =>
 some x2
def zbm (n:Nat)(a2c0bc0:(List (List (Int×Bool))))(a1:(List z03))(a0:z07)(c:(List (List z00))->Option ((List (List z00))×Int)):Nat->Int×(List (List z00))->Option ((List (List z00))×Int)
 |0,_=>none
 |e+1,b =>
  cnd (decide (b.1<((a1.map z02).length:Int)))
   (idx a1 b.1 fun f =>
   sls a1 0 b.1 fun g =>
   nat b.1 (List.map (fun q=>AV.sl 3 (List.map z01 q)) (b.2)).length fun h =>
   elt b.2 h fun j =>
   bnd (zfm n a0 g j f) fun d =>
   cnd (!decide (d.2.2=0))
    (some ([],d.2.2))
   <| cnd (decide (0<((d.2.1.map z0d).length:Int)))
    (some ([],22))
   <| bnd (zgm n d.1 a2c0bc0) fun k =>
   bldS ([k]:List (List z00)) fun l =>
   app b.2 l 24 fun o =>
   (zbm n a2c0bc0 a1 a0 c e) ((IntKind.wrap .i64 (b.1+1)),o))
  <| c b.2
def zg0 (n:Nat)(a0:z07)(a1:(List z03))(a2c0bc0:(List (List (Int×Bool)))):Option ((List (List z00))×Int) :=
 bnd (zfl n) fun x1 =>
 bldS ([x1]:List z00) fun x2 =>
 bld ([x2]:List (List z00)) fun x3 =>
 zbm n a2c0bc0 a1 a0
  (fun b=>some (b,0)) n (0,x3)
noncomputable def zfn (n:Nat)(a0:z07)(a1:(List z03)):Option (Int×z06×z0n×Int) :=
 bnd (z8x n a0 a1) fun x1 =>
 cnd (!decide (x1=0))
  (some (0,⟨[]⟩,⟨[]⟩,x1))
 <| bnd (zow n a0 a1) fun x2 =>
 cnd (!decide (x2.2=0))
  (some (0,⟨[]⟩,⟨[]⟩,0))
 <| cnd (decide (0<((x2.1.map z0d).length:Int)))
  (idx x2.1 0 fun x3 =>
  some (1,⟨x3.fBindings⟩,⟨[]⟩,0))
 <| bndM 42 (z3z n a0) fun x4 =>
 frb 43000000 <| frb 11 <| reg <| bnd (zg0 n a0 a1 x4) fun x5 =>
 some (2,⟨[]⟩,⟨x5.1⟩,0)
def zju (n:Nat)(a0:z07)(a1:(List z03))(a2:z00):Option (Int) :=
 bndP (zeo n a0 a1) (fun r=>r.1)
  (fun x1 =>
 cnd (!decide (x1.2=0))
  (some x1.2)
 <| none) fun x1 x2 =>
 cnd (!decide (x1.2=0))
  (some x1.2)
 <| bnd (z69 n x2 a2) fun x3 =>
 some x3
def z9b (n:Nat)(a1:(List z0a))(a0:(List z0a))(c:Option (Bool)):Nat->Int->Option (Bool)
 |0,_=>none
 |d+1,b =>
  cnd (decide (b<((a0.map z09).length:Int)))
   (idx a0 b fun e =>
   idx a1 b fun f =>
   cnd (!(decide (e.fScope=f.fScope) && (decide (e.fTime=f.fTime) && true)))
    (some false)
   <| (z9b n a1 a0 c d) (IntKind.wrap .i64 (b+1)))
  <| c
def zde (n:Nat)(a0:(List z0a))(a1:(List z0a)):Option (Bool) :=
 cnd (!decide (((a0.map z09).length:Int)=((a1.map z09).length:Int)))
  (some false)
 <| z9b n a1 a0
  (some true) n 0
def z6r (n:Nat)(b:Bool):Option (Bool) :=
 some b
def zf8 (n:Nat)(a0:z00)(a1:z00):Option (Bool) :=
 jon (z6r n) <|
 reg <| cnd (decide (a0.fState=a1.fState))
  (bnd (zft n a0.fBindings a1.fBindings) fun x4 =>
  cnd (x4)
   (bnd (zde n a0.fStarts a1.fStarts) fun x5 =>
   z6r n x5)
  <| z6r n false)
 <| z6r n false
def z2x (n:Nat)(a0:z00)(x1:(List z00)×Int)(b:Bool):Option (Int) :=
 cnd (b)
  (some 0)
 <| idx x1.1 0 fun x3 =>
 bnd (zf8 n x3 a0) fun x4 =>
 cnd (x4)
  (some (-1))
 <| some 1
def zce (n:Nat)(a0:z00)(a1:z00):Option (Int) :=
 bnd (znc n ([a0,a1])) fun x1 =>
 jon (z2x n a0 x1) <|
 reg <| cnd (!decide (x1.2=0))
  (z2x n a0 x1 true)
 <| z2x n a0 x1 (decide (((x1.1.map z01).length:Int)<2))
def z8v (n:Nat)(a2:z0n)(a1:(List z03))(a0:z07)(e:Int)(f:(List z00))(c:Int)(b:Int->Option (Int))(d:Bool):Option (Int) :=
 cnd (d)
  (some 14)
 <| b (IntKind.wrap .i64 (c+1))
def z6s (n:Nat)(a2:z0n)(a1:(List z03))(a0:z07)(b:Int)(d:(List z00))(e:Option (Int)):Nat->Int->Option (Int)
 |0,_=>none
 |f+1,c =>
  cnd (decide (c<((d.map z01).length:Int)))
   (idx d c fun g =>
   sls a1 0 b fun j =>
   bnd (zju n a0 j g) fun h =>
   cnd (!decide (h=0))
    (some h)
   <| jon (z8v n a2 a1 a0 b d c (z6s n a2 a1 a0 b d e f)) <|
   reg <| cnd (decide (0<c))
    (idx d (IntKind.wrap .i64 (c-1)) fun k =>
    bnd (zce n k g) fun l =>
    z8v n a2 a1 a0 b d c (z6s n a2 a1 a0 b d e f) (decide (0<=l)))
   <| z8v n a2 a1 a0 b d c (z6s n a2 a1 a0 b d e f) false)
  <| e
def zar (n:Nat)(a2:z0n)(a1:(List z03))(a0:z07)(c:Option (Int)):Nat->Int->Option (Int)
 |0,_=>none
 |d+1,b =>
  cnd (decide (b<(((List.map (fun q=>AV.sl 3 (List.map z01 q)) (a2.fSets)).length:Nat):Int)))
   (idx a2.fSets b fun e =>
   cnd (decide (4096<((e.map z01).length:Int)))
    (some 5)
   <| z6s n a2 a1 a0 b e
    ((zar n a2 a1 a0 c d) (IntKind.wrap .i64 (b+1))) n 0)
  <| c
def zcy (n:Nat)(a0:z07)(a1:(List z03))(a2:z0n):Option (Int) :=
 cnd (!decide ((((List.map (fun q=>AV.sl 3 (List.map z01 q)) (a2.fSets)).length:Nat):Int)=(IntKind.wrap .i64 (((a1.map z02).length:Int)+1))))
  (some 15)
 <| zar n a2 a1 a0
  (some 0) n 0
def zcn (n:Nat)(a0:z00)(a1bc0:(List (List (Int×Bool))))(a2:z00):Option (Bool) :=
 bnd (z6a n a0 a2 a1bc0) fun x1 =>
 some x1
def z3n (n:Nat)(d:z00)(a1c0bc0:(List (List (Int×Bool))))(a0:(List z00))(c:Option (Int)):Nat->Int->Option (Int)
 |0,_=>none
 |e+1,b =>
  cnd (decide (b<((a0.map z01).length:Int)))
   (idx a0 b fun f =>
   bnd (zcn n f a1c0bc0 d) fun g =>
   cnd (g)
    (some b)
   <| (z3n n d a1c0bc0 a0 c e) (IntKind.wrap .i64 (b+1)))
  <| c
def zcl (n:Nat)(a0:(List z00))(a1c0bc0:(List (List (Int×Bool))))(b:z00):Option (Int) :=
 z3n n b a1c0bc0 a0
  (some (-1)) n 0
def zaz (n:Nat)(a0:(List z00))(a1c0bc0:(List (List (Int×Bool))))(b:z00):Option (Bool) :=
 bnd (zcl n a0 a1c0bc0 b) fun x1 =>
 some (decide (0<=x1))
def za6 (n:Nat)(a0:(List z00))(a1:z00)(a2bc0:(List (List (Int×Bool)))):Option (Bool) :=
 bnd (zaz n a0 a2bc0 a1) fun x1 =>
 some x1
def znb (n:Nat)(a0:z07)(a1:(List z03))(a2:z00)(a3:z03):Option ((List z00)×(List z06)×Int) :=
 bndP (zeo n a0 a1) (fun r=>r.1)
  (fun x1 =>
 cnd (!decide (x1.2=0))
  (some ([],[],x1.2))
 <| none) fun x1 x2 =>
 cnd (!decide (x1.2=0))
  (some ([],[],x1.2))
 <| bnd (z69 n x2 a2) fun x3 =>
 cnd (!decide (x3=0))
  (some ([],[],x3))
 <| bnd (zi6 n [a2] a3) fun x4 =>
 cnd (!decide (x4=0))
  (some ([],[],x4))
 <| bnd (z5d n x2 [a2] a3) fun x5 =>
 some (x5.1,x5.2,0)
def ze8 (n:Nat)(a0:z00)(a1bc0bc0:(List (List (Int×Bool))))(a2:z0n)(a3:Int):Option (Bool) :=
 idx a2.fSets (IntKind.wrap .i64 (a3+1)) fun x1 =>
 bnd (za6 n x1 a0 a1bc0bc0) fun x2 =>
 some !(x2)
def z3m (n:Nat)(d:Int)(e:z0n)(a1c0bc0bc0:(List (List (Int×Bool))))(a0:(List z00))(c:Option (Int)):Nat->Int->Option (Int)
 |0,_=>none
 |f+1,b =>
  cnd (decide (b<((a0.map z01).length:Int)))
   (idx a0 b fun g =>
   bnd (ze8 n g a1c0bc0bc0 e d) fun h =>
   cnd (h)
    (some b)
   <| (z3m n d e a1c0bc0bc0 a0 c f) (IntKind.wrap .i64 (b+1)))
  <| c
def zck (n:Nat)(a0:(List z00))(a1c0bc0bc0:(List (List (Int×Bool))))(b:z0n)(c:Int):Option (Int) :=
 z3m n c b a1c0bc0bc0 a0
  (some (-1)) n 0
def z8p (n:Nat)(a0:(List z00))(a1c0bc0bc0:(List (List (Int×Bool))))(b:z0n)(c:Int):Option (Bool) :=
 bnd (zck n a0 a1c0bc0bc0 b c) fun x1 =>
 some (decide (0<=x1))
def z4q (n:Nat)(a2:z0n)(a1:(List z03))(a0:z07)(e:(List (List (Int×Bool)))×Int)(f:z03)(g:(List z00))(c:Int)(b:Int->Option (Int))(d:Bool):Option (Int) :=
 cnd (d)
  (some 18)
 <| b (IntKind.wrap .i64 (c+1))
def z3c (n:Nat)(a2:z0n)(a1:(List z03))(a0:z07)(b:(List (List (Int×Bool)))×Int)(e:z03)(d:(List z00))(c:Option (Int)):Nat->Int->Option (Int)
 |0,_=>none
 |g+1,f =>
  cnd (decide (f<((d.map z01).length:Int)))
   (idx d f fun j =>
   sls a1 0 b.2 fun k =>
   bnd (znb n a0 k j e) fun h =>
   jon (z4q n a2 a1 a0 b e d f (z3c n a2 a1 a0 b e d c g)) <|
   reg <| cnd (!decide (h.2.2=0))
    (z4q n a2 a1 a0 b e d f (z3c n a2 a1 a0 b e d c g) true)
   <| cnd (decide (0<((h.2.1.map z0d).length:Int)))
    (z4q n a2 a1 a0 b e d f (z3c n a2 a1 a0 b e d c g) true)
   <| bnd (z8p n h.1 b.1 a2 b.2) fun l =>
   z4q n a2 a1 a0 b e d f (z3c n a2 a1 a0 b e d c g) l)
  <| c
def z4p (n:Nat)(a2:z0n)(a1:(List z03))(a0:z07)(c:Option (Int)):Nat->(List (List (Int×Bool)))×Int->Option (Int)
 |0,_=>none
 |d+1,b =>
  cnd (decide (b.2<((a1.map z02).length:Int)))
   (idx a1 b.2 fun e =>
   idx a2.fSets b.2 fun f =>
   z3c n a2 a1 a0 b e f
    ((z4p n a2 a1 a0 c d) (b.1,(IntKind.wrap .i64 (b.2+1)))) n 0)
  <| c
noncomputable def z3a (n:Nat)(a0:z07)(a1:(List z03))(a2:z0n):Option (Int) :=
 bnd (z8x n a0 a1) fun x1 =>
 cnd (!decide (x1=0))
  (some x1)
 <| bnd (zcy n a0 a1 a2) fun x2 =>
 cnd (!decide (x2=0))
  (some x2)
 <| bndM 32 (z3z n a0) fun x3 =>
 frb 33000000 <| frb 9 <| reg <| idx a2.fSets 0 fun x4 =>
 bnd (zfl n) fun x5 =>
 bnd (za6 n x4 x5 x3) fun x6 =>
 cnd (!(x6))
  (some 18)
 <| z4p n a2 a1 a0
  (some 0) n (x3,0)
def z7r (n:Nat)(b:Bool):Option (Bool) :=
 some b
noncomputable def z56 (n:Nat)(b:(List z03))(c:(List (List z00)))(e:Bool):Option (Bool) :=
 cnd (e)
  (some false)
 <| bndR (zay n c) fun d =>
 nat 1 (List.map (fun q=>AV.sl 3 (List.map z01 q)) (d)).length fun f =>
 elt d f fun g =>
 sls g 0 1 fun h =>
 nat 1 (List.map (fun q=>AV.sl 3 (List.map z01 q)) (d)).length fun j =>
 stx d j (fun v=>h) fun k =>
 jon (z7r n) <|
 reg <| bnd (z8t n) fun l =>
 sls b 0 3 fun o =>
 bnd (z3a n l o (⟨c⟩:z0n)) fun p =>
 cnd (decide (p=0))
  (bnd (z8t n) fun s =>
  sls b 0 3 fun t =>
  bnd (z3a n s t (⟨k⟩:z0n)) fun u =>
  z7r n (decide (u=18)))
 <| z7r n false
def z7q (n:Nat)(x1:(List z03))(x4:z0n×Int)(x7:Int×z06×z0n×Int)(x9:Int×z06×z0n×Int)(c:Int)(b:Int->Option (Bool))(d:Bool):Option (Bool) :=
 cnd (d)
  (some false)
 <| b (IntKind.wrap .i64 (c+1))
def z7p (n:Nat)(x1:(List z03))(x4:z0n×Int)(x7:Int×z06×z0n×Int)(x9:Int×z06×z0n×Int)(c:(List z03)->(List (List z00))->(List z0h)->Option (Bool)):Nat->Int->Option (Bool)
 |0,_=>none
 |d+1,b =>
  cnd (decide (b<(((List.map (fun q=>AV.sl 3 (List.map z01 q)) (x4.1.fSets)).length:Nat):Int)))
   (jon (z7q n x1 x4 x7 x9 b (z7p n x1 x4 x7 x9 c d)) <|
   reg <| idx x4.1.fSets b fun e =>
   cnd (!decide (((e.map z01).length:Int)=(IntKind.wrap .i64 (b+1))))
    (z7q n x1 x4 x7 x9 b (z7p n x1 x4 x7 x9 c d) true)
   <| idx x7.2.2.1.fSets b fun f =>
   z7q n x1 x4 x7 x9 b (z7p n x1 x4 x7 x9 c d) (!decide (((f.map z01).length:Int)=(IntKind.wrap .i64 ((min b 1)+1)))))
  <| c x1 x7.2.2.1.fSets x9.2.1.fBindings
noncomputable def z2g (n:Nat)(x1:(List z03))(x4:z0n×Int)(x7:Int×z06×z0n×Int)(x9:Int×z06×z0n×Int)(e:Bool):Option (Bool) :=
 cnd (e)
  (some false)
 <| z7p n x1 x4 x7 x9
  (fun b c d=>jon (z56 n b c) <|
 reg <| cnd (!decide (((d.map z0b).length:Int)=2))
  (z56 n b c true)
 <| idx d 0 fun f =>
 cnd (!decide (f.fRef.fTime=1))
  (z56 n b c true)
 <| idx d 1 fun g =>
 z56 n b c (!decide (g.fRef.fTime=4))) n 0
noncomputable def z83 (n:Nat):Option (Bool) :=
 bld ([⟨0,0,0,1,[]⟩,⟨0,1,0,2,[]⟩,⟨0,2,0,3,[]⟩,⟨0,3,1,4,[]⟩]:List z03) fun x1 =>
 frz 18 <| reg <| bnd (z8t n) fun x2 =>
 sls x1 0 3 fun x3 =>
 bnd (zby n x2 x3) fun x4 =>
 bnd (z8t n) fun x5 =>
 sls x1 0 3 fun x6 =>
 bnd (zfn n x5 x6) fun x7 =>
 bnd (z8t n) fun x8 =>
 bnd (zfn n x8 x1) fun x9 =>
 jon (z2g n x1 x4 x7 x9) <|
 reg <| cnd (!decide ((IntKind.wrap .i64 ((IntKind.wrap .i64 (x4.2+x7.2.2.2))+x9.2.2.2))=0))
  (z2g n x1 x4 x7 x9 true)
 <| cnd (!decide (x7.1=2))
  (z2g n x1 x4 x7 x9 true)
 <| cnd (!decide (x9.1=1))
  (z2g n x1 x4 x7 x9 true)
 <| cnd (!decide ((((List.map (fun q=>AV.sl 3 (List.map z01 q)) (x4.1.fSets)).length:Nat):Int)=4))
  (z2g n x1 x4 x7 x9 true)
 <| z2g n x1 x4 x7 x9 (!decide ((((List.map (fun q=>AV.sl 3 (List.map z01 q)) (x7.2.2.1.fSets)).length:Nat):Int)=4))
def z8f (n:Nat)(a1:(List z00))(a0:(List z00))(c:Option (Bool)):Nat->Int->Option (Bool)
 |0,_=>none
 |d+1,b =>
  cnd (decide (b<((a0.map z01).length:Int)))
   (idx a0 b fun e =>
   idx a1 b fun f =>
   bnd (z3r n e f) fun g =>
   cnd (!decide (g=0))
    (some false)
   <| (z8f n a1 a0 c d) (IntKind.wrap .i64 (b+1)))
  <| c
def zc6 (n:Nat)(a0:(List z00))(a1:(List z00)):Option (Bool) :=
 cnd (!decide (((a0.map z01).length:Int)=((a1.map z01).length:Int)))
  (some false)
 <| z8f n a1 a0
  (some true) n 0
def z8d (n:Nat)(a1:z0n)(a0:z0n)(c:Option (Bool)):Nat->Int->Option (Bool)
 |0,_=>none
 |d+1,b =>
  cnd (decide (b<(((List.map (fun q=>AV.sl 3 (List.map z01 q)) (a0.fSets)).length:Nat):Int)))
   (idx a0.fSets b fun e =>
   idx a1.fSets b fun f =>
   bnd (zc6 n e f) fun g =>
   cnd (!(g))
    (some false)
   <| (z8d n a1 a0 c d) (IntKind.wrap .i64 (b+1)))
  <| c
def zc4 (n:Nat)(a0:z0n)(a1:z0n):Option (Bool) :=
 cnd (!decide ((((List.map (fun q=>AV.sl 3 (List.map z01 q)) (a0.fSets)).length:Nat):Int)=(((List.map (fun q=>AV.sl 3 (List.map z01 q)) (a1.fSets)).length:Nat):Int)))
  (some false)
 <| z8d n a1 a0
  (some true) n 0
def z7x (n:Nat)(a2:z0n)(x2:(List (List (Int×Bool))))(c:(List (List z00))->Option (z0n×Int)):Nat->Int×(List (List z00))->Option (z0n×Int)
 |0,_=>none
 |d+1,b =>
  cnd (decide (b.1<(((List.map (fun q=>AV.sl 3 (List.map z01 q)) (a2.fSets)).length:Nat):Int)))
   (idx a2.fSets b.1 fun e =>
   reg <| bnd (z9c n e x2) fun f =>
   bnd (zc2 n f) fun g =>
   app b.2 [g] 24 fun h =>
   (z7x n a2 x2 c d) ((IntKind.wrap .i64 (b.1+1)),h))
  <| c b.2
noncomputable def z85 (n:Nat)(a0:z07)(a1:(List z03))(a2:z0n):Option (z0n×Int) :=
 bnd (z3a n a0 a1 a2) fun x1 =>
 cnd (!decide (x1=0))
  (some (⟨[]⟩,x1))
 <| bndM 22 (z3z n a0) fun x2 =>
 z7x n a2 x2
  (fun b=>some (⟨b⟩,0)) n (0,[])
def z8j (n:Nat)(a0:z0n)(c:Int->Option (Int)):Nat->Int×Int->Option (Int)
 |0,_=>none
 |d+1,b =>
  cnd (decide (b.2<(((List.map (fun q=>AV.sl 3 (List.map z01 q)) (a0.fSets)).length:Nat):Int)))
   (idx a0.fSets b.2 fun e =>
   (z8j n a0 c d) ((IntKind.wrap .i64 (b.1+((e.map z01).length:Int))),(IntKind.wrap .i64 (b.2+1))))
  <| c b.1
def zao (n:Nat)(a0:z0n):Option (Int) :=
 z8j n a0
  (fun b=>some b) n (0,0)
def z62 (n:Nat)(a0:z00)(a1:z00):Option (Bool) :=
 bnd (z3r n a1 a0) fun x1 =>
 some (decide (x1=0))
def z3l (n:Nat)(d:z00)(a0:(List z00))(c:Option (Int)):Nat->Int->Option (Int)
 |0,_=>none
 |e+1,b =>
  cnd (decide (b<((a0.map z01).length:Int)))
   (idx a0 b fun f =>
   bnd (z62 n f d) fun g =>
   cnd (g)
    (some b)
   <| (z3l n d a0 c e) (IntKind.wrap .i64 (b+1)))
  <| c
def zcj (n:Nat)(a0:(List z00))(b:z00):Option (Int) :=
 z3l n b a0
  (some (-1)) n 0
def z8o (n:Nat)(a0:(List z00))(b:z00):Option (Bool) :=
 bnd (zcj n a0 b) fun x1 =>
 some (decide (0<=x1))
def z1j (n:Nat)(b:Bool):Option (Bool) :=
 some b
def z1x (n:Nat)(c:(List (List z00))×Int×Int×(List (List z00)))(e:(List z00))(b:Option (Bool)):Nat->Int->Option (Bool)
 |0,_=>none
 |f+1,d =>
  cnd (decide (d<((e.map z01).length:Int)))
   (idx e d fun g =>
   idx c.2.2.2 c.2.2.1 fun h =>
   bnd (z8o n h g) fun j =>
   cnd (!(j))
    (some false)
   <| (z1x n c e b f) (IntKind.wrap .i64 (d+1)))
  <| b
def z1i (n:Nat)(c:Option (Bool)):Nat->(List (List z00))×Int×Int×(List (List z00))->Option (Bool)
 |0,_=>none
 |d+1,b =>
  cnd (decide (b.2.2.1<b.2.1))
   (idx b.1 b.2.2.1 fun e =>
   z1x n b e
    ((z1i n c d) (b.1,b.2.1,(IntKind.wrap .i64 (b.2.2.1+1)),b.2.2.2)) n 0)
  <| c
noncomputable def z0z (n:Nat)(x3:z0n×Int)(x7:z0n×Int)(b:Bool):Option (Bool) :=
 cnd (b)
  (some false)
 <| z1i n
  (bnd (z83 n) fun c =>
 some c) n (x7.1.fSets,(((List.map (fun q=>AV.sl 3 (List.map z01 q)) (x7.1.fSets)).length:Nat):Int),0,x3.1.fSets)
noncomputable def z7c (n:Nat)(a0:z07)(a1:(List z03)):Option (Bool) :=
 bnd (zcb n a0 a1) fun x1 =>
 cnd (!(x1))
  (bnd (z83 n) fun x2 =>
  some x2)
 <| bnd (zby n a0 a1) fun x3 =>
 cnd (!decide (x3.2=0))
  (jon (z1j n) <|
  reg <| cnd (decide (x3.2=22))
   (bnd (z83 n) fun x6 =>
   z1j n x6)
  <| z1j n false)
 <| bnd (z85 n a0 a1 x3.1) fun x7 =>
 bnd (z85 n a0 a1 x7.1) fun x8 =>
 jon (z0z n x3 x7) <|
 reg <| cnd (!decide (x7.2=0))
  (z0z n x3 x7 true)
 <| cnd (!decide (x8.2=0))
  (z0z n x3 x7 true)
 <| bnd (z3a n a0 a1 x7.1) fun e =>
 cnd (!decide (e=0))
  (z0z n x3 x7 true)
 <| bnd (zc4 n x7.1 x8.1) fun b =>
 cnd (!(b))
  (z0z n x3 x7 true)
 <| bnd (zao n x7.1) fun c =>
 bnd (zao n x3.1) fun d =>
 cnd (decide (d<c))
  (z0z n x3 x7 true)
 <| z0z n x3 x7 (!decide ((((List.map (fun q=>AV.sl 3 (List.map z01 q)) (x7.1.fSets)).length:Nat):Int)=(((List.map (fun q=>AV.sl 3 (List.map z01 q)) (x3.1.fSets)).length:Nat):Int)))
attribute [irreducible] z72 z6y z1r z5w z23 z5v z38 z43 z18 z3i z71 z6z z6w z47 z4u z61 z68 z2v z65 z67 z75 z3b z4c z4d z8y z7e z79 z78 zdr zbc z3o zdg zdh z1y zc1 zgl z2w z2p z26 z6r z2x z8v z4q z7r z56 z7q z2g      z1j z0z     
end Go.Proofs.YtidhlpjgifoneaaGreat
