/- What some functions compute, over plain values. Printed by a program of mine (gen_fun.lean). -/
import Derived.Test.YtjpknpjjcddnnaaGreatK20
import Derived.Test.YtjpknpjjcddnnaaGreatK17
set_option linter.unusedVariables false
set_option linter.unusedSimpArgs false
set_option maxRecDepth 100000
set_option maxHeartbeats 8000000
namespace Go.Proofs.YtjpknpjjcddnnaaGreat
open Go.RowKit
def z9x (n:Nat)(a0:z00)(a1:z00):Option (Bool) :=
 bnd (zfx n a0 a1) fun x1 =>
 some (decide (x1=0))
def z4m (n:Nat)(x46:Nat)(k2_1_0:Int->(List z00)->Option ((List z00))):Nat->Int×Int×(List z00)->Option ((List z00))
 |0,_=>none
 |mv2_1+1,v2_1 =>
  gle x46 (v2_1.2.2.map z0e).length <|
  cnd (decide (v2_1.2.1<((((v2_1.2.2.map z0e).length-x46:Nat)):Int)))
   (nat v2_1.2.1 ((v2_1.2.2.map z0e).length-x46) fun x92 =>
   elt v2_1.2.2 (x46+x92) fun x93 =>
   nat (IntKind.wrap .i64 (v2_1.2.1-1)) ((v2_1.2.2.map z0e).length-x46) fun x94 =>
   elt v2_1.2.2 (x46+x94) fun x95 =>
   bnd (z9x n x93 x95) fun x96 =>
   cnd (!(x96))
    (nat v2_1.2.1 ((v2_1.2.2.map z0e).length-x46) fun x97 =>
    elt v2_1.2.2 (x46+x97) fun x98 =>
    nat v2_1.1 (v2_1.2.2.map z0e).length fun x99 =>
    stx v2_1.2.2 x99 (fun x100=>x98) fun x101 =>
    (z4m n x46 k2_1_0 mv2_1) ((IntKind.wrap .i64 (v2_1.1+1)),(IntKind.wrap .i64 (v2_1.2.1+1)),x101))
   <| (z4m n x46 k2_1_0 mv2_1) (v2_1.1,(IntKind.wrap .i64 (v2_1.2.1+1)),v2_1.2.2))
  <| k2_1_0 v2_1.1 v2_1.2.2
def z6m (n:Nat)(m0:(List z00))(k1_0_0:Option ((List z00))):Nat->Int->Option ((List z00))
 |0,_=>none
 |mv1_0+1,v1_0 =>
  cnd (decide (v1_0<((m0.map z0e).length:Int)))
   (nat v1_0 (m0.map z0e).length fun x41 =>
   elt m0 x41 fun x42 =>
   nat (IntKind.wrap .i64 (v1_0-1)) (m0.map z0e).length fun x43 =>
   elt m0 x43 fun x44 =>
   bnd (z9x n x42 x44) fun x45 =>
   cnd (x45)
    (nle v1_0 (m0.map z0e).length fun x46 =>
    z4m n x46
     (fun k2_1_0y0 k2_1_0y1=>nle k2_1_0y0 (k2_1_0y1.map z0e).length fun x89 =>
    clr k2_1_0y1 x89 (⟨0,[],[]⟩:z00) fun x90 =>
    sls x90 0 k2_1_0y0 fun x91 =>
    some x91) n (v1_0,1,m0))
   <| (z6m n m0 k1_0_0 mv1_0) (IntKind.wrap .i64 (v1_0+1)))
  <| k1_0_0
def z9k (n:Nat)(m0:(List z00)):Option ((List z00)) :=
 cnd (decide (((m0.map z0e).length:Int)<2))
  (some m0)
 <| z6m n m0
  (some m0) n 1
def zhi (n:Nat)(m0:(List z00)):Option ((List z00)) :=
 bndC (zwk cfOk zat n m0) fun x1 =>
 frb 3 <| reg <| bndM 10 (z9k n x1) fun x2 =>
 some x2
def z2b (n:Nat)(a0:Int)(a1:Int):Option (z01) :=
 some (⟨0,a0,a1,a0,[]⟩)
def zcx (n:Nat):Option (z05) :=
 bnd (z19 n true) fun x1 =>
 mak 2 24 (⟨[]⟩:za1) fun x2 =>
 some (⟨3,1,x2,[⟨0,1,0,0,⟨0,[],0,0,0,x1⟩,[],[],[],[],[]⟩,⟨1,(-1),1,0,⟨0,[],0,0,0,x1⟩,[],[],[],[],[]⟩]⟩)
structure z0q where
 fa:z05
 fheld:(List (z1h×z01))
deriving Inhabited
structure z4q where
 fsource:Int
 fseq:Int
deriving DecidableEq,Inhabited
def z9u (x:z4q):AV:=.agg [aI (x.fsource),aI (x.fseq)]
def ze0 (n:Nat)(a0:z01):Option (Bool) :=
 cnd (decide (0<=a0.fTime))
  (cnd (decide (a0.fTime<=1099511627776))
    (cnd (decide (0<=a0.fSource))
      (cnd (decide (a0.fSource<8))
        (cnd (decide (0<=a0.fSeq))
          (some (decide (a0.fSeq<=1099511627776)))
        <| some false)
      <| some false)
    <| some false)
  <| some false)
 <| some false
def zk6 (n:Nat)(a0:z01):Option (z1h) :=
 some (⟨a0.fTime,a0.fSource,a0.fSeq⟩)
def ze4 (n:Nat)(a0:z01)(a1:z01):Option (Int) :=
 bnd (zk6 n a0) fun x1 =>
 bnd (zk6 n a1) fun x2 =>
 cnd ((decide (x1.fTime=x2.fTime) && (decide (x1.fSource=x2.fSource) && (decide (x1.fSeq=x2.fSeq) && true))))
  (some 0)
 <| bnd (z4p n a0.fTime a1.fTime) fun x3 =>
 bnd (z4p n a0.fSource a1.fSource) fun x4 =>
 bnd (z4p n a0.fSeq a1.fSeq) fun x5 =>
 bnd (zg1 n ([x3,x4,x5])) fun x6 =>
 some x6
def zez (n:Nat)(a0:z01):Option (z4q) :=
 some (⟨a0.fSource,a0.fSeq⟩)
def z8l (n:Nat)(a0:(List z01))(k1_0_0:Option (Int)):Nat->Int×(List (z4q×Bool))->Option (Int)
 |0,_=>none
 |mv1_0+1,v1_0 =>
  cnd (decide (v1_0.1<((a0.map z04).length:Int)))
   (idx a0 v1_0.1 fun x41 =>
   bnd (ze0 n x41) fun x42 =>
   cnd (!(x42))
    (some 2)
   <| cnd (decide (0<v1_0.1))
    (idx a0 (IntKind.wrap .i64 (v1_0.1-1)) fun x43 =>
    bnd (ze4 n x43 x41) fun x44 =>
    cnd (decide (0<=x44))
     (some 14)
    <| bnd (zez n x41) fun x45 =>
    mgt v1_0.2 x45 (false:Bool) fun x46 x47 =>
    cnd (x46)
     (some 7)
    <| bnd (zez n x41) fun x48 =>
    mst v1_0.2 x48 true fun x49 =>
    (z8l n a0 k1_0_0 mv1_0) ((IntKind.wrap .i64 (v1_0.1+1)),x49))
   <| bnd (zez n x41) fun x50 =>
   mgt v1_0.2 x50 (false:Bool) fun x51 x52 =>
   cnd (x51)
    (some 7)
   <| bnd (zez n x41) fun x53 =>
   mst v1_0.2 x53 true fun x54 =>
   (z8l n a0 k1_0_0 mv1_0) ((IntKind.wrap .i64 (v1_0.1+1)),x54))
  <| k1_0_0
def zet (n:Nat)(a0:(List z01)):Option (Int) :=
 cnd (decide (4096<((a0.map z04).length:Int)))
  (some 5)
 <| z8l n a0
  (some 0) n (0,[])
def zd4 (n:Nat)(a1:(List z01))(a0:z05)(k1_0_0:(List (z1h×z01))->Option ((Option z0q)×Int)):Nat->Int×(List (z1h×z01))->Option ((Option z0q)×Int)
 |0,_=>none
 |mv1_0+1,v1_0 =>
  cnd (decide (v1_0.1<((a1.map z04).length:Int)))
   (idx a1 v1_0.1 fun x44 =>
   bnd (zpv n x44) fun x45 =>
   mst v1_0.2 (⟨x45.fTime,x45.fSource,x45.fSeq⟩:z1h) x44 fun x46 =>
   (zd4 n a1 a0 k1_0_0 mv1_0) ((IntKind.wrap .i64 (v1_0.1+1)),x46))
  <| k1_0_0 v1_0.2
def zgr (n:Nat)(a0:z05)(a1:(List z01)):Option ((Option z0q)×Int) :=
 bnd (zca n a0) fun x1 =>
 cnd (!decide (x1=0))
  (some (none,x1))
 <| bnd (zet n a1) fun x2 =>
 cnd (!decide (x2=0))
  (some (none,x2))
 <| zd4 n a1 a0
  (fun k1_0_0y=>some ((some ⟨a0,k1_0_0y⟩),0)) n (0,[])
def zk3 (n:Nat):Option (z00) :=
 some (⟨0,[],[]⟩)
def zb9 (n:Nat)(a0:z0q)(a1:z00)(a2:z01):Option (z0q×z00×z01) :=
 some (a0,a1,a2)
def z61 (n:Nat)(a0:z00)(m0:(List z00))(m1:(List z03)):Option ((List z00)×(List z03)) :=
 cnd (decide (a0.fState<0))
  (app m1 [⟨a0.fBindings⟩] 24 fun x3 =>
  some (m0,x3))
 <| app m0 [a0] 56 fun x4 =>
 some (x4,m1)
def z88 (n:Nat)(a1:(List z0u))(a0:z0q)(x1:Nat)(k1_0_0:(List (List z01))->Option (z0h)):Nat->Int×(List (List z01))->Option (z0h)
 |0,_=>none
 |mv1_0+1,v1_0 =>
  cnd (decide (v1_0.1<((a1.map z0a).length:Int)))
   (idx a1 v1_0.1 fun x43 =>
   ncx x43.fVar x1 <|
   ntk v1_0.2 (Int.toNat x43.fVar) fun x44 =>
   mgv a0.fheld (⟨x43.fRef.fTime,x43.fRef.fSource,x43.fRef.fSeq⟩:z1h) (⟨0,0,0,0,[]⟩:z01) fun x45 x46 =>
   app x44 [x45] 56 fun x47 =>
   ncx x43.fVar x1 <|
   npt v1_0.2 (Int.toNat x43.fVar) x47 fun x48 =>
   (z88 n a1 a0 x1 k1_0_0 mv1_0) ((IntKind.wrap .i64 (v1_0.1+1)),x48))
  <| k1_0_0 v1_0.2
def zc4 (n:Nat)(a0:z0q)(a1:(List z0u)):Option (z0h) :=
 mkn a0.fa.fVars 24 fun x1 =>
 nst 13 <| reg <| z88 n a1 a0 x1
  (fun k1_0_0y=>frr 13 <| reg <| some ⟨k1_0_0y⟩) n (0,(List.replicate (x1) ([]:List z01)))
def z2f (n:Nat)(a1:Int)(a0f2:z01)(a0f1:Int)(a0f0:z0h)(w1_0:Bool):Option ((List z01)) :=
 cnd (w1_0)
  (some [])
 <| idx a0f0.fVars a1 fun x2 =>
 some x2
attribute [irreducible] z2f
def z62 (n:Nat)(a0f0:z0h)(a0f1:Int)(a0f2:z01)(a1:Int):Option ((List z01)) :=
 jon (z2f n a1 a0f2 a0f1 a0f0) <|
 reg <| cnd (decide (a1<0))
  (z2f n a1 a0f2 a0f1 a0f0 true)
 <| z2f n a1 a0f2 a0f1 a0f0 (decide ((((List.map (fun q=>AV.sl 5 (List.map z04 q)) (a0f0.fVars)).length:Nat):Int)<=a1))
def ze2 (n:Nat)(a0:z01)(a1:Int):Option (z02×Int) :=
 cnd (decide (((a0.fValues.map z07).length:Int)<=a1))
  (some (⟨0,0,ByteArray.empty⟩,6))
 <| idx a0.fValues a1 fun x1 =>
 some (x1,0)
def z4c (n:Nat)(a1:z0i)(x1:(List z01))(k1_0_0:(List z02)->Option (z02×Int)):Nat->Int×(List z02)->Option (z02×Int)
 |0,_=>none
 |mv1_0+1,v1_0 =>
  cnd (decide (v1_0.1<((x1.map z04).length:Int)))
   (idx x1 v1_0.1 fun x44 =>
   bnd (ze2 n x44 a1.fField) fun x45 =>
   cnd (!decide (x45.2=0))
    (some (⟨0,0,ByteArray.empty⟩,x45.2))
   <| app v1_0.2 [x45.1] 32 fun x46 =>
   (z4c n a1 x1 k1_0_0 mv1_0) ((IntKind.wrap .i64 (v1_0.1+1)),x46))
  <| k1_0_0 v1_0.2
def z9r (n:Nat)(a0f0:z0h)(a0f1:Int)(a0f2:z01)(a1:z0i):Option (z02×Int) :=
 bnd (z62 n (⟨a0f0.fVars⟩:z0h) a0f1 a0f2 a1.fVar) fun x1 =>
 z4c n a1 x1
  (fun k1_0_0y=>bnd (zd7 n a1.fKind k1_0_0y a1.fValue) fun x43 =>
 some (x43.1,x43.2)) n (0,[])
def z36 (n:Nat)(x9:z02×Int)(w2_1:Int):Option (z02×Int) :=
 cnd (!decide (w2_1=0))
  (some (⟨0,0,ByteArray.empty⟩,w2_1))
 <| some (x9.1,0)
attribute [irreducible] z36
def z37 (n:Nat)(a1:z0i)(w1_0:Int×Int×Int×Int×(List z02)):Option (z02×Int) :=
 cnd (decide (a1.fOp=2))
  (some (⟨0,w1_0.2.2.2.1,ByteArray.empty⟩,0))
 <| bnd (ze2 n (⟨w1_0.1,w1_0.2.1,w1_0.2.2.1,w1_0.2.2.2.1,w1_0.2.2.2.2⟩:z01) a1.fField) fun x9 =>
 jon (z36 n x9) <|
 reg <| cnd (decide (x9.2=0))
  (bnd (z9p n x9.1) fun x12 =>
  z36 n x9 x12)
 <| z36 n x9 x9.2
attribute [irreducible] z37
def z8j (n:Nat)(a0f0:z0h)(a0f1:Int)(a0f2:z01)(a1:z0i):Option (z02×Int) :=
 bnd (z62 n (⟨a0f0.fVars⟩:z0h) a0f1 a0f2 a1.fVar) fun x1 =>
 cnd (decide (a1.fOp=0))
  (some (a1.fValue,0))
 <| cnd (decide (a1.fOp=3))
  (some (⟨0,((x1.map z04).length:Int),ByteArray.empty⟩,0))
 <| cnd (decide (a1.fOp=4))
  (bnd (z9r n (⟨a0f0.fVars⟩:z0h) a0f1 a0f2 a1) fun x2 =>
  some (x2.1,x2.2))
 <| jon (z37 n a1) <|
 reg <| cnd (!decide (a1.fVar=a0f1))
  (cnd (decide (((x1.map z04).length:Int)=0))
    (some (⟨0,0,ByteArray.empty⟩,10))
  <| idx x1 (IntKind.wrap .i64 (((x1.map z04).length:Int)-1)) fun x13 =>
  z37 n a1 (x13.fSource,x13.fSeq,x13.fType,x13.fTime,x13.fValues))
 <| z37 n a1 (a0f2.fSource,a0f2.fSeq,a0f2.fType,a0f2.fTime,a0f2.fValues)
def z6r (n:Nat)(a1:(List Int))(a0:Int)(v1_0:Int)(cv1_0:Int->Option (Int))(x41:Int)(w6_2:Bool):Option (Int) :=
 cnd (w6_2)
  (cnd (!(decide (x41=1)))
    (some 9)
  <| cv1_0 (IntKind.wrap .i64 (v1_0+1)))
 <| reg <| cnd (decide (a0=9))
  (idx a1 0 fun x44 =>
  cnd (!(decide (x41=x44)))
   (some 9)
  <| cv1_0 (IntKind.wrap .i64 (v1_0+1)))
 <| cv1_0 (IntKind.wrap .i64 (v1_0+1))
attribute [irreducible] z6r
def z5n (n:Nat)(a1:(List Int))(a0:Int)(v1_0:Int)(cv1_0:Int->Option (Int))(x41:Int)(w5_1:Bool):Option (Int) :=
 cnd (w5_1)
  (cnd (!(decide (x41=0)))
    (some 9)
  <| cv1_0 (IntKind.wrap .i64 (v1_0+1)))
 <| jon (z6r n a1 a0 v1_0 cv1_0 x41) <|
 reg <| cnd (decide (a0=10))
  (z6r n a1 a0 v1_0 cv1_0 x41 (decide (a0=10)))
 <| reg <| cnd (decide (a0=11))
  (z6r n a1 a0 v1_0 cv1_0 x41 (decide (a0=11)))
 <| z6r n a1 a0 v1_0 cv1_0 x41 (decide (a0=12))
attribute [irreducible] z5n
def z3w (n:Nat)(a1:(List Int))(a0:Int)(k1_0_0:Option (Int)):Nat->Int->Option (Int)
 |0,_=>none
 |mv1_0+1,v1_0 =>
  cnd (decide (v1_0<((a1.map aI).length:Int)))
   (idx a1 v1_0 fun x41 =>
   jon (z5n n a1 a0 v1_0 (z3w n a1 a0 k1_0_0 mv1_0) x41) <|
   reg <| cnd (decide (a0=5))
    (z5n n a1 a0 v1_0 (z3w n a1 a0 k1_0_0 mv1_0) x41 (decide (a0=5)))
   <| reg <| cnd (decide (a0=6))
    (z5n n a1 a0 v1_0 (z3w n a1 a0 k1_0_0 mv1_0) x41 (decide (a0=6)))
   <| reg <| cnd (decide (a0=7))
    (z5n n a1 a0 v1_0 (z3w n a1 a0 k1_0_0 mv1_0) x41 (decide (a0=7)))
   <| z5n n a1 a0 v1_0 (z3w n a1 a0 k1_0_0 mv1_0) x41 (decide (a0=8)))
  <| k1_0_0
def zfz (n:Nat)(a0:Int)(a1:(List Int)):Option (Int) :=
 z3w n a1 a0
  (some 0) n 0
def zls (n:Nat)(a0:Bool):Option (z02) :=
 cnd (a0)
  (some (⟨1,1,ByteArray.empty⟩))
 <| some (⟨1,0,ByteArray.empty⟩)
def z84 (n:Nat)(a0:Bool):Option (z02) :=
 bnd (zls n a0) fun x1 =>
 some x1
def zam (n:Nat)(a0:Int):Option (z02) :=
 some (⟨0,a0,ByteArray.empty⟩)
def zal (n:Nat)(a0:Int)(a1:Int):Option (z02) :=
 bnd (zam n (IntKind.wrap .i64 (a0+a1))) fun x1 =>
 some x1
def zak (n:Nat)(a0:Int)(a1:Int):Option (z02) :=
 bnd (zam n (IntKind.wrap .i64 (a0-a1))) fun x1 =>
 some x1
def zaj (n:Nat)(a0:Int)(a1:Int):Option (z02) :=
 bnd (z84 n (decide (a0<a1))) fun x1 =>
 some x1
def zai (n:Nat)(a0:Int)(a1:Int):Option (z02) :=
 bnd (z84 n (decide (a0<=a1))) fun x1 =>
 some x1
def z5i (n:Nat)(w1_0:Int×Int×ByteArray):Option (z02) :=
 some (⟨w1_0.1,w1_0.2.1,w1_0.2.2⟩)
attribute [irreducible] z5i
def zah (n:Nat)(a0:Int)(a1:Int):Option (z02) :=
 jon (z5i n) <|
 reg <| cnd (decide (a0=1))
  (bnd (z84 n (decide (a1=1))) fun x6 =>
  z5i n (x6.fKind,x6.fNum,x6.fText))
 <| bnd (z84 n false) fun x7 =>
 z5i n (x7.fKind,x7.fNum,x7.fText)
def z5h (n:Nat)(w1_0:Int×Int×ByteArray):Option (z02) :=
 some (⟨w1_0.1,w1_0.2.1,w1_0.2.2⟩)
attribute [irreducible] z5h
def zag (n:Nat)(a0:Int)(a1:Int):Option (z02) :=
 jon (z5h n) <|
 reg <| cnd (decide (a0=1))
  (bnd (z84 n true) fun x6 =>
  z5h n (x6.fKind,x6.fNum,x6.fText))
 <| bnd (z84 n (decide (a1=1))) fun x7 =>
 z5h n (x7.fKind,x7.fNum,x7.fText)
def z7h (n:Nat)(a0:Int)(a1:Int):Option (z02) :=
 bnd (z84 n (!decide (a0=1))) fun x1 =>
 some x1
def z4z (n:Nat)(rF_expr_evaluator__eval:z0h->Int->z01->z0i->Option (z02×Int))(a1:z0i)(a0f2:z01)(a0f1:Int)(a0f0:z0h)(k1_0_0:(List z02)->(List Int)->Option (z02×Int)):Nat->Int×(List z02)×(List Int)->Option (z02×Int)
 |0,_=>none
 |mv1_0+1,v1_0 =>
  cnd (decide (v1_0.1<((a1.fArgs.map idA).length:Int)))
   (idxD z2y a1.fArgs v1_0.1 fun x85 =>
   bnd (rF_expr_evaluator__eval (⟨a0f0.fVars⟩:z0h) a0f1 a0f2 x85) fun x86 =>
   cnd (!decide (x86.2=0))
    (some (⟨0,0,ByteArray.empty⟩,x86.2))
   <| app v1_0.2.1 [x86.1] 32 fun x87 =>
   app v1_0.2.2 [x86.1.fKind] 8 fun x88 =>
   (z4z n rF_expr_evaluator__eval a1 a0f2 a0f1 a0f0 k1_0_0 mv1_0) ((IntKind.wrap .i64 (v1_0.1+1)),x87,x88))
  <| k1_0_0 v1_0.2.1 v1_0.2.2
def z3i:Nat->z0h->Int->z01->z0i->Option (z02×Int)
 |0,_,_,_,_=>none
 |n+1,a0f0,a0f1,a0f2,a1 =>
 cnd (decide (((a1.fArgs.map idA).length:Int)=0))
  (bnd (z8j n (⟨a0f0.fVars⟩:z0h) a0f1 a0f2 a1) fun x1 =>
  some (x1.1,x1.2))
 <| z4z n (z3i n) a1 a0f2 a0f1 a0f0
  (fun k1_0_0y0 k1_0_0y1=>bnd (zfz n a1.fOp k1_0_0y1) fun x44 =>
 cnd (!decide (x44=0))
  (some (⟨0,0,ByteArray.empty⟩,x44))
 <| cnd (decide (a1.fOp=9))
  (nat 0 (k1_0_0y0.map z07).length fun x45 =>
  elt k1_0_0y0 x45 fun x46 =>
  nat 1 (k1_0_0y0.map z07).length fun x47 =>
  elt k1_0_0y0 x47 fun x48 =>
  bnd (z84 n (decide (x46.fKind=x48.fKind) && (decide (x46.fNum=x48.fNum) && ((x46.fText.toList == x48.fText.toList) && true)))) fun x49 =>
  some (x49,0))
 <| natc a1.fOp 5
  (nat 0 (k1_0_0y0.map z07).length fun x50 =>
 ltx x50 (k1_0_0y0.map z07).length <| elt k1_0_0y0 x50 fun x51 =>
 nat (IntKind.wrap .i64 (((k1_0_0y0.map z07).length:Int)-1)) (k1_0_0y0.map z07).length fun x52 =>
 ltx x52 (k1_0_0y0.map z07).length <| elt k1_0_0y0 x52 fun x53 =>
 bnd (zal n x51.fNum x53.fNum) fun x54 =>
 some (x54,0))
 <| natc a1.fOp 6
  (nat 0 (k1_0_0y0.map z07).length fun x55 =>
 ltx x55 (k1_0_0y0.map z07).length <| elt k1_0_0y0 x55 fun x56 =>
 nat (IntKind.wrap .i64 (((k1_0_0y0.map z07).length:Int)-1)) (k1_0_0y0.map z07).length fun x57 =>
 ltx x57 (k1_0_0y0.map z07).length <| elt k1_0_0y0 x57 fun x58 =>
 bnd (zak n x56.fNum x58.fNum) fun x59 =>
 some (x59,0))
 <| natc a1.fOp 7
  (nat 0 (k1_0_0y0.map z07).length fun x60 =>
 ltx x60 (k1_0_0y0.map z07).length <| elt k1_0_0y0 x60 fun x61 =>
 nat (IntKind.wrap .i64 (((k1_0_0y0.map z07).length:Int)-1)) (k1_0_0y0.map z07).length fun x62 =>
 ltx x62 (k1_0_0y0.map z07).length <| elt k1_0_0y0 x62 fun x63 =>
 bnd (zaj n x61.fNum x63.fNum) fun x64 =>
 some (x64,0))
 <| natc a1.fOp 8
  (nat 0 (k1_0_0y0.map z07).length fun x65 =>
 ltx x65 (k1_0_0y0.map z07).length <| elt k1_0_0y0 x65 fun x66 =>
 nat (IntKind.wrap .i64 (((k1_0_0y0.map z07).length:Int)-1)) (k1_0_0y0.map z07).length fun x67 =>
 ltx x67 (k1_0_0y0.map z07).length <| elt k1_0_0y0 x67 fun x68 =>
 bnd (zai n x66.fNum x68.fNum) fun x69 =>
 some (x69,0))
 <| natc a1.fOp 10
  (nat 0 (k1_0_0y0.map z07).length fun x70 =>
 ltx x70 (k1_0_0y0.map z07).length <| elt k1_0_0y0 x70 fun x71 =>
 nat (IntKind.wrap .i64 (((k1_0_0y0.map z07).length:Int)-1)) (k1_0_0y0.map z07).length fun x72 =>
 ltx x72 (k1_0_0y0.map z07).length <| elt k1_0_0y0 x72 fun x73 =>
 bnd (zah n x71.fNum x73.fNum) fun x74 =>
 some (x74,0))
 <| natc a1.fOp 11
  (nat 0 (k1_0_0y0.map z07).length fun x75 =>
 ltx x75 (k1_0_0y0.map z07).length <| elt k1_0_0y0 x75 fun x76 =>
 nat (IntKind.wrap .i64 (((k1_0_0y0.map z07).length:Int)-1)) (k1_0_0y0.map z07).length fun x77 =>
 ltx x77 (k1_0_0y0.map z07).length <| elt k1_0_0y0 x77 fun x78 =>
 bnd (zag n x76.fNum x78.fNum) fun x79 =>
 some (x79,0))
 <| natc a1.fOp 12
  (nat 0 (k1_0_0y0.map z07).length fun x80 =>
 ltx x80 (k1_0_0y0.map z07).length <| elt k1_0_0y0 x80 fun x81 =>
 nat (IntKind.wrap .i64 (((k1_0_0y0.map z07).length:Int)-1)) (k1_0_0y0.map z07).length fun x82 =>
 ltx x82 (k1_0_0y0.map z07).length <| elt k1_0_0y0 x82 fun x83 =>
 bnd (z7h n x81.fNum x83.fNum) fun x84 =>
 some (x84,0))
 <| none) n (0,[],[])
def zs5 (n:Nat)(a0:z0i)(a1:z0h)(a2:Int)(a3:z01):Option (z02×Int) :=
 bnd (zbb n a0) fun x1 =>
 cnd (!decide (x1=0))
  (some (⟨0,0,ByteArray.empty⟩,x1))
 <| bnd (z3i n (⟨a1.fVars⟩:z0h) a2 a3 a0) fun x2 =>
 some (x2.1,x2.2)
def zao (n:Nat)(w1_0:Bool):Option (Bool) :=
 some w1_0
attribute [irreducible] zao
def zcg (n:Nat)(a0:z0i)(a1:z0h)(a2:Int)(a3:z01):Option (Bool) :=
 bnd (zs5 n a0 (⟨a1.fVars⟩:z0h) a2 a3) fun x1 =>
 jon (zao n) <|
 reg <| cnd (decide (x1.2=0))
  (bnd (z84 n true) fun x4 =>
  zao n (decide (x1.1.fKind=x4.fKind) && (decide (x1.1.fNum=x4.fNum) && ((x1.1.fText.toList == x4.fText.toList) && true))))
 <| zao n false
def z8m (n:Nat)(w1_0:Bool):Option (Bool) :=
 some w1_0
attribute [irreducible] z8m
def zd3 (n:Nat)(a0:z0o)(a1:z0h)(a2:z01):Option (Bool) :=
 jon (z8m n) <|
 reg <| cnd (decide (a0.fType=a2.fType))
  (bnd (zcg n a0.fCond (⟨a1.fVars⟩:z0h) a0.fVar a2) fun x3 =>
  z8m n x3)
 <| z8m n false
def z35 (n:Nat)(a0:z0o)(a1:z0h)(a2:z01):Option (Bool) :=
 bnd (zd3 n a0 (⟨a1.fVars⟩:z0h) a2) fun x1 =>
 some x1
def z4b (n:Nat)(a1c1:z01)(a1c0:z0h)(a0:(List z0o))(k1_0_0:Option (Int)):Nat->Int->Option (Int)
 |0,_=>none
 |mv1_0+1,v1_0 =>
  cnd (decide (v1_0<((a0.map z0r).length:Int)))
   (idx a0 v1_0 fun x41 =>
   bnd (z35 n x41 (⟨a1c0.fVars⟩:z0h) a1c1) fun x42 =>
   cnd (x42)
    (some v1_0)
   <| (z4b n a1c1 a1c0 a0 k1_0_0 mv1_0) (IntKind.wrap .i64 (v1_0+1)))
  <| k1_0_0
def z83 (n:Nat)(a0:(List z0o))(a1c0:z0h)(a1c1:z01):Option (Int) :=
 z4b n a1c1 a1c0 a0
  (some (-1)) n 0
def z6o (n:Nat)(a0:(List z0o))(a1c0:z0h)(a1c1:z01):Option (Bool) :=
 bnd (z83 n a0 (⟨a1c0.fVars⟩:z0h) a1c1) fun x1 =>
 some (decide (0<=x1))
def z2l (n:Nat)(w1_0:Bool):Option (Bool) :=
 some w1_0
attribute [irreducible] z2l
def z2u (n:Nat)(a0:z0o)(a1:z0j)(a2:z0h)(a3:z01):Option (Bool) :=
 jon (z2l n) <|
 reg <| bnd (z6k n a1.fInside a0.fScope) fun x4 =>
 cnd (!(x4))
  (bnd (zd3 n a0 (⟨a2.fVars⟩:z0h) a3) fun x5 =>
  z2l n x5)
 <| z2l n false
def z4a (n:Nat)(a1c2:z01)(a1c1:z0h)(a1c0:z0j)(a0:(List z0o))(k1_0_0:Option (Int)):Nat->Int->Option (Int)
 |0,_=>none
 |mv1_0+1,v1_0 =>
  cnd (decide (v1_0<((a0.map z0r).length:Int)))
   (idx a0 v1_0 fun x41 =>
   bnd (z2u n x41 a1c0 (⟨a1c1.fVars⟩:z0h) a1c2) fun x42 =>
   cnd (x42)
    (some v1_0)
   <| (z4a n a1c2 a1c1 a1c0 a0 k1_0_0 mv1_0) (IntKind.wrap .i64 (v1_0+1)))
  <| k1_0_0
def z82 (n:Nat)(a0:(List z0o))(a1c0:z0j)(a1c1:z0h)(a1c2:z01):Option (Int) :=
 z4a n a1c2 a1c1 a1c0 a0
  (some (-1)) n 0
def z6n (n:Nat)(a0:(List z0o))(a1c0:z0j)(a1c1:z0h)(a1c2:z01):Option (Bool) :=
 bnd (z82 n a0 a1c0 (⟨a1c1.fVars⟩:z0h) a1c2) fun x1 =>
 some (decide (0<=x1))
def zbm (n:Nat)(a0:z0b)(a1:Int):Option (Int) :=
 bnd (z4p n a0.fScope a1) fun x1 =>
 some x1
def z23 (n:Nat)(a1:Int)(a0:(List z0b))(k1_0_0:Int->Option (Int×Bool)):Nat->Int×Int->Option (Int×Bool)
 |0,_=>none
 |mv1_0+1,v1_0 =>
  cnd (decide (v1_0.1<v1_0.2))
   (shx (1:Int) <| idx a0 (IntKind.wrap .i64 (Int.fdiv (IntKind.wrap .u64 (IntKind.wrap .i64 (v1_0.1+v1_0.2))) (2 ^ min (Int.toNat (1:Int)) (IntKind.bits .u64)))) fun x44 =>
   bnd (zbm n x44 a1) fun x45 =>
   cnd (decide (x45<0))
    ((z23 n a1 a0 k1_0_0 mv1_0) ((IntKind.wrap .i64 ((IntKind.wrap .i64 (Int.fdiv (IntKind.wrap .u64 (IntKind.wrap .i64 (v1_0.1+v1_0.2))) (2 ^ min (Int.toNat (1:Int)) (IntKind.bits .u64))))+1)),v1_0.2))
   <| (z23 n a1 a0 k1_0_0 mv1_0) (v1_0.1,(IntKind.wrap .i64 (Int.fdiv (IntKind.wrap .u64 (IntKind.wrap .i64 (v1_0.1+v1_0.2))) (2 ^ min (Int.toNat (1:Int)) (IntKind.bits .u64))))))
  <| k1_0_0 v1_0.1
def z4x (n:Nat)(a0:(List z0b))(a1:Int):Option (Int×Bool) :=
 z23 n a1 a0
  (fun k1_0_0y=>cnd (decide (k1_0_0y<((a0.map z08).length:Int)))
  (idx a0 k1_0_0y fun x42 =>
  bnd (zbm n x42 a1) fun x43 =>
  some (k1_0_0y,decide (x43=0)))
 <| some (k1_0_0y,false)) n (0,((a0.map z08).length:Int))
def zad (n:Nat)(a2:Int)(a1:(List Int))(v1_0:Int×(List z0b))(cv1_0:(Int×(List z0b))->Option ((List z0b)))(x44:Int×Bool)(w3_1:(List z0b)):Option ((List z0b)) :=
 nat x44.1 (w3_1.map z08).length fun x47 =>
 ltx x47 (w3_1.map z08).length <| stx w3_1 x47 (fun x48=>⟨x48.fScope,a2⟩) fun x49 =>
 cv1_0 ((IntKind.wrap .i64 (v1_0.1+1)),x49)
attribute [irreducible] zad
def z93 (n:Nat)(a2:Int)(a1:(List Int))(k1_0_0:(List z0b)->Option ((List z0b))):Nat->Int×(List z0b)->Option ((List z0b))
 |0,_=>none
 |mv1_0+1,v1_0 =>
  cnd (decide (v1_0.1<((a1.map aI).length:Int)))
   (idx a1 v1_0.1 fun x43 =>
   bnd (z4x n v1_0.2 x43) fun x44 =>
   jon (zad n a2 a1 v1_0 (z93 n a2 a1 k1_0_0 mv1_0) x44) <|
   reg <| cnd (!(x44.2))
    (bndC (zwy n v1_0.2 x44.1 ([⟨x43,0⟩])) fun x50 =>
    zad n a2 a1 v1_0 (z93 n a2 a1 k1_0_0 mv1_0) x44 x50)
   <| zad n a2 a1 v1_0 (z93 n a2 a1 k1_0_0 mv1_0) x44 v1_0.2)
  <| k1_0_0 v1_0.2
def zhj (n:Nat)(a0:(List z0b))(a1:(List Int))(a2:Int):Option ((List z0b)) :=
 bndR (zhp n a0) fun x1 =>
 z93 n a2 a1
  (fun k1_0_0y=>some k1_0_0y) n (0,x1)
def zeu (n:Nat)(a0:z0b)(a1:z0y):Option (Bool) :=
 some (decide (a0.fScope=a1.fScope))
def z49 (n:Nat)(a1c0:z0y)(a0:(List z0b))(k1_0_0:Option (Int)):Nat->Int->Option (Int)
 |0,_=>none
 |mv1_0+1,v1_0 =>
  cnd (decide (v1_0<((a0.map z08).length:Int)))
   (idx a0 v1_0 fun x41 =>
   bnd (zeu n x41 a1c0) fun x42 =>
   cnd (x42)
    (some v1_0)
   <| (z49 n a1c0 a0 k1_0_0 mv1_0) (IntKind.wrap .i64 (v1_0+1)))
  <| k1_0_0
def z81 (n:Nat)(a0:(List z0b))(a1c0:z0y):Option (Int) :=
 z49 n a1c0 a0
  (some (-1)) n 0
def zae (n:Nat)(a2:Int)(a1:(List z0y))(a0:(List z0b))(v1_0:Int)(cv1_0:Int->Option (Bool))(w3_1:Bool):Option (Bool) :=
 cnd (w3_1)
  (some false)
 <| cv1_0 (IntKind.wrap .i64 (v1_0+1))
attribute [irreducible] zae
def z94 (n:Nat)(a2:Int)(a1:(List z0y))(a0:(List z0b))(k1_0_0:Option (Bool)):Nat->Int->Option (Bool)
 |0,_=>none
 |mv1_0+1,v1_0 =>
  cnd (decide (v1_0<((a1.map z0p).length:Int)))
   (idx a1 v1_0 fun x41 =>
   bnd (z81 n a0 x41) fun x42 =>
   jon (zae n a2 a1 a0 v1_0 (z94 n a2 a1 a0 k1_0_0 mv1_0)) <|
   reg <| cnd (decide (x42<0))
    (zae n a2 a1 a0 v1_0 (z94 n a2 a1 a0 k1_0_0 mv1_0) true)
   <| idx a0 x42 fun x45 =>
   zae n a2 a1 a0 v1_0 (z94 n a2 a1 a0 k1_0_0 mv1_0) (decide (x41.fSpan<(IntKind.wrap .i64 (a2-x45.fTime)))))
  <| k1_0_0
def zhk (n:Nat)(a0:(List z0b))(a1:(List z0y))(a2:Int):Option (Bool) :=
 z94 n a2 a1 a0
  (some true) n 0
def z4n (n:Nat)(a0:z0b)(a1:z0j):Option (Bool) :=
 bnd (z6k n a1.fCloses a0.fScope) fun x1 =>
 some x1
def z48 (n:Nat)(a1c0:z0j)(a0:(List z0b))(k1_0_0:Option (Int)):Nat->Int->Option (Int)
 |0,_=>none
 |mv1_0+1,v1_0 =>
  cnd (decide (v1_0<((a0.map z08).length:Int)))
   (idx a0 v1_0 fun x41 =>
   bnd (z4n n x41 a1c0) fun x42 =>
   cnd (x42)
    (some v1_0)
   <| (z48 n a1c0 a0 k1_0_0 mv1_0) (IntKind.wrap .i64 (v1_0+1)))
  <| k1_0_0
def z80 (n:Nat)(a0:(List z0b))(a1c0:z0j):Option (Int) :=
 z48 n a1c0 a0
  (some (-1)) n 0
def z3b (n:Nat)(a0:z0b)(m0:z0j):Option (Bool×z0j) :=
 bnd (z6k n m0.fCloses a0.fScope) fun x1 =>
 some (x1,m0)
def z5g (n:Nat)(k1_0_0:Int->Int->Int->Int->Int->Int->(List AV)->Int->Int->Int->Int->Int->ByteArray->(List Int)->(List Int)->(List AV)->(List z0y)->(List Int)->(List z0b)->Option ((List z0b)×z0j)):Nat->Int×Int×Int×Int×Int×Int×Int×(List AV)×Int×Int×Int×Int×Int×ByteArray×(List Int)×(List Int)×(List AV)×(List z0y)×(List Int)×(List z0b)->Option ((List z0b)×z0j)
 |0,_=>none
 |mv1_0+1,v1_0 =>
  cnd (decide (v1_0.2.1<((v1_0.2.2.2.2.2.2.2.2.2.2.2.2.2.2.2.2.2.2.2.map z08).length:Int)))
   (nat v1_0.2.1 (v1_0.2.2.2.2.2.2.2.2.2.2.2.2.2.2.2.2.2.2.2.map z08).length fun x64 =>
   elt v1_0.2.2.2.2.2.2.2.2.2.2.2.2.2.2.2.2.2.2.2 x64 fun x65 =>
   bndM 28 (z3b n x65 (⟨v1_0.2.2.1,v1_0.2.2.2.1,v1_0.2.2.2.2.1,v1_0.2.2.2.2.2.1,⟨v1_0.2.2.2.2.2.2.1,v1_0.2.2.2.2.2.2.2.1,v1_0.2.2.2.2.2.2.2.2.1,v1_0.2.2.2.2.2.2.2.2.2.1,v1_0.2.2.2.2.2.2.2.2.2.2.1,⟨v1_0.2.2.2.2.2.2.2.2.2.2.2.1,v1_0.2.2.2.2.2.2.2.2.2.2.2.2.1,v1_0.2.2.2.2.2.2.2.2.2.2.2.2.2.1⟩⟩,v1_0.2.2.2.2.2.2.2.2.2.2.2.2.2.2.1,v1_0.2.2.2.2.2.2.2.2.2.2.2.2.2.2.2.1,v1_0.2.2.2.2.2.2.2.2.2.2.2.2.2.2.2.2.1,v1_0.2.2.2.2.2.2.2.2.2.2.2.2.2.2.2.2.2.1,v1_0.2.2.2.2.2.2.2.2.2.2.2.2.2.2.2.2.2.2.1⟩:z0j)) fun x66 =>
   cnd (!(x66.1))
    (nat v1_0.1 (v1_0.2.2.2.2.2.2.2.2.2.2.2.2.2.2.2.2.2.2.2.map z08).length fun x67 =>
    stx v1_0.2.2.2.2.2.2.2.2.2.2.2.2.2.2.2.2.2.2.2 x67 (fun x68=>x65) fun x69 =>
    (z5g n k1_0_0 mv1_0) ((IntKind.wrap .i64 (v1_0.1+1)),(IntKind.wrap .i64 (v1_0.2.1+1)),x66.2.fFrom,x66.2.fTo,x66.2.fVar,x66.2.fType,x66.2.fCond.fOp,x66.2.fCond.fArgs,x66.2.fCond.fVar,x66.2.fCond.fField,x66.2.fCond.fKind,x66.2.fCond.fValue.fKind,x66.2.fCond.fValue.fNum,x66.2.fCond.fValue.fText,x66.2.fOpens,x66.2.fCloses,x66.2.fChecks,x66.2.fLimits,x66.2.fInside,x69))
   <| (z5g n k1_0_0 mv1_0) (v1_0.1,(IntKind.wrap .i64 (v1_0.2.1+1)),x66.2.fFrom,x66.2.fTo,x66.2.fVar,x66.2.fType,x66.2.fCond.fOp,x66.2.fCond.fArgs,x66.2.fCond.fVar,x66.2.fCond.fField,x66.2.fCond.fKind,x66.2.fCond.fValue.fKind,x66.2.fCond.fValue.fNum,x66.2.fCond.fValue.fText,x66.2.fOpens,x66.2.fCloses,x66.2.fChecks,x66.2.fLimits,x66.2.fInside,v1_0.2.2.2.2.2.2.2.2.2.2.2.2.2.2.2.2.2.2.2))
  <| k1_0_0 v1_0.1 v1_0.2.2.1 v1_0.2.2.2.1 v1_0.2.2.2.2.1 v1_0.2.2.2.2.2.1 v1_0.2.2.2.2.2.2.1 v1_0.2.2.2.2.2.2.2.1 v1_0.2.2.2.2.2.2.2.2.1 v1_0.2.2.2.2.2.2.2.2.2.1 v1_0.2.2.2.2.2.2.2.2.2.2.1 v1_0.2.2.2.2.2.2.2.2.2.2.2.1 v1_0.2.2.2.2.2.2.2.2.2.2.2.2.1 v1_0.2.2.2.2.2.2.2.2.2.2.2.2.2.1 v1_0.2.2.2.2.2.2.2.2.2.2.2.2.2.2.1 v1_0.2.2.2.2.2.2.2.2.2.2.2.2.2.2.2.1 v1_0.2.2.2.2.2.2.2.2.2.2.2.2.2.2.2.2.1 v1_0.2.2.2.2.2.2.2.2.2.2.2.2.2.2.2.2.2.1 v1_0.2.2.2.2.2.2.2.2.2.2.2.2.2.2.2.2.2.2.1 v1_0.2.2.2.2.2.2.2.2.2.2.2.2.2.2.2.2.2.2.2
def zac (n:Nat)(m0:z0j)(m1:(List z0b)):Option ((List z0b)×z0j) :=
 bnd (z80 n m1 m0) fun x1 =>
 cnd (decide (x1=(-1)))
  (some (m1,m0))
 <| z5g n
  (fun k1_0_0y0 k1_0_0y1 k1_0_0y2 k1_0_0y3 k1_0_0y4 k1_0_0y5 k1_0_0y6 k1_0_0y7 k1_0_0y8 k1_0_0y9 k1_0_0y10 k1_0_0y11 k1_0_0y12 k1_0_0y13 k1_0_0y14 k1_0_0y15 k1_0_0y16 k1_0_0y17 k1_0_0y18=>nle k1_0_0y0 (k1_0_0y18.map z08).length fun x61 =>
 clr k1_0_0y18 x61 (⟨0,0⟩:z0b) fun x62 =>
 sls x62 0 k1_0_0y0 fun x63 =>
 some (x63,⟨k1_0_0y1,k1_0_0y2,k1_0_0y3,k1_0_0y4,⟨k1_0_0y5,k1_0_0y6,k1_0_0y7,k1_0_0y8,k1_0_0y9,⟨k1_0_0y10,k1_0_0y11,k1_0_0y12⟩⟩,k1_0_0y13,k1_0_0y14,k1_0_0y15,k1_0_0y16,k1_0_0y17⟩)) n (x1,(IntKind.wrap .i64 (x1+1)),m0.fFrom,m0.fTo,m0.fVar,m0.fType,m0.fCond.fOp,m0.fCond.fArgs,m0.fCond.fVar,m0.fCond.fField,m0.fCond.fKind,m0.fCond.fValue.fKind,m0.fCond.fValue.fNum,m0.fCond.fValue.fText,m0.fOpens,m0.fCloses,m0.fChecks,m0.fLimits,m0.fInside,m1)
def z5z (n:Nat)(a4:z01)(a2:z0j)(a1:z00)(x5:(List z0b))(x12:(List (List z01)))(k1_1_0:(List z0b)->Option (z00×Bool)):Nat->Int->Option (z00×Bool)
 |0,_=>none
 |mv1_1+1,v1_1 =>
  cnd (decide (v1_1<((a2.fChecks.map idA).length:Int)))
   (idxD z2y a2.fChecks v1_1 fun x58 =>
   bnd (zcg n x58 (⟨x12⟩:z0h) (-1) (⟨0,0,0,0,[]⟩:z01)) fun x59 =>
   cnd (!(x59))
    (some (⟨0,[],[]⟩,false))
   <| (z5z n a4 a2 a1 x5 x12 k1_1_0 mv1_1) (IntKind.wrap .i64 (v1_1+1)))
  <| k1_1_0 x5
def z1l (n:Nat)(a4:z01)(a3:z0h)(a2:z0j)(a1:z00)(w1_0:Bool):Option (z00×Bool) :=
 cnd (w1_0)
  (some (⟨0,[],[]⟩,false))
 <| bndR (zhj n a1.fStarts a2.fOpens a4.fTime) fun x5 =>
 bnd (zhk n x5 a2.fLimits a4.fTime) fun x6 =>
 cnd (!(x6))
  (some (⟨0,[],[]⟩,false))
 <| bndR (zhp n a3.fVars) fun x7 =>
 idx a3.fVars a2.fVar fun x8 =>
 bndR (zhp n x8) fun x9 =>
 app x9 [a4] 56 fun x10 =>
 nat a2.fVar (List.map (fun q=>AV.sl 5 (List.map z04 q)) (x7)).length fun x11 =>
 stx x7 x11 (fun _=>x10) fun x12 =>
 z5z n a4 a2 a1 x5 x12
  (fun k1_1_0y=>bndM 96 (zac n a2 k1_1_0y) fun x54 =>
 bndR (zhp n a1.fBindings) fun x55 =>
 bnd (zpv n a4) fun x56 =>
 app x55 ([⟨x54.2.fVar,⟨x56.fTime,x56.fSource,x56.fSeq⟩⟩]) 32 fun x57 =>
 some (⟨x54.2.fTo,x57,x54.1⟩,true)) n 0
attribute [irreducible] z1l
def z7t (n:Nat)(a0:z0q)(a1:z00)(a2:z0j)(a3:z0h)(a4:z01):Option (z00×Bool) :=
 jon (z1l n a4 a3 a2 a1) <|
 reg <| cnd (!decide (a4.fType=a2.fType))
  (z1l n a4 a3 a2 a1 true)
 <| idx a0.fa.fStates a1.fState fun x60 =>
 bnd (z6n n x60.fGuards a2 (⟨a3.fVars⟩:z0h) a4) fun x61 =>
 cnd (x61)
  (z1l n a4 a3 a2 a1 true)
 <| bnd (zcg n a2.fCond (⟨a3.fVars⟩:z0h) a2.fVar a4) fun x62 =>
 z1l n a4 a3 a2 a1 !(x62)
def z1d (n:Nat)(m4:z01)(m3:z00)(m2:z0q)(x1:z0h)(k1_0_0:(List z00)->(List z03)->Option ((List z00)×(List z03)×z0q×z00×z01)):Nat->Int×(List z00)×(List z03)->Option ((List z00)×(List z03)×z0q×z00×z01)
 |0,_=>none
 |mv1_0+1,v1_0 =>
  cnd (decide (v1_0.1<((m2.fa.fEdges.map z0d).length:Int)))
   (idx m2.fa.fEdges v1_0.1 fun x47 =>
   cnd (!decide (x47.fFrom=m3.fState))
    ((z1d n m4 m3 m2 x1 k1_0_0 mv1_0) ((IntKind.wrap .i64 (v1_0.1+1)),v1_0.2.1,v1_0.2.2))
   <| bnd (z7t n m2 m3 x47 (⟨x1.fVars⟩:z0h) m4) fun x48 =>
   cnd (x48.2)
    (bndM 63 (z61 n x48.1 v1_0.2.1 v1_0.2.2) fun x49 =>
    (z1d n m4 m3 m2 x1 k1_0_0 mv1_0) ((IntKind.wrap .i64 (v1_0.1+1)),x49.1,x49.2))
   <| (z1d n m4 m3 m2 x1 k1_0_0 mv1_0) ((IntKind.wrap .i64 (v1_0.1+1)),v1_0.2.1,v1_0.2.2))
  <| k1_0_0 v1_0.2.1 v1_0.2.2
def z1c (n:Nat)(m4:z01)(m3:z00)(m2:z0q)(x1:z0h)(k2_1_0:(List z00)->(List z03)->Option ((List z00)×(List z03)×z0q×z00×z01)):Nat->Int×(List z00)×(List z03)->Option ((List z00)×(List z03)×z0q×z00×z01)
 |0,_=>none
 |mv2_1+1,v2_1 =>
  cnd (decide (v2_1.1<((m2.fa.fEdges.map z0d).length:Int)))
   (idx m2.fa.fEdges v2_1.1 fun x92 =>
   cnd (!decide (x92.fFrom=m3.fState))
    ((z1c n m4 m3 m2 x1 k2_1_0 mv2_1) ((IntKind.wrap .i64 (v2_1.1+1)),v2_1.2.1,v2_1.2.2))
   <| bnd (z7t n m2 m3 x92 (⟨x1.fVars⟩:z0h) m4) fun x93 =>
   cnd (x93.2)
    (bndM 63 (z61 n x93.1 v2_1.2.1 v2_1.2.2) fun x94 =>
    (z1c n m4 m3 m2 x1 k2_1_0 mv2_1) ((IntKind.wrap .i64 (v2_1.1+1)),x94.1,x94.2))
   <| (z1c n m4 m3 m2 x1 k2_1_0 mv2_1) ((IntKind.wrap .i64 (v2_1.1+1)),v2_1.2.1,v2_1.2.2))
  <| k2_1_0 v2_1.2.1 v2_1.2.2
def z5m (n:Nat)(m0:(List z00))(m1:(List z03))(m2:z0q)(m3:z00)(m4:z01):Option ((List z00)×(List z03)×z0q×z00×z01) :=
 bnd (zc4 n m2 m3.fBindings) fun x1 =>
 idx m2.fa.fStates m3.fState fun x2 =>
 bnd (z6o n x2.fGuards (⟨x1.fVars⟩:z0h) m4) fun x3 =>
 cnd (!(x3))
  (bndM 32 (z61 n m3 m0 m1) fun x4 =>
  z1d n m4 m3 m2 x1
   (fun k1_0_0y0 k1_0_0y1=>some (k1_0_0y0,k1_0_0y1,m2,m3,m4)) n (0,x4.1,x4.2))
 <| z1c n m4 m3 m2 x1
  (fun k2_1_0y0 k2_1_0y1=>some (k2_1_0y0,k2_1_0y1,m2,m3,m4)) n (0,m0,m1)
def z9w (n:Nat)(a0:z03)(a1:z03):Option (Bool) :=
 bnd (zc8 n (⟨a0.fBindings⟩:z03) (⟨a1.fBindings⟩:z03)) fun x1 =>
 some (decide (x1=0))
def z21 (n:Nat)(x46:Nat)(k2_1_0:Int->(List z03)->Option ((List z03))):Nat->Int×Int×(List z03)->Option ((List z03))
 |0,_=>none
 |mv2_1+1,v2_1 =>
  gle x46 (v2_1.2.2.map z0f).length <|
  cnd (decide (v2_1.2.1<((((v2_1.2.2.map z0f).length-x46:Nat)):Int)))
   (nat v2_1.2.1 ((v2_1.2.2.map z0f).length-x46) fun x92 =>
   elt v2_1.2.2 (x46+x92) fun x93 =>
   nat (IntKind.wrap .i64 (v2_1.2.1-1)) ((v2_1.2.2.map z0f).length-x46) fun x94 =>
   elt v2_1.2.2 (x46+x94) fun x95 =>
   bnd (z9w n (⟨x93.fBindings⟩:z03) (⟨x95.fBindings⟩:z03)) fun x96 =>
   cnd (!(x96))
    (nat v2_1.2.1 ((v2_1.2.2.map z0f).length-x46) fun x97 =>
    elt v2_1.2.2 (x46+x97) fun x98 =>
    nat v2_1.1 (v2_1.2.2.map z0f).length fun x99 =>
    stx v2_1.2.2 x99 (fun x100=>⟨x98.fBindings⟩) fun x101 =>
    (z21 n x46 k2_1_0 mv2_1) ((IntKind.wrap .i64 (v2_1.1+1)),(IntKind.wrap .i64 (v2_1.2.1+1)),x101))
   <| (z21 n x46 k2_1_0 mv2_1) (v2_1.1,(IntKind.wrap .i64 (v2_1.2.1+1)),v2_1.2.2))
  <| k2_1_0 v2_1.1 v2_1.2.2
def z3a (n:Nat)(m0:(List z03))(k1_0_0:Option ((List z03))):Nat->Int->Option ((List z03))
 |0,_=>none
 |mv1_0+1,v1_0 =>
  cnd (decide (v1_0<((m0.map z0f).length:Int)))
   (nat v1_0 (m0.map z0f).length fun x41 =>
   elt m0 x41 fun x42 =>
   nat (IntKind.wrap .i64 (v1_0-1)) (m0.map z0f).length fun x43 =>
   elt m0 x43 fun x44 =>
   bnd (z9w n (⟨x42.fBindings⟩:z03) (⟨x44.fBindings⟩:z03)) fun x45 =>
   cnd (x45)
    (nle v1_0 (m0.map z0f).length fun x46 =>
    z21 n x46
     (fun k2_1_0y0 k2_1_0y1=>nle k2_1_0y0 (k2_1_0y1.map z0f).length fun x89 =>
    clr k2_1_0y1 x89 (⟨[]⟩:z03) fun x90 =>
    sls x90 0 k2_1_0y0 fun x91 =>
    some x91) n (v1_0,1,m0))
   <| (z3a n m0 k1_0_0 mv1_0) (IntKind.wrap .i64 (v1_0+1)))
  <| k1_0_0
def z7b (n:Nat)(m0:(List z03)):Option ((List z03)) :=
 cnd (decide (((m0.map z0f).length:Int)<2))
  (some m0)
 <| z3a n m0
  (some m0) n 1
def z8n (n:Nat)(m0:(List z03)):Option ((List z03)) :=
 bndC (zwk maOk z6d n m0) fun x1 =>
 frb 3 <| reg <| bndM 10 (z7b n x1) fun x2 =>
 some x2
def z60 (n:Nat)(a2:z01)(a1:(List z00))(a0:z0q)(k1_0_0:(List z00)->(List z03)->Option ((List z00)×(List z03))):Nat->Int×(List z00)×(List z03)->Option ((List z00)×(List z03))
 |0,_=>none
 |mv1_0+1,v1_0 =>
  cnd (decide (v1_0.1<((a1.map z0e).length:Int)))
   (idx a1 v1_0.1 fun x45 =>
   bndM 22 (zb9 n a0 x45 a2) fun x46 =>
   bndM 810 (z5m n v1_0.2.1 v1_0.2.2 x46.1 x46.2.1 x46.2.2) fun x49 =>
   (z60 n a2 a1 a0 k1_0_0 mv1_0) ((IntKind.wrap .i64 (v1_0.1+1)),x49.1,x49.2.1))
  <| k1_0_0 v1_0.2.1 v1_0.2.2
def z92 (n:Nat)(a0:z0q)(a1:(List z00))(a2:z01):Option ((List z00)×(List z03)) :=
 z60 n a2 a1 a0
  (fun k1_0_0y0 k1_0_0y1=>bndM 39 (zhi n k1_0_0y0) fun x43 =>
 bndM 41 (z8n n k1_0_0y1) fun x44 =>
 some (x43,x44)) n (0,[],[])
def zce (n:Nat)(a1:(List z01))(x2:z0q)(v2_1:(List z00)×Int×(List z03))(cv2_1:(List z00)×Int×(List z03)->Option ((List z00)×(List z03)×Int))(x49:(List z00)×(List z03))(w3_2:Bool):Option ((List z00)×(List z03)×Int) :=
 cnd (w3_2)
  (some ([],[],17))
 <| app v2_1.2.2 x49.2 24 fun x51 =>
 cv2_1 (x49.1,(IntKind.wrap .i64 (v2_1.2.1+1)),x51)
attribute [irreducible] zce
def zba (n:Nat)(a1:(List z01))(x2:z0q)(k2_1_0:(List z00)->(List z03)->Option ((List z00)×(List z03)×Int)):Nat->(List z00)×Int×(List z03)->Option ((List z00)×(List z03)×Int)
 |0,_=>none
 |mv2_1+1,v2_1 =>
  cnd (decide (v2_1.2.1<((a1.map z04).length:Int)))
   (idx a1 v2_1.2.1 fun x48 =>
   bnd (z92 n x2 v2_1.1 x48) fun x49 =>
   jon (zce n a1 x2 v2_1 (zba n a1 x2 k2_1_0 mv2_1) x49) <|
   reg <| cnd (decide (4096<((x49.1.map z0e).length:Int)))
    (zce n a1 x2 v2_1 (zba n a1 x2 k2_1_0 mv2_1) x49 true)
   <| cnd (decide (4096<((x49.2.map z0f).length:Int)))
    (zce n a1 x2 v2_1 (zba n a1 x2 k2_1_0 mv2_1) x49 true)
   <| zce n a1 x2 v2_1 (zba n a1 x2 k2_1_0 mv2_1) x49 (decide (4096<(IntKind.wrap .i64 (((v2_1.2.2.map z0f).length:Int)+((x49.2.map z0f).length:Int))))))
  <| k2_1_0 v2_1.1 v2_1.2.2
def zfy (n:Nat)(a0:z05)(a1:(List z01)):Option ((List z00)×(List z03)×Int) :=
 bndP (zgr n a0 a1) (fun r=>r.1)
  (fun x1 =>
 cnd (!decide (x1.2=0))
  (some ([],[],x1.2))
 <| bnd (zk3 n) fun x3 =>
 none) fun x1 x2 =>
 cnd (!decide (x1.2=0))
  (some ([],[],x1.2))
 <| bnd (zk3 n) fun x4 =>
 zba n a1 x2
  (fun k2_1_0y0 k2_1_0y1=>bndM 62 (z8n n k2_1_0y1) fun x47 =>
 some (k2_1_0y0,x47,0)) n ([x4],0,[])
def z7y (n:Nat):Option (z05) :=
 bnd (z19 n true) fun x1 =>
 mak 2 24 (⟨[]⟩:za1) fun x2 =>
 bld ([⟨0,1,0,0,⟨0,[],0,0,0,x1⟩,[],[],[],[],[]⟩,⟨1,(-1),1,0,⟨0,[],0,0,0,x1⟩,[],[],[],[],[]⟩]:List z0j) fun x3 =>
 some (⟨3,1,x2,x3⟩)
def zcy (n:Nat)(a0:z05)(a1:(List z01)):Option ((List z03)×Int) :=
 bnd (zfy n a0 a1) fun x1 =>
 some (x1.2.1,x1.2.2)
def z4l (n:Nat)(a0:z01):Option (z1h) :=
 some (⟨a0.fTime,a0.fSource,a0.fSeq⟩)
def z6p (n:Nat)(a0:Int)(a1:Int):Option (z03) :=
 bnd (z2b n a0 0) fun x1 =>
 bnd (z4l n x1) fun x2 =>
 bnd (z2b n a1 0) fun x3 =>
 bnd (z4l n x3) fun x4 =>
 some (⟨[⟨0,⟨x2.fTime,x2.fSource,x2.fSeq⟩⟩,⟨1,⟨x4.fTime,x4.fSource,x4.fSeq⟩⟩]⟩)
def z6h (n:Nat)(a1:(List z03))(a0:(List z03))(k1_0_0:Option (Bool)):Nat->Int->Option (Bool)
 |0,_=>none
 |mv1_0+1,v1_0 =>
  cnd (decide (v1_0<((a0.map z0f).length:Int)))
   (idx a0 v1_0 fun x41 =>
   idx a1 v1_0 fun x42 =>
   bnd (z2n n (⟨x41.fBindings⟩:z03) (⟨x42.fBindings⟩:z03)) fun x43 =>
   cnd (!decide (x43=0))
    (some false)
   <| (z6h n a1 a0 k1_0_0 mv1_0) (IntKind.wrap .i64 (v1_0+1)))
  <| k1_0_0
def z51 (n:Nat)(a0:(List z03))(a1:(List z03)):Option (Bool) :=
 cnd (!decide (((a0.map z0f).length:Int)=((a1.map z0f).length:Int)))
  (some false)
 <| z6h n a1 a0
  (some true) n 0
def z5y (n:Nat)(w2_1:Bool):Option (Bool) :=
 some w2_1
attribute [irreducible] z5y
def z1b (n:Nat)(x5:(List z00)×(List z03)×Int)(x23:(List z03)×Int)(w1_0:Bool):Option (Bool) :=
 cnd (w1_0)
  (some false)
 <| jon (z5y n) <|
 reg <| bnd (z6p n 1 2) fun x35 =>
 bnd (z6p n 1 3) fun x36 =>
 bnd (z6p n 2 3) fun x37 =>
 bnd (z51 n x5.2.1 ([⟨x35.fBindings⟩,⟨x36.fBindings⟩,⟨x37.fBindings⟩])) fun x38 =>
 cnd (x38)
  (bnd (z6p n 1 2) fun x39 =>
  bnd (z6p n 2 3) fun x40 =>
  bnd (z51 n x23.1 ([⟨x39.fBindings⟩,⟨x40.fBindings⟩])) fun x41 =>
  z5y n x41)
 <| z5y n false
attribute [irreducible] z1b
def z7p (n:Nat):Option (Bool) :=
 bnd (z2b n 1 0) fun x1 =>
 bnd (z2b n 2 0) fun x2 =>
 bnd (z2b n 3 0) fun x3 =>
 bnd (zcx n) fun x4 =>
 bnd (zfy n x4 ([x1,x2,x3])) fun x5 =>
 bndM 22 (z7y n) fun x6 =>
 nat 0 (x6.fEdges.map z0d).length fun x7 =>
 ltx x7 (x6.fEdges.map z0d).length <| elt x6.fEdges x7 fun x8 =>
 nat 1 (x6.fStates.map z0c).length fun x9 =>
 ltx x9 (x6.fStates.map z0c).length <| stx x6.fStates x9 (fun x10=>⟨[⟨0,1,2,x8.fCond⟩]⟩) fun x11 =>
 frz 23000000 <| frz 23000001 <| reg <| bnd (z2b n 1 0) fun x12 =>
 bnd (z2b n 2 1) fun x13 =>
 bnd (z2b n 3 0) fun x14 =>
 bnd (zcy n (⟨x6.fVars,x6.fScopes,x11,x6.fEdges⟩:z05) ([x12,x13,x14])) fun x15 =>
 bndM 43 (z7y n) fun x16 =>
 nat 0 (x16.fEdges.map z0d).length fun x17 =>
 ltx x17 (x16.fEdges.map z0d).length <| stx x16.fEdges x17 (fun x18=>⟨x18.fFrom,x18.fTo,x18.fVar,x18.fType,x18.fCond,[0],x18.fCloses,x18.fChecks,x18.fLimits,x18.fInside⟩) fun x19 =>
 nat 1 (x19.map z0d).length fun x20 =>
 ltx x20 (x19.map z0d).length <| stx x19 x20 (fun x21=>⟨x21.fFrom,x21.fTo,x21.fVar,x21.fType,x21.fCond,x21.fOpens,x21.fCloses,x21.fChecks,[⟨0,1⟩],x21.fInside⟩) fun x22 =>
 frz 44000000 <| frz 44000001 <| reg <| bnd (zcy n (⟨x16.fVars,x16.fScopes,x16.fStates,x22⟩:z05) ([x1,x2,x3])) fun x23 =>
 jon (z1b n x5 x23) <|
 reg <| cnd (!decide (x5.2.2=0))
  (z1b n x5 x23 true)
 <| cnd (!decide (x15.2=0))
  (z1b n x5 x23 true)
 <| cnd (!decide (x23.2=0))
  (z1b n x5 x23 true)
 <| cnd (!decide (((x5.1.map z0e).length:Int)=4))
  (z1b n x5 x23 true)
 <| cnd (!decide (((x15.1.map z0f).length:Int)=0))
  (z1b n x5 x23 true)
 <| idx x5.1 0 fun x42 =>
 cnd (!decide (x42.fState=0))
  (z1b n x5 x23 true)
 <| idx x5.1 3 fun x43 =>
 z1b n x5 x23 (!decide (x43.fState=1))
def z6f (n:Nat)(a1:(List z00))(a0:(List z00))(k1_0_0:Option (Bool)):Nat->Int->Option (Bool)
 |0,_=>none
 |mv1_0+1,v1_0 =>
  cnd (decide (v1_0<((a0.map z0e).length:Int)))
   (idx a0 v1_0 fun x41 =>
   idx a1 v1_0 fun x42 =>
   bnd (z4e n x41 x42) fun x43 =>
   cnd (!decide (x43=0))
    (some false)
   <| (z6f n a1 a0 k1_0_0 mv1_0) (IntKind.wrap .i64 (v1_0+1)))
  <| k1_0_0
def z9d (n:Nat)(a0:(List z00))(a1:(List z00)):Option (Bool) :=
 cnd (!decide (((a0.map z0e).length:Int)=((a1.map z0e).length:Int)))
  (some false)
 <| z6f n a1 a0
  (some true) n 0
def z5e (n:Nat)(w1_0:Bool):Option (Bool) :=
 some w1_0
attribute [irreducible] z5e
def z7g (n:Nat)(a0:z0i):Option (Bool) :=
 jon (z5e n) <|
 reg <| bnd (z2r n a0 200) fun x4 =>
 cnd (decide (x4<=200))
  (bnd (z2q n a0) fun x5 =>
  z5e n (decide (x5<=100)))
 <| z5e n false
def z6z (n:Nat)(a0:(List z0o))(k1_0_0:Option (Bool)):Nat->Int->Option (Bool)
 |0,_=>none
 |mv1_0+1,v1_0 =>
  cnd (decide (v1_0<((a0.map z0r).length:Int)))
   (idx a0 v1_0 fun x41 =>
   bnd (z7g n x41.fCond) fun x42 =>
   cnd (!(x42))
    (some false)
   <| (z6z n a0 k1_0_0 mv1_0) (IntKind.wrap .i64 (v1_0+1)))
  <| k1_0_0
def za7 (n:Nat)(a0:(List z0o)):Option (Bool) :=
 z6z n a0
  (some true) n 0
def z5b (n:Nat)(w9_2:Bool):Option (Bool) :=
 some w9_2
attribute [irreducible] z5b
def z71 (n:Nat)(a0:z05)(v2_1:Int)(x83:z0j)(k3_5_0:Option (Bool)):Nat->Int->Option (Bool)
 |0,_=>none
 |mv3_5+1,v3_5 =>
  cnd (decide (v3_5<((x83.fChecks.map idA).length:Int)))
   (idxD z2y x83.fChecks v3_5 fun x126 =>
   bnd (z7g n x126) fun x127 =>
   cnd (!(x127))
    (some false)
   <| (z71 n a0 v2_1 x83 k3_5_0 mv3_5) (IntKind.wrap .i64 (v3_5+1)))
  <| k3_5_0
def z1f (n:Nat)(a0:z05)(v2_1:Int)(cv2_1:Int->Option (Bool))(x83:z0j)(w11_4:Bool):Option (Bool) :=
 cnd (w11_4)
  (some false)
 <| z71 n a0 v2_1 x83
  (cv2_1 (IntKind.wrap .i64 (v2_1+1))) n 0
attribute [irreducible] z1f
def z4h (n:Nat)(a0:z05)(v2_1:Int)(k2_1_0:Option (Bool))(cv2_1:Int->Option (Bool))(w10_3:Bool):Option (Bool) :=
 cnd (w10_3)
  (idx a0.fEdges v2_1 fun x83 =>
  jon (z1f n a0 v2_1 cv2_1 x83) <|
  reg <| bnd (z7g n x83.fCond) fun x128 =>
  cnd (!(x128))
   (z1f n a0 v2_1 cv2_1 x83 true)
  <| cnd (decide (8<((x83.fChecks.map idA).length:Int)))
   (z1f n a0 v2_1 cv2_1 x83 true)
  <| cnd (decide (12<((x83.fOpens.map aI).length:Int)))
   (z1f n a0 v2_1 cv2_1 x83 true)
  <| cnd (decide (12<((x83.fCloses.map aI).length:Int)))
   (z1f n a0 v2_1 cv2_1 x83 true)
  <| cnd (decide (12<((x83.fInside.map aI).length:Int)))
   (z1f n a0 v2_1 cv2_1 x83 true)
  <| z1f n a0 v2_1 cv2_1 x83 (decide (12<((x83.fLimits.map z0p).length:Int))))
 <| k2_1_0
attribute [irreducible] z4h
def z3e (n:Nat)(a0:z05)(k2_1_0:Option (Bool)):Nat->Int->Option (Bool)
 |0,_=>none
 |mv2_1+1,v2_1 =>
  jon (z4h n a0 v2_1 k2_1_0 (z3e n a0 k2_1_0 mv2_1)) <|
  reg <| cnd (decide (v2_1<((a0.fEdges.map z0d).length:Int)))
   (z4h n a0 v2_1 k2_1_0 (z3e n a0 k2_1_0 mv2_1) (decide (v2_1<60)))
  <| z4h n a0 v2_1 k2_1_0 (z3e n a0 k2_1_0 mv2_1) false
def z1n (n:Nat)(a0:z05)(v1_0:Int)(cv1_0:Int->Option (Bool))(w13_7:Bool):Option (Bool) :=
 cnd (w13_7)
  (some false)
 <| cv1_0 (IntKind.wrap .i64 (v1_0+1))
attribute [irreducible] z1n
def z4g (n:Nat)(a0:z05)(v1_0:Int)(k1_0_0:Option (Bool))(cv1_0:Int->Option (Bool))(w12_6:Bool):Option (Bool) :=
 cnd (w12_6)
  (jon (z1n n a0 v1_0 cv1_0) <|
  reg <| idx a0.fStates v1_0 fun x139 =>
  cnd (decide (12<((x139.fGuards.map z0r).length:Int)))
   (idx a0.fStates v1_0 fun x140 =>
   cnd (decide (((x140.fGuards.map z0r).length:Int)<=64))
    (z1n n a0 v1_0 cv1_0 true)
   <| idx a0.fStates v1_0 fun x141 =>
   cnd (decide (70<((x141.fGuards.map z0r).length:Int)))
    (z1n n a0 v1_0 cv1_0 true)
   <| idx a0.fStates v1_0 fun x142 =>
   bnd (za7 n x142.fGuards) fun x143 =>
   z1n n a0 v1_0 cv1_0 !(x143))
  <| idx a0.fStates v1_0 fun x144 =>
  cnd (decide (70<((x144.fGuards.map z0r).length:Int)))
   (z1n n a0 v1_0 cv1_0 true)
  <| idx a0.fStates v1_0 fun x145 =>
  bnd (za7 n x145.fGuards) fun x146 =>
  z1n n a0 v1_0 cv1_0 !(x146))
 <| k1_0_0
attribute [irreducible] z4g
def z3f (n:Nat)(a0:z05)(k1_0_0:Option (Bool)):Nat->Int->Option (Bool)
 |0,_=>none
 |mv1_0+1,v1_0 =>
  jon (z4g n a0 v1_0 k1_0_0 (z3f n a0 k1_0_0 mv1_0)) <|
  reg <| cnd (decide (v1_0<((a0.fStates.map z0c).length:Int)))
   (z4g n a0 v1_0 k1_0_0 (z3f n a0 k1_0_0 mv1_0) (decide (v1_0<30)))
  <| z4g n a0 v1_0 k1_0_0 (z3f n a0 k1_0_0 mv1_0) false
def za8 (n:Nat)(a0:z05):Option (Bool) :=
 z3f n a0
  (z3e n a0
  (jon (z5b n) <|
 reg <| cnd (decide (((a0.fStates.map z0c).length:Int)<=20))
  (z5b n (decide (((a0.fEdges.map z0d).length:Int)<=40)))
 <| z5b n false) n 0) n 0
def z74 (n:Nat)(a0:(List z02))(k1_0_0:Option (Bool)):Nat->Int->Option (Bool)
 |0,_=>none
 |mv1_0+1,v1_0 =>
  cnd (decide (v1_0<((a0.map z07).length:Int)))
   (cnd (decide (v1_0<40))
     (idx a0 v1_0 fun x41 =>
     cnd (decide (128<((x41.fText.size:Nat):Int)))
      (some false)
     <| (z74 n a0 k1_0_0 mv1_0) (IntKind.wrap .i64 (v1_0+1)))
   <| k1_0_0)
  <| k1_0_0
def zab (n:Nat)(a0:(List z02)):Option (Bool) :=
 z74 n a0
  (some (decide (((a0.map z07).length:Int)<40))) n 0
def z73 (n:Nat)(a0:(List z01))(k1_0_0:Option (Bool)):Nat->Int->Option (Bool)
 |0,_=>none
 |mv1_0+1,v1_0 =>
  cnd (decide (v1_0<((a0.map z04).length:Int)))
   (cnd (decide (v1_0<20))
     (idx a0 v1_0 fun x41 =>
     cnd (decide (12<((x41.fValues.map z07).length:Int)))
      (some false)
     <| idx a0 v1_0 fun x42 =>
     bnd (zab n x42.fValues) fun x43 =>
     cnd (!(x43))
      (some false)
     <| (z73 n a0 k1_0_0 mv1_0) (IntKind.wrap .i64 (v1_0+1)))
   <| k1_0_0)
  <| k1_0_0
def zaa (n:Nat)(a0:(List z01)):Option (Bool) :=
 z73 n a0
  (some (decide (((a0.map z04).length:Int)<=12))) n 0
def z8g (n:Nat)(a0:z01):Option (Bool) :=
 cnd (decide (0<=a0.fTime))
  (cnd (decide (a0.fTime<=1099511627776))
    (cnd (decide (0<=a0.fSource))
      (cnd (decide (a0.fSource<8))
        (cnd (decide (0<=a0.fSeq))
          (some (decide (a0.fSeq<=1099511627776)))
        <| some false)
      <| some false)
    <| some false)
  <| some false)
 <| some false
def z87 (n:Nat)(a0:z01)(a1:z01):Option (Bool) :=
 cnd (decide (a0.fSource=a1.fSource))
  (some (decide (a0.fSeq=a1.fSeq)))
 <| some false
def z5x (n:Nat)(a0:(List z01))(v1_0:Int)(k2_1_0:Option (Int)):Nat->Int->Option (Int)
 |0,_=>none
 |mv2_1+1,v2_1 =>
  cnd (decide (v2_1<v1_0))
   (idx a0 v2_1 fun x88 =>
   idx a0 v1_0 fun x89 =>
   bnd (z87 n x88 x89) fun x90 =>
   cnd (x90)
    (some 7)
   <| (z5x n a0 v1_0 k2_1_0 mv2_1) (IntKind.wrap .i64 (v2_1+1)))
  <| k2_1_0
def z5w (n:Nat)(a0:(List z01))(v1_0:Int)(k3_2_0:Option (Int)):Nat->Int->Option (Int)
 |0,_=>none
 |mv3_2+1,v3_2 =>
  cnd (decide (v3_2<v1_0))
   (idx a0 v3_2 fun x131 =>
   idx a0 v1_0 fun x132 =>
   bnd (z87 n x131 x132) fun x133 =>
   cnd (x133)
    (some 7)
   <| (z5w n a0 v1_0 k3_2_0 mv3_2) (IntKind.wrap .i64 (v3_2+1)))
  <| k3_2_0
def z1u (n:Nat)(a0:(List z01))(k1_0_0:Option (Int)):Nat->Int->Option (Int)
 |0,_=>none
 |mv1_0+1,v1_0 =>
  cnd (decide (v1_0<((a0.map z04).length:Int)))
   (idx a0 v1_0 fun x41 =>
   bnd (z8g n x41) fun x42 =>
   cnd (!(x42))
    (some 2)
   <| cnd (decide (0<v1_0))
    (idx a0 (IntKind.wrap .i64 (v1_0-1)) fun x43 =>
    bnd (z4l n x43) fun x44 =>
    idx a0 v1_0 fun x45 =>
    bnd (z4l n x45) fun x46 =>
    bnd (z7o n (⟨x44.fTime,x44.fSource,x44.fSeq⟩:z1h) (⟨x46.fTime,x46.fSource,x46.fSeq⟩:z1h)) fun x47 =>
    cnd (decide (0<=x47))
     (some 14)
    <| z5x n a0 v1_0
     ((z1u n a0 k1_0_0 mv1_0) (IntKind.wrap .i64 (v1_0+1))) n 0)
   <| z5w n a0 v1_0
    ((z1u n a0 k1_0_0 mv1_0) (IntKind.wrap .i64 (v1_0+1))) n 0)
  <| k1_0_0
def z91 (n:Nat)(a0:(List z01)):Option (Int) :=
 cnd (decide (4096<((a0.map z04).length:Int)))
  (some 5)
 <| z1u n a0
  (some 0) n 0
def z3j (n:Nat)(a0:z05)(a1:(List z01)):Option (Int) :=
 bnd (z7j n a0) fun x1 =>
 cnd (!decide (x1=0))
  (some x1)
 <| bnd (z91 n a1) fun x2 =>
 some x2
def zb6 (n:Nat):Option (z00) :=
 some (⟨0,[],[]⟩)
def z5t (n:Nat)(a1:z1h)(a0:(List z01))(k1_0_0:Option (z01×Bool)):Nat->Int->Option (z01×Bool)
 |0,_=>none
 |mv1_0+1,v1_0 =>
  cnd (decide (v1_0<((a0.map z04).length:Int)))
   (idx a0 v1_0 fun x41 =>
   bnd (z4l n x41) fun x42 =>
   cnd ((decide (x42.fTime=a1.fTime) && (decide (x42.fSource=a1.fSource) && (decide (x42.fSeq=a1.fSeq) && true))))
    (idx a0 v1_0 fun x43 =>
    some (x43,true))
   <| (z5t n a1 a0 k1_0_0 mv1_0) (IntKind.wrap .i64 (v1_0+1)))
  <| k1_0_0
def z8z (n:Nat)(a0:(List z01))(a1:z1h):Option (z01×Bool) :=
 z5t n a1 a0
  (some (⟨0,0,0,0,[]⟩,false)) n 0
def z1j (n:Nat)(a2:(List z0u))(a1:Int)(a0:(List z01))(x1:Nat)(k1_0_0:(List (List z01))->Option (z0h)):Nat->Int×(List (List z01))->Option (z0h)
 |0,_=>none
 |mv1_0+1,v1_0 =>
  cnd (decide (v1_0.1<((a2.map z0a).length:Int)))
   (idx a2 v1_0.1 fun x43 =>
   bnd (z8z n a0 (⟨x43.fRef.fTime,x43.fRef.fSource,x43.fRef.fSeq⟩:z1h)) fun x44 =>
   reg <| cnd (x44.2)
    (cnd (decide (0<=x43.fVar))
      (cnd (decide (x43.fVar<a1))
        (ncx x43.fVar x1 <|
        ntk v1_0.2 (Int.toNat x43.fVar) fun x45 =>
        app x45 [x44.1] 56 fun x46 =>
        ncx x43.fVar x1 <|
        npt v1_0.2 (Int.toNat x43.fVar) x46 fun x47 =>
        (z1j n a2 a1 a0 x1 k1_0_0 mv1_0) ((IntKind.wrap .i64 (v1_0.1+1)),x47))
      <| (z1j n a2 a1 a0 x1 k1_0_0 mv1_0) ((IntKind.wrap .i64 (v1_0.1+1)),v1_0.2))
    <| (z1j n a2 a1 a0 x1 k1_0_0 mv1_0) ((IntKind.wrap .i64 (v1_0.1+1)),v1_0.2))
   <| (z1j n a2 a1 a0 x1 k1_0_0 mv1_0) ((IntKind.wrap .i64 (v1_0.1+1)),v1_0.2))
  <| k1_0_0 v1_0.2
def zb7 (n:Nat)(a0:(List z01))(a1:Int)(a2:(List z0u)):Option (z0h) :=
 mkn a1 24 fun x1 =>
 nst 13 <| reg <| z1j n a2 a1 a0 x1
  (fun k1_0_0y=>frr 13 <| reg <| some ⟨k1_0_0y⟩) n (0,(List.replicate (x1) ([]:List z01)))
def z7e (n:Nat)(a0:(List z01))(a1:z00):Option (z0h) :=
 bnd (zb7 n a0 16 a1.fBindings) fun x1 =>
 some ⟨x1.fVars⟩
def z2e (n:Nat)(w1_0:Bool):Option (Bool) :=
 some w1_0
attribute [irreducible] z2e
def z5o (n:Nat)(a0:z0o)(a1:z0h)(a2:z01):Option (Bool) :=
 jon (z2e n) <|
 reg <| cnd (decide (a0.fType=a2.fType))
  (bnd (z29 n a0.fCond (⟨a1.fVars⟩:z0h) a0.fVar a2) fun x3 =>
  z2e n x3)
 <| z2e n false
def z5p (n:Nat)(a3:z01)(x1:z0h)(x2:za1)(k1_0_0:Option (Bool)):Nat->Int->Option (Bool)
 |0,_=>none
 |mv1_0+1,v1_0 =>
  cnd (decide (v1_0<((x2.fGuards.map z0r).length:Int)))
   (idx x2.fGuards v1_0 fun x43 =>
   bnd (z5o n x43 (⟨x1.fVars⟩:z0h) a3) fun x44 =>
   cnd (x44)
    (some false)
   <| (z5p n a3 x1 x2 k1_0_0 mv1_0) (IntKind.wrap .i64 (v1_0+1)))
  <| k1_0_0
def z8x (n:Nat)(a0:z05)(a1:(List z01))(a2:z00)(a3:z01):Option (Bool) :=
 bnd (z7e n a1 a2) fun x1 =>
 idx a0.fStates a2.fState fun x2 =>
 z5p n a3 x1 x2
  (some true) n 0
def z4f (n:Nat)(a1:Int)(a0:z05)(k1_0_0:(List z0j)->Option ((List z0j))):Nat->Int×(List z0j)->Option ((List z0j))
 |0,_=>none
 |mv1_0+1,v1_0 =>
  cnd (decide (v1_0.1<((a0.fEdges.map z0d).length:Int)))
   (reg <| idx a0.fEdges v1_0.1 fun x42 =>
   cnd (decide (x42.fFrom=a1))
    (idx a0.fEdges v1_0.1 fun x43 =>
    app v1_0.2 [x43] 240 fun x44 =>
    (z4f n a1 a0 k1_0_0 mv1_0) ((IntKind.wrap .i64 (v1_0.1+1)),x44))
   <| (z4f n a1 a0 k1_0_0 mv1_0) ((IntKind.wrap .i64 (v1_0.1+1)),v1_0.2))
  <| k1_0_0 v1_0.2
def z9f (n:Nat)(a0:z05)(a1:Int):Option ((List z0j)) :=
 z4f n a1 a0
  (fun k1_0_0y=>some k1_0_0y) n (0,[])
def z6s (n:Nat)(a1:Int)(a0:(List Int))(k1_0_0:Option (Bool)):Nat->Int->Option (Bool)
 |0,_=>none
 |mv1_0+1,v1_0 =>
  cnd (decide (v1_0<((a0.map aI).length:Int)))
   (idx a0 v1_0 fun x41 =>
   cnd (decide (x41=a1))
    (some true)
   <| (z6s n a1 a0 k1_0_0 mv1_0) (IntKind.wrap .i64 (v1_0+1)))
  <| k1_0_0
def za4 (n:Nat)(a0:(List Int))(a1:Int):Option (Bool) :=
 z6s n a1 a0
  (some false) n 0
def z30 (n:Nat)(a1:Int)(a0:(List z0b))(k1_0_0:(List z0b)->Option ((List z0b))):Nat->Int×(List z0b)->Option ((List z0b))
 |0,_=>none
 |mv1_0+1,v1_0 =>
  cnd (decide (v1_0.1<((a0.map z08).length:Int)))
   (reg <| idx a0 v1_0.1 fun x42 =>
   cnd (!decide (x42.fScope=a1))
    (idx a0 v1_0.1 fun x43 =>
    app v1_0.2 [x43] 16 fun x44 =>
    (z30 n a1 a0 k1_0_0 mv1_0) ((IntKind.wrap .i64 (v1_0.1+1)),x44))
   <| (z30 n a1 a0 k1_0_0 mv1_0) ((IntKind.wrap .i64 (v1_0.1+1)),v1_0.2))
  <| k1_0_0 v1_0.2
def z6t (n:Nat)(a0:(List z0b))(a1:Int):Option ((List z0b)) :=
 z30 n a1 a0
  (fun k1_0_0y=>some k1_0_0y) n (0,[])
def z2z (n:Nat)(a2:Int)(a1:Int)(x1:(List z0b))(v1_0:Int×(List z0b))(k1_0_0:(List z0b)->Int->(List z0b)->Option ((List z0b)))(cv1_0:(Int×(List z0b))->Option ((List z0b)))(w3_1:Bool):Option ((List z0b)) :=
 cnd (w3_1)
  (idx x1 v1_0.1 fun x50 =>
  app v1_0.2 [x50] 16 fun x51 =>
  cv1_0 ((IntKind.wrap .i64 (v1_0.1+1)),x51))
 <| k1_0_0 x1 v1_0.1 v1_0.2
attribute [irreducible] z2z
def z26 (n:Nat)(a2:Int)(a1:Int)(x1:(List z0b))(k1_0_0:(List z0b)->Int->(List z0b)->Option ((List z0b))):Nat->Int×(List z0b)->Option ((List z0b))
 |0,_=>none
 |mv1_0+1,v1_0 =>
  jon (z2z n a2 a1 x1 v1_0 k1_0_0 (z26 n a2 a1 x1 k1_0_0 mv1_0)) <|
  reg <| cnd (decide (v1_0.1<((x1.map z08).length:Int)))
   (idx x1 v1_0.1 fun x52 =>
   z2z n a2 a1 x1 v1_0 k1_0_0 (z26 n a2 a1 x1 k1_0_0 mv1_0) (decide (x52.fScope<a1)))
  <| z2z n a2 a1 x1 v1_0 k1_0_0 (z26 n a2 a1 x1 k1_0_0 mv1_0) false
def z8e (n:Nat)(a0:(List z0b))(a1:Int)(a2:Int):Option ((List z0b)) :=
 bnd (z6t n a0 a1) fun x1 =>
 z26 n a2 a1 x1
  (fun k1_0_0y0 k1_0_0y1 k1_0_0y2=>app k1_0_0y2 ([⟨a1,a2⟩]) 16 fun x45 =>
 sls k1_0_0y0 k1_0_0y1 ((k1_0_0y0.map z08).length:Int) fun x46 =>
 app x45 x46 16 fun x47 =>
 some x47) n (0,[])
def z6e (n:Nat)(a2:Int)(a1:z0y)(a0:(List z0b))(k1_0_0:Option (Bool)):Nat->Int->Option (Bool)
 |0,_=>none
 |mv1_0+1,v1_0 =>
  cnd (decide (v1_0<((a0.map z08).length:Int)))
   (idx a0 v1_0 fun x41 =>
   cnd (decide (x41.fScope=a1.fScope))
    (idx a0 v1_0 fun x42 =>
    some (decide ((IntKind.wrap .i64 (a2-x42.fTime))<=a1.fSpan)))
   <| (z6e n a2 a1 a0 k1_0_0 mv1_0) (IntKind.wrap .i64 (v1_0+1)))
  <| k1_0_0
def z9c (n:Nat)(a0:(List z0b))(a1:z0y)(a2:Int):Option (Bool) :=
 z6e n a2 a1 a0
  (some false) n 0
def z42 (n:Nat)(a3:z0j)(k4_4_0y:(List z0u))(k5_5_0:(List z0b)->Option (z00×Bool)):Nat->Int×(List z0b)->Option (z00×Bool)
 |0,_=>none
 |mv5_5+1,v5_5 =>
  cnd (decide (v5_5.1<((a3.fCloses.map aI).length:Int)))
   (idx a3.fCloses v5_5.1 fun x216 =>
   bnd (z6t n v5_5.2 x216) fun x217 =>
   (z42 n a3 k4_4_0y k5_5_0 mv5_5) ((IntKind.wrap .i64 (v5_5.1+1)),x217))
  <| k5_5_0 v5_5.2
def z43 (n:Nat)(a3:z0j)(k2_2_0y:(List z0b))(x130:(List z0u))(x133:z0h)(k4_4_0:(List z0u)->Option (z00×Bool)):Nat->Int->Option (z00×Bool)
 |0,_=>none
 |mv4_4+1,v4_4 =>
  cnd (decide (v4_4<((a3.fChecks.map idA).length:Int)))
   (idxD z2y a3.fChecks v4_4 fun x218 =>
   bnd (z29 n x218 (⟨x133.fVars⟩:z0h) (-1) (⟨0,0,0,0,[]⟩:z01)) fun x219 =>
   cnd (!(x219))
    (some (⟨0,[],[]⟩,false))
   <| (z43 n a3 k2_2_0y x130 x133 k4_4_0 mv4_4) (IntKind.wrap .i64 (v4_4+1)))
  <| k4_4_0 x130
def z44 (n:Nat)(a4:z01)(a3:z0j)(a2:z00)(a1:(List z01))(k2_2_0y:(List z0b))(k3_3_0:Option (z00×Bool)):Nat->Int->Option (z00×Bool)
 |0,_=>none
 |mv3_3+1,v3_3 =>
  cnd (decide (v3_3<((a3.fLimits.map z0p).length:Int)))
   (idx a3.fLimits v3_3 fun x220 =>
   bnd (z9c n k2_2_0y x220 a4.fTime) fun x221 =>
   cnd (!(x221))
    (some (⟨0,[],[]⟩,false))
   <| (z44 n a4 a3 a2 a1 k2_2_0y k3_3_0 mv3_3) (IntKind.wrap .i64 (v3_3+1)))
  <| k3_3_0
def z47 (n:Nat)(a4:z01)(a3:z0j)(a2:z00)(a1:(List z01))(k2_2_0:(List z0b)->Option (z00×Bool)):Nat->Int×(List z0b)->Option (z00×Bool)
 |0,_=>none
 |mv2_2+1,v2_2 =>
  cnd (decide (v2_2.1<((a3.fOpens.map aI).length:Int)))
   (idx a3.fOpens v2_2.1 fun x222 =>
   bnd (z8e n v2_2.2 x222 a4.fTime) fun x223 =>
   (z47 n a4 a3 a2 a1 k2_2_0 mv2_2) ((IntKind.wrap .i64 (v2_2.1+1)),x223))
  <| k2_2_0 v2_2.2
def z11 (n:Nat)(a4:z01)(a3:z0j)(a2:z00)(a1:(List z01))(w3_1:Bool):Option (z00×Bool) :=
 cnd (w3_1)
  (some (⟨0,[],[]⟩,false))
 <| z47 n a4 a3 a2 a1
  (fun k2_2_0y=>z44 n a4 a3 a2 a1 k2_2_0y
  (app ([]:List z0u) a2.fBindings 32 fun x127 =>
 bnd (z4l n a4) fun x128 =>
 bldS ([⟨a3.fVar,⟨x128.fTime,x128.fSource,x128.fSeq⟩⟩]:List z0u) fun x129 =>
 app x127 x129 32 fun x130 =>
 frz 125 <| reg <| bld ([a4]:List z01) fun x131 =>
 app x131 a1 56 fun x132 =>
 bnd (z7e n x132 (⟨a3.fTo,x130,k2_2_0y⟩:z00)) fun x133 =>
 z43 n a3 k2_2_0y x130 x133
  (fun k4_4_0y=>z42 n a3 k4_4_0y
  (fun k5_5_0y=>some (⟨a3.fTo,k4_4_0y,k5_5_0y⟩,true)) n (0,k2_2_0y)) n 0) n 0) n (0,a2.fStarts)
attribute [irreducible] z11
def z2i (n:Nat)(a4:z01)(a3:z0j)(a2:z00)(a1:(List z01))(x1:z0h)(x2:za1)(v1_0:Int)(cv1_0:Int->Option (z00×Bool))(w4_6:Bool):Option (z00×Bool) :=
 cnd (w4_6)
  (some (⟨0,[],[]⟩,false))
 <| cv1_0 (IntKind.wrap .i64 (v1_0+1))
attribute [irreducible] z2i
def z1v (n:Nat)(a4:z01)(a3:z0j)(a2:z00)(a1:(List z01))(x1:z0h)(x2:za1)(k1_0_0:(List (List z01))->Option (z00×Bool)):Nat->Int->Option (z00×Bool)
 |0,_=>none
 |mv1_0+1,v1_0 =>
  cnd (decide (v1_0<((x2.fGuards.map z0r).length:Int)))
   (jon (z2i n a4 a3 a2 a1 x1 x2 v1_0 (z1v n a4 a3 a2 a1 x1 x2 k1_0_0 mv1_0)) <|
   reg <| idx x2.fGuards v1_0 fun x230 =>
   bnd (za4 n a3.fInside x230.fScope) fun x231 =>
   cnd (!(x231))
    (idx x2.fGuards v1_0 fun x232 =>
    bnd (z5o n x232 (⟨x1.fVars⟩:z0h) a4) fun x233 =>
    z2i n a4 a3 a2 a1 x1 x2 v1_0 (z1v n a4 a3 a2 a1 x1 x2 k1_0_0 mv1_0) x233)
   <| z2i n a4 a3 a2 a1 x1 x2 v1_0 (z1v n a4 a3 a2 a1 x1 x2 k1_0_0 mv1_0) false)
  <| k1_0_0 x1.fVars
def z4d (n:Nat)(a0:z05)(a1:(List z01))(a2:z00)(a3:z0j)(a4:z01):Option (z00×Bool) :=
 bnd (z7e n a1 a2) fun x1 =>
 idx a0.fStates a2.fState fun x2 =>
 z1v n a4 a3 a2 a1 x1 x2
  (fun k1_0_0y=>jon (z11 n a4 a3 a2 a1) <|
 reg <| cnd (!decide (a3.fType=a4.fType))
  (z11 n a4 a3 a2 a1 true)
 <| bnd (z29 n a3.fCond (⟨k1_0_0y⟩:z0h) a3.fVar a4) fun x224 =>
 z11 n a4 a3 a2 a1 !(x224)) n 0
def z5d (n:Nat)(a1:z03)(a0:(List z03))(k1_0_0y:Int)(w3_1:Bool):Option ((List z03)) :=
 cnd (w3_1)
  (some a0)
 <| sls a0 0 k1_0_0y fun x45 =>
 app ([]:List z03) x45 24 fun x46 =>
 app x46 [⟨a1.fBindings⟩] 24 fun x47 =>
 sls a0 k1_0_0y ((a0.map z0f).length:Int) fun x48 =>
 app x47 x48 24 fun x49 =>
 some x49
attribute [irreducible] z5d
def z5c (n:Nat)(a1:z03)(a0:(List z03))(v1_0:Int)(k1_0_0:Int->Option ((List z03)))(cv1_0:Int->Option ((List z03)))(w4_2:Bool):Option ((List z03)) :=
 cnd (w4_2)
  (cv1_0 (IntKind.wrap .i64 (v1_0+1)))
 <| k1_0_0 v1_0
attribute [irreducible] z5c
def z3g (n:Nat)(a1:z03)(a0:(List z03))(k1_0_0:Int->Option ((List z03))):Nat->Int->Option ((List z03))
 |0,_=>none
 |mv1_0+1,v1_0 =>
  jon (z5c n a1 a0 v1_0 k1_0_0 (z3g n a1 a0 k1_0_0 mv1_0)) <|
  reg <| cnd (decide (v1_0<((a0.map z0f).length:Int)))
   (idx a0 v1_0 fun x55 =>
   bnd (z2n n (⟨x55.fBindings⟩:z03) (⟨a1.fBindings⟩:z03)) fun x56 =>
   z5c n a1 a0 v1_0 k1_0_0 (z3g n a1 a0 k1_0_0 mv1_0) (decide (x56<0)))
  <| z5c n a1 a0 v1_0 k1_0_0 (z3g n a1 a0 k1_0_0 mv1_0) false
def z7f (n:Nat)(a0:(List z03))(a1:z03):Option ((List z03)) :=
 z3g n a1 a0
  (fun k1_0_0y=>jon (z5d n a1 a0 k1_0_0y) <|
 reg <| cnd (decide (k1_0_0y<((a0.map z0f).length:Int)))
  (idx a0 k1_0_0y fun x50 =>
  bnd (z2n n (⟨x50.fBindings⟩:z03) (⟨a1.fBindings⟩:z03)) fun x51 =>
  z5d n a1 a0 k1_0_0y (decide (x51=0)))
 <| z5d n a1 a0 k1_0_0y false) n 0
def z3d (n:Nat)(a3:z01)(a2:z00)(a1:(List z01))(a0:z05)(x4:(List z0j))(k1_1_0:(List z00)->(List z03)->Option ((List z00)×(List z03))):Nat->(List z00)×(List z03)×Int->Option ((List z00)×(List z03))
 |0,_=>none
 |mv1_1+1,v1_1 =>
  cnd (decide (v1_1.2.2<((x4.map z0d).length:Int)))
   (idx x4 v1_1.2.2 fun x47 =>
   bnd (z4d n a0 a1 a2 x47 a3) fun x48 =>
   cnd (!(x48.2))
    ((z3d n a3 a2 a1 a0 x4 k1_1_0 mv1_1) (v1_1.1,v1_1.2.1,(IntKind.wrap .i64 (v1_1.2.2+1))))
   <| reg <| cnd (decide (x48.1.fState<0))
    (bnd (z7f n v1_1.2.1 (⟨x48.1.fBindings⟩:z03)) fun x49 =>
    (z3d n a3 a2 a1 a0 x4 k1_1_0 mv1_1) (v1_1.1,x49,(IntKind.wrap .i64 (v1_1.2.2+1))))
   <| bnd (z7d n v1_1.1 x48.1) fun x50 =>
   (z3d n a3 a2 a1 a0 x4 k1_1_0 mv1_1) (x50,v1_1.2.1,(IntKind.wrap .i64 (v1_1.2.2+1))))
  <| k1_1_0 v1_1.1 v1_1.2.1
def z59 (n:Nat)(a3:z01)(a2:z00)(a1:(List z01))(a0:z05)(w1_0:(List z00)):Option ((List z00)×(List z03)) :=
 bnd (z9f n a0 a2.fState) fun x4 =>
 z3d n a3 a2 a1 a0 x4
  (fun k1_1_0y0 k1_1_0y1=>some (k1_1_0y0,k1_1_0y1)) n (w1_0,[],0)
attribute [irreducible] z59
def za5 (n:Nat)(a0:z05)(a1:(List z01))(a2:z00)(a3:z01):Option ((List z00)×(List z03)) :=
 jon (z59 n a3 a2 a1 a0) <|
 reg <| bnd (z8x n a0 a1 a2 a3) fun x51 =>
 cnd (x51)
  (bnd (z7d n [] a2) fun x52 =>
  z59 n a3 a2 a1 a0 x52)
 <| z59 n a3 a2 a1 a0 []
def z6v (n:Nat)(a3:z01)(a2:(List z00))(a1:(List z01))(a0:z05)(v1_0:(List z00)×(List z03)×Int)(k2_1_0y0:(List z00))(k2_1_0y1:(List z03))(k3_2_0:(List z03)->Option ((List z00)×(List z03))):Nat->(List z03)×Int->Option ((List z00)×(List z03))
 |0,_=>none
 |mv3_2+1,v3_2 =>
  cnd (decide (v3_2.2<((k2_1_0y1.map z0f).length:Int)))
   (idx k2_1_0y1 v3_2.2 fun x128 =>
   bnd (z7f n v3_2.1 (⟨x128.fBindings⟩:z03)) fun x129 =>
   (z6v n a3 a2 a1 a0 v1_0 k2_1_0y0 k2_1_0y1 k3_2_0 mv3_2) (x129,(IntKind.wrap .i64 (v3_2.2+1))))
  <| k3_2_0 v3_2.1
def z6w (n:Nat)(a3:z01)(a2:(List z00))(a1:(List z01))(a0:z05)(v1_0:(List z00)×(List z03)×Int)(x44:(List z00)×(List z03))(k2_1_0:(List z00)->(List z03)->Option ((List z00)×(List z03))):Nat->(List z00)×Int->Option ((List z00)×(List z03))
 |0,_=>none
 |mv2_1+1,v2_1 =>
  cnd (decide (v2_1.2<((x44.1.map z0e).length:Int)))
   (idx x44.1 v2_1.2 fun x130 =>
   bnd (z7d n v2_1.1 x130) fun x131 =>
   (z6w n a3 a2 a1 a0 v1_0 x44 k2_1_0 mv2_1) (x131,(IntKind.wrap .i64 (v2_1.2+1))))
  <| k2_1_0 v2_1.1 x44.2
def z6x (n:Nat)(a3:z01)(a2:(List z00))(a1:(List z01))(a0:z05)(k1_0_0:(List z00)->(List z03)->Option ((List z00)×(List z03))):Nat->(List z00)×(List z03)×Int->Option ((List z00)×(List z03))
 |0,_=>none
 |mv1_0+1,v1_0 =>
  cnd (decide (v1_0.2.2<((a2.map z0e).length:Int)))
   (idx a2 v1_0.2.2 fun x43 =>
   bnd (za5 n a0 a1 x43 a3) fun x44 =>
   z6w n a3 a2 a1 a0 v1_0 x44
    (fun k2_1_0y0 k2_1_0y1=>z6v n a3 a2 a1 a0 v1_0 k2_1_0y0 k2_1_0y1
    (fun k3_2_0y=>(z6x n a3 a2 a1 a0 k1_0_0 mv1_0) (k2_1_0y0,k3_2_0y,(IntKind.wrap .i64 (v1_0.2.2+1)))) n (v1_0.2.1,0)) n (v1_0.1,0))
  <| k1_0_0 v1_0.1 v1_0.2.1
def za6 (n:Nat)(a0:z05)(a1:(List z01))(a2:(List z00))(a3:z01):Option ((List z00)×(List z03)) :=
 z6x n a3 a2 a1 a0
  (fun k1_0_0y0 k1_0_0y1=>some (k1_0_0y0,k1_0_0y1)) n ([],[],0)
def z31 (n:Nat)(a2:Int)(a1:(List z01))(a0:z05)(v1_0:(List z00)×(List z03)×Int)(cv1_0:((List z00)×(List z03)×Int)->Option ((List z00)×(List z03)×Bool))(k2_1_0y0:(List z03))(k2_1_0y1:(List z00))(w3_2:Bool):Option ((List z00)×(List z03)×Bool) :=
 cnd (w3_2)
  (some ([],[],false))
 <| cv1_0 (k2_1_0y1,k2_1_0y0,(IntKind.wrap .i64 (v1_0.2.2+1)))
attribute [irreducible] z31
def z4r (n:Nat)(a2:Int)(a1:(List z01))(a0:z05)(v1_0:(List z00)×(List z03)×Int)(x45:(List z00)×(List z03))(k2_1_0:(List z03)->(List z00)->Option ((List z00)×(List z03)×Bool)):Nat->(List z03)×Int->Option ((List z00)×(List z03)×Bool)
 |0,_=>none
 |mv2_1+1,v2_1 =>
  cnd (decide (v2_1.2<((x45.2.map z0f).length:Int)))
   (idx x45.2 v2_1.2 fun x89 =>
   bnd (z7f n v2_1.1 (⟨x89.fBindings⟩:z03)) fun x90 =>
   (z4r n a2 a1 a0 v1_0 x45 k2_1_0 mv2_1) (x90,(IntKind.wrap .i64 (v2_1.2+1))))
  <| k2_1_0 v2_1.1 x45.1
def z27 (n:Nat)(a2:Int)(a1:(List z01))(a0:z05)(k1_0_0:(List z00)->(List z03)->Option ((List z00)×(List z03)×Bool)):Nat->(List z00)×(List z03)×Int->Option ((List z00)×(List z03)×Bool)
 |0,_=>none
 |mv1_0+1,v1_0 =>
  cnd (decide (v1_0.2.2<((a1.map z04).length:Int)))
   (idx a1 v1_0.2.2 fun x44 =>
   bnd (za6 n a0 a1 v1_0.1 x44) fun x45 =>
   z4r n a2 a1 a0 v1_0 x45
    (fun k2_1_0y0 k2_1_0y1=>jon (z31 n a2 a1 a0 v1_0 (z27 n a2 a1 a0 k1_0_0 mv1_0) k2_1_0y0 k2_1_0y1) <|
   reg <| cnd (decide (a2<((k2_1_0y1.map z0e).length:Int)))
    (z31 n a2 a1 a0 v1_0 (z27 n a2 a1 a0 k1_0_0 mv1_0) k2_1_0y0 k2_1_0y1 true)
   <| z31 n a2 a1 a0 v1_0 (z27 n a2 a1 a0 k1_0_0 mv1_0) k2_1_0y0 k2_1_0y1 (decide (a2<((k2_1_0y0.map z0f).length:Int)))) n (v1_0.2.1,0))
  <| k1_0_0 v1_0.1 v1_0.2.1
def z6u (n:Nat)(a0:z05)(a1:(List z01))(a2:Int):Option ((List z00)×(List z03)×Bool) :=
 bnd (zb6 n) fun x1 =>
 z27 n a2 a1 a0
  (fun k1_0_0y0 k1_0_0y1=>some (k1_0_0y0,k1_0_0y1,true)) n ([x1],[],0)
def z3m (n:Nat)(a1:(List z01))(a0:z05)(w1_0:Bool):Option (Bool) :=
 cnd (w1_0)
  (some false)
 <| bnd (z3j n a0 a1) fun x4 =>
 cnd (!decide (x4=0))
  (some true)
 <| bnd (z6u n a0 a1 150) fun x5 =>
 some x5.2.2
attribute [irreducible] z3m
def z8w (n:Nat)(a0:z05)(a1:(List z01)):Option (Bool) :=
 jon (z3m n a1 a0) <|
 reg <| bnd (za8 n a0) fun x6 =>
 cnd (!(x6))
  (z3m n a1 a0 true)
 <| bnd (zaa n a1) fun x7 =>
 z3m n a1 a0 !(x7)
def z7c (n:Nat)(a0:z05)(a1:(List z01)):Option ((List z00)×(List z03)×Int) :=
 bnd (z3j n a0 a1) fun x1 =>
 cnd (!decide (x1=0))
  (some ([],[],x1))
 <| bnd (z6u n a0 a1 4096) fun x2 =>
 cnd (!(x2.2.2))
  (some ([],[],17))
 <| some (x2.1,x2.2.1,0)
def z17 (n:Nat)(w1_0:Bool):Option (Bool) :=
 some w1_0
attribute [irreducible] z17
def z9q (n:Nat)(a0:z05)(a1:(List z01)):Option (Bool) :=
 bnd (z8w n a0 a1) fun x1 =>
 cnd (!(x1))
  (bnd (z7p n) fun x2 =>
  some x2)
 <| bnd (zfy n a0 a1) fun x3 =>
 bnd (z7c n a0 a1) fun x4 =>
 bnd (zcy n a0 a1) fun x5 =>
 jon (z17 n) <|
 reg <| bnd (z9d n x3.1 x4.1) fun x11 =>
 cnd (x11)
  (bnd (z51 n x3.2.1 x4.2.1) fun x12 =>
  cnd (x12)
   (cnd (decide (x3.2.2=x4.2.2))
     (bnd (z51 n x5.1 x4.2.1) fun x13 =>
     cnd (x13)
      (cnd (decide (x5.2=x3.2.2))
        (bnd (z7p n) fun x14 =>
        z17 n x14)
      <| z17 n false)
     <| z17 n false)
   <| z17 n false)
  <| z17 n false)
 <| z17 n false
end Go.Proofs.YtjpknpjjcddnnaaGreat
