/- What some functions compute, over plain values. Printed by a program of mine (gen_fun.lean). -/
import Derived.Test.YtjpknpjjcddnnaaGreatK20
import Derived.Test.YtjpknpjjcddnnaaGreatK17
set_option linter.unusedVariables false
set_option linter.unusedSimpArgs false
set_option maxRecDepth 100000
set_option maxHeartbeats 8000000
namespace Go.Proofs.YtjpknpjjcddnnaaGreat
open Go.RowKit
def zao (n:Nat)(a0:z00)(a1:z00):Option (Bool) :=
 bnd (zh1 n a0 a1) fun x1 =>
 some (decide (x1=0))
def z4x (n:Nat)(x46:Nat)(k2_1_0:Int->(List z00)->Option ((List z00))):Nat->Int×Int×(List z00)->Option ((List z00))
 |0,_=>none
 |mv2_1+1,v2_1 =>
  gle x46 (v2_1.2.2.map z0b).length <|
  cnd (decide (v2_1.2.1<((((v2_1.2.2.map z0b).length-x46:Nat)):Int)))
   (nat v2_1.2.1 ((v2_1.2.2.map z0b).length-x46) fun x92 =>
   elt v2_1.2.2 (x46+x92) fun x93 =>
   nat (IntKind.wrap .i64 (v2_1.2.1-1)) ((v2_1.2.2.map z0b).length-x46) fun x94 =>
   elt v2_1.2.2 (x46+x94) fun x95 =>
   bnd (zao n x93 x95) fun x96 =>
   cnd (!(x96))
    (nat v2_1.2.1 ((v2_1.2.2.map z0b).length-x46) fun x97 =>
    elt v2_1.2.2 (x46+x97) fun x98 =>
    nat v2_1.1 (v2_1.2.2.map z0b).length fun x99 =>
    stx v2_1.2.2 x99 (fun x100=>x98) fun x101 =>
    (z4x n x46 k2_1_0 mv2_1) ((IntKind.wrap .i64 (v2_1.1+1)),(IntKind.wrap .i64 (v2_1.2.1+1)),x101))
   <| (z4x n x46 k2_1_0 mv2_1) (v2_1.1,(IntKind.wrap .i64 (v2_1.2.1+1)),v2_1.2.2))
  <| k2_1_0 v2_1.1 v2_1.2.2
def z75 (n:Nat)(m0:(List z00))(k1_0_0:Option ((List z00))):Nat->Int->Option ((List z00))
 |0,_=>none
 |mv1_0+1,v1_0 =>
  cnd (decide (v1_0<((m0.map z0b).length:Int)))
   (nat v1_0 (m0.map z0b).length fun x41 =>
   elt m0 x41 fun x42 =>
   nat (IntKind.wrap .i64 (v1_0-1)) (m0.map z0b).length fun x43 =>
   elt m0 x43 fun x44 =>
   bnd (zao n x42 x44) fun x45 =>
   cnd (x45)
    (nle v1_0 (m0.map z0b).length fun x46 =>
    z4x n x46
     (fun k2_1_0y0 k2_1_0y1=>nle k2_1_0y0 (k2_1_0y1.map z0b).length fun x89 =>
    clr k2_1_0y1 x89 (⟨0,[],[]⟩:z00) fun x90 =>
    sls x90 0 k2_1_0y0 fun x91 =>
    some x91) n (v1_0,1,m0))
   <| (z75 n m0 k1_0_0 mv1_0) (IntKind.wrap .i64 (v1_0+1)))
  <| k1_0_0
def zab (n:Nat)(m0:(List z00)):Option ((List z00)) :=
 cnd (decide (((m0.map z0b).length:Int)<2))
  (some m0)
 <| z75 n m0
  (some m0) n 1
def zg8 (n:Nat)(m0:(List z00)):Option ((List z00)) :=
 bndC (zyo cfOk za0 n m0) fun x1 =>
 frb 3 <| reg <| bndM 10 (zab n x1) fun x2 =>
 some x2
def zrr (n:Nat)(a0:(List z00)):Option ((List z00)×Int) :=
 bndR (zd7 n a0) fun x1 =>
 bndM 7 (zg8 n x1) fun x2 =>
 cnd (decide (4096<((x2.map z0b).length:Int)))
  (some ([],5))
 <| some (x2,0)
def z2j (n:Nat)(a0:Int)(a1:Int):Option (z01) :=
 some (⟨0,a0,a1,a0,[]⟩)
def zds (n:Nat):Option (z05) :=
 bnd (z1d n true) fun x1 =>
 mak 2 24 (⟨[]⟩:z9b) fun x2 =>
 some (⟨3,1,x2,[⟨0,1,0,0,⟨0,[],0,0,0,x1⟩,[],[],[],[],[]⟩,⟨1,(-1),1,0,⟨0,[],0,0,0,x1⟩,[],[],[],[],[]⟩]⟩)
structure z0i where
 fa:z05
 fheld:(List (z13×z01))
deriving Inhabited
structure z56 where
 fsource:Int
 fseq:Int
deriving DecidableEq,Inhabited
def zal (x:z56):AV:=.agg [aI (x.fsource),aI (x.fseq)]
def zev (n:Nat)(a0:z01):Option (Bool) :=
 cnd (decide (0<=a0.fTime))
  (cnd (decide (a0.fTime<=1099511627776))
    (cnd (decide (0<=a0.fSource))
      (cnd (decide (a0.fSource<8))
        (cnd (decide (0<=a0.fSeq))
          (some (decide (a0.fSeq<=1099511627776)))
        <| some false)
      <| some false)
    <| some false)
  <| some false)
 <| some false
def zls (n:Nat)(a0:z01):Option (z13) :=
 some (⟨a0.fTime,a0.fSource,a0.fSeq⟩)
def zf1 (n:Nat)(a0:z01)(a1:z01):Option (Int) :=
 bnd (zls n a0) fun x1 =>
 bnd (zls n a1) fun x2 =>
 cnd ((decide (x1.fTime=x2.fTime) && (decide (x1.fSource=x2.fSource) && (decide (x1.fSeq=x2.fSeq) && true))))
  (some 0)
 <| bnd (z2o n a0.fTime a1.fTime) fun x3 =>
 bnd (z2o n a0.fSource a1.fSource) fun x4 =>
 bnd (z2o n a0.fSeq a1.fSeq) fun x5 =>
 bnd (zfw n ([x3,x4,x5])) fun x6 =>
 some x6
def zg1 (n:Nat)(a0:z01):Option (z56) :=
 some (⟨a0.fSource,a0.fSeq⟩)
def z9d (n:Nat)(a0:(List z01))(k1_0_0:Option (Int)):Nat->Int×(List (z56×Bool))->Option (Int)
 |0,_=>none
 |mv1_0+1,v1_0 =>
  cnd (decide (v1_0.1<((a0.map z04).length:Int)))
   (idx a0 v1_0.1 fun x41 =>
   bnd (zev n x41) fun x42 =>
   cnd (!(x42))
    (some 2)
   <| cnd (decide (0<v1_0.1))
    (idx a0 (IntKind.wrap .i64 (v1_0.1-1)) fun x43 =>
    bnd (zf1 n x43 x41) fun x44 =>
    cnd (decide (0<=x44))
     (some 14)
    <| bnd (zg1 n x41) fun x45 =>
    mgt v1_0.2 x45 (false:Bool) fun x46 x47 =>
    cnd (x46)
     (some 7)
    <| bnd (zg1 n x41) fun x48 =>
    mst v1_0.2 x48 true fun x49 =>
    (z9d n a0 k1_0_0 mv1_0) ((IntKind.wrap .i64 (v1_0.1+1)),x49))
   <| bnd (zg1 n x41) fun x50 =>
   mgt v1_0.2 x50 (false:Bool) fun x51 x52 =>
   cnd (x51)
    (some 7)
   <| bnd (zg1 n x41) fun x53 =>
   mst v1_0.2 x53 true fun x54 =>
   (z9d n a0 k1_0_0 mv1_0) ((IntKind.wrap .i64 (v1_0.1+1)),x54))
  <| k1_0_0
def zfs (n:Nat)(a0:(List z01)):Option (Int) :=
 cnd (decide (4096<((a0.map z04).length:Int)))
  (some 5)
 <| z9d n a0
  (some 0) n (0,[])
def zdx (n:Nat)(a1:(List z01))(a0:z05)(k1_0_0:(List (z13×z01))->Option ((Option z0i)×Int)):Nat->Int×(List (z13×z01))->Option ((Option z0i)×Int)
 |0,_=>none
 |mv1_0+1,v1_0 =>
  cnd (decide (v1_0.1<((a1.map z04).length:Int)))
   (idx a1 v1_0.1 fun x44 =>
   bnd (ziy n x44) fun x45 =>
   mst v1_0.2 (⟨x45.fTime,x45.fSource,x45.fSeq⟩:z13) x44 fun x46 =>
   (zdx n a1 a0 k1_0_0 mv1_0) ((IntKind.wrap .i64 (v1_0.1+1)),x46))
  <| k1_0_0 v1_0.2
def zb9 (n:Nat)(a0:z05)(a1:(List z01)):Option ((Option z0i)×Int) :=
 bnd (zd8 n a0) fun x1 =>
 cnd (!decide (x1=0))
  (some (none,x1))
 <| bnd (zfs n a1) fun x2 =>
 cnd (!decide (x2=0))
  (some (none,x2))
 <| zdx n a1 a0
  (fun k1_0_0y=>some ((some ⟨a0,k1_0_0y⟩),0)) n (0,[])
def zlp (n:Nat):Option (z00) :=
 some (⟨0,[],[]⟩)
def zc6 (n:Nat)(a0:z0i)(a1:z00)(a2:z01):Option (z0i×z00×z01) :=
 some (a0,a1,a2)
def z6h (n:Nat)(a0:z00)(m0:(List z00))(m1:(List z02)):Option ((List z00)×(List z02)) :=
 cnd (decide (a0.fState<0))
  (app m1 [⟨a0.fBindings⟩] 24 fun x3 =>
  some (m0,x3))
 <| app m0 [a0] 56 fun x4 =>
 some (x4,m1)
def z8v (n:Nat)(a1:(List z0p))(a0:z0i)(x1:Nat)(k1_0_0:(List (List z01))->Option (z0h)):Nat->Int×(List (List z01))->Option (z0h)
 |0,_=>none
 |mv1_0+1,v1_0 =>
  cnd (decide (v1_0.1<((a1.map z06).length:Int)))
   (idx a1 v1_0.1 fun x43 =>
   ncx x43.fVar x1 <|
   ntk v1_0.2 (Int.toNat x43.fVar) fun x44 =>
   mgv a0.fheld (⟨x43.fRef.fTime,x43.fRef.fSource,x43.fRef.fSeq⟩:z13) (⟨0,0,0,0,[]⟩:z01) fun x45 x46 =>
   app x44 [x45] 56 fun x47 =>
   ncx x43.fVar x1 <|
   npt v1_0.2 (Int.toNat x43.fVar) x47 fun x48 =>
   (z8v n a1 a0 x1 k1_0_0 mv1_0) ((IntKind.wrap .i64 (v1_0.1+1)),x48))
  <| k1_0_0 v1_0.2
def zd1 (n:Nat)(a0:z0i)(a1:(List z0p)):Option (z0h) :=
 mkn a0.fa.fVars 24 fun x1 =>
 nst 13 <| reg <| z8v n a1 a0 x1
  (fun k1_0_0y=>frr 13 <| reg <| some ⟨k1_0_0y⟩) n (0,(List.replicate (x1) ([]:List z01)))
def z2m (n:Nat)(a1:Int)(a0f2:z01)(a0f1:Int)(a0f0:z0h)(w1_0:Bool):Option ((List z01)) :=
 cnd (w1_0)
  (some [])
 <| idx a0f0.fVars a1 fun x2 =>
 some x2
attribute [irreducible] z2m
def z6i (n:Nat)(a0f0:z0h)(a0f1:Int)(a0f2:z01)(a1:Int):Option ((List z01)) :=
 jon (z2m n a1 a0f2 a0f1 a0f0) <|
 reg <| cnd (decide (a1<0))
  (z2m n a1 a0f2 a0f1 a0f0 true)
 <| z2m n a1 a0f2 a0f1 a0f0 (decide ((((List.map (fun q=>AV.sl 5 (List.map z04 q)) (a0f0.fVars)).length:Nat):Int)<=a1))
def zez (n:Nat)(a0:z01)(a1:Int):Option (z03×Int) :=
 cnd (decide (((a0.fValues.map z0a).length:Int)<=a1))
  (some (⟨0,0,ByteArray.empty⟩,6))
 <| idx a0.fValues a1 fun x1 =>
 some (x1,0)
def z4n (n:Nat)(a1:z0k)(x1:(List z01))(k1_0_0:(List z03)->Option (z03×Int)):Nat->Int×(List z03)->Option (z03×Int)
 |0,_=>none
 |mv1_0+1,v1_0 =>
  cnd (decide (v1_0.1<((x1.map z04).length:Int)))
   (idx x1 v1_0.1 fun x44 =>
   bnd (zez n x44 a1.fField) fun x45 =>
   cnd (!decide (x45.2=0))
    (some (⟨0,0,ByteArray.empty⟩,x45.2))
   <| app v1_0.2 [x45.1] 32 fun x46 =>
   (z4n n a1 x1 k1_0_0 mv1_0) ((IntKind.wrap .i64 (v1_0.1+1)),x46))
  <| k1_0_0 v1_0.2
def zai (n:Nat)(a0f0:z0h)(a0f1:Int)(a0f2:z01)(a1:z0k):Option (z03×Int) :=
 bnd (z6i n (⟨a0f0.fVars⟩:z0h) a0f1 a0f2 a1.fVar) fun x1 =>
 z4n n a1 x1
  (fun k1_0_0y=>bnd (ze0 n a1.fKind k1_0_0y a1.fValue) fun x43 =>
 some (x43.1,x43.2)) n (0,[])
def z3i (n:Nat)(x9:z03×Int)(w2_1:Int):Option (z03×Int) :=
 cnd (!decide (w2_1=0))
  (some (⟨0,0,ByteArray.empty⟩,w2_1))
 <| some (x9.1,0)
attribute [irreducible] z3i
def z3j (n:Nat)(a1:z0k)(w1_0:Int×Int×Int×Int×(List z03)):Option (z03×Int) :=
 cnd (decide (a1.fOp=2))
  (some (⟨0,w1_0.2.2.2.1,ByteArray.empty⟩,0))
 <| bnd (zez n (⟨w1_0.1,w1_0.2.1,w1_0.2.2.1,w1_0.2.2.2.1,w1_0.2.2.2.2⟩:z01) a1.fField) fun x9 =>
 jon (z3i n x9) <|
 reg <| cnd (decide (x9.2=0))
  (bnd (zah n x9.1) fun x12 =>
  z3i n x9 x12)
 <| z3i n x9 x9.2
attribute [irreducible] z3j
def z9a (n:Nat)(a0f0:z0h)(a0f1:Int)(a0f2:z01)(a1:z0k):Option (z03×Int) :=
 bnd (z6i n (⟨a0f0.fVars⟩:z0h) a0f1 a0f2 a1.fVar) fun x1 =>
 cnd (decide (a1.fOp=0))
  (some (a1.fValue,0))
 <| cnd (decide (a1.fOp=3))
  (some (⟨0,((x1.map z04).length:Int),ByteArray.empty⟩,0))
 <| cnd (decide (a1.fOp=4))
  (bnd (zai n (⟨a0f0.fVars⟩:z0h) a0f1 a0f2 a1) fun x2 =>
  some (x2.1,x2.2))
 <| jon (z3j n a1) <|
 reg <| cnd (!decide (a1.fVar=a0f1))
  (cnd (decide (((x1.map z04).length:Int)=0))
    (some (⟨0,0,ByteArray.empty⟩,10))
  <| idx x1 (IntKind.wrap .i64 (((x1.map z04).length:Int)-1)) fun x13 =>
  z3j n a1 (x13.fSource,x13.fSeq,x13.fType,x13.fTime,x13.fValues))
 <| z3j n a1 (a0f2.fSource,a0f2.fSeq,a0f2.fType,a0f2.fTime,a0f2.fValues)
def z7d (n:Nat)(a1:(List Int))(a0:Int)(v1_0:Int)(cv1_0:Int->Option (Int))(x41:Int)(w6_2:Bool):Option (Int) :=
 cnd (w6_2)
  (cnd (!(decide (x41=1)))
    (some 9)
  <| cv1_0 (IntKind.wrap .i64 (v1_0+1)))
 <| reg <| cnd (decide (a0=9))
  (idx a1 0 fun x44 =>
  cnd (!(decide (x41=x44)))
   (some 9)
  <| cv1_0 (IntKind.wrap .i64 (v1_0+1)))
 <| cv1_0 (IntKind.wrap .i64 (v1_0+1))
attribute [irreducible] z7d
def z62 (n:Nat)(a1:(List Int))(a0:Int)(v1_0:Int)(cv1_0:Int->Option (Int))(x41:Int)(w5_1:Bool):Option (Int) :=
 cnd (w5_1)
  (cnd (!(decide (x41=0)))
    (some 9)
  <| cv1_0 (IntKind.wrap .i64 (v1_0+1)))
 <| jon (z7d n a1 a0 v1_0 cv1_0 x41) <|
 reg <| cnd (decide (a0=10))
  (z7d n a1 a0 v1_0 cv1_0 x41 (decide (a0=10)))
 <| reg <| cnd (decide (a0=11))
  (z7d n a1 a0 v1_0 cv1_0 x41 (decide (a0=11)))
 <| z7d n a1 a0 v1_0 cv1_0 x41 (decide (a0=12))
attribute [irreducible] z62
def z4b (n:Nat)(a1:(List Int))(a0:Int)(k1_0_0:Option (Int)):Nat->Int->Option (Int)
 |0,_=>none
 |mv1_0+1,v1_0 =>
  cnd (decide (v1_0<((a1.map aI).length:Int)))
   (idx a1 v1_0 fun x41 =>
   jon (z62 n a1 a0 v1_0 (z4b n a1 a0 k1_0_0 mv1_0) x41) <|
   reg <| cnd (decide (a0=5))
    (z62 n a1 a0 v1_0 (z4b n a1 a0 k1_0_0 mv1_0) x41 (decide (a0=5)))
   <| reg <| cnd (decide (a0=6))
    (z62 n a1 a0 v1_0 (z4b n a1 a0 k1_0_0 mv1_0) x41 (decide (a0=6)))
   <| reg <| cnd (decide (a0=7))
    (z62 n a1 a0 v1_0 (z4b n a1 a0 k1_0_0 mv1_0) x41 (decide (a0=7)))
   <| z62 n a1 a0 v1_0 (z4b n a1 a0 k1_0_0 mv1_0) x41 (decide (a0=8)))
  <| k1_0_0
def zh3 (n:Nat)(a0:Int)(a1:(List Int)):Option (Int) :=
 z4b n a1 a0
  (some 0) n 0
def zne (n:Nat)(a0:Bool):Option (z03) :=
 cnd (a0)
  (some (⟨1,1,ByteArray.empty⟩))
 <| some (⟨1,0,ByteArray.empty⟩)
def z8q (n:Nat)(a0:Bool):Option (z03) :=
 bnd (zne n a0) fun x1 =>
 some x1
def zbh (n:Nat)(a0:Int):Option (z03) :=
 some (⟨0,a0,ByteArray.empty⟩)
def zbg (n:Nat)(a0:Int)(a1:Int):Option (z03) :=
 bnd (zbh n (IntKind.wrap .i64 (a0+a1))) fun x1 =>
 some x1
def zbf (n:Nat)(a0:Int)(a1:Int):Option (z03) :=
 bnd (zbh n (IntKind.wrap .i64 (a0-a1))) fun x1 =>
 some x1
def zbe (n:Nat)(a0:Int)(a1:Int):Option (z03) :=
 bnd (z8q n (decide (a0<a1))) fun x1 =>
 some x1
def zbd (n:Nat)(a0:Int)(a1:Int):Option (z03) :=
 bnd (z8q n (decide (a0<=a1))) fun x1 =>
 some x1
def z5y (n:Nat)(w1_0:Int×Int×ByteArray):Option (z03) :=
 some (⟨w1_0.1,w1_0.2.1,w1_0.2.2⟩)
attribute [irreducible] z5y
def zbc (n:Nat)(a0:Int)(a1:Int):Option (z03) :=
 jon (z5y n) <|
 reg <| cnd (decide (a0=1))
  (bnd (z8q n (decide (a1=1))) fun x6 =>
  z5y n (x6.fKind,x6.fNum,x6.fText))
 <| bnd (z8q n false) fun x7 =>
 z5y n (x7.fKind,x7.fNum,x7.fText)
def z5x (n:Nat)(w1_0:Int×Int×ByteArray):Option (z03) :=
 some (⟨w1_0.1,w1_0.2.1,w1_0.2.2⟩)
attribute [irreducible] z5x
def zbb (n:Nat)(a0:Int)(a1:Int):Option (z03) :=
 jon (z5x n) <|
 reg <| cnd (decide (a0=1))
  (bnd (z8q n true) fun x6 =>
  z5x n (x6.fKind,x6.fNum,x6.fText))
 <| bnd (z8q n (decide (a1=1))) fun x7 =>
 z5x n (x7.fKind,x7.fNum,x7.fText)
def z7z (n:Nat)(a0:Int)(a1:Int):Option (z03) :=
 bnd (z8q n (!decide (a0=1))) fun x1 =>
 some x1
def z5i (n:Nat)(rF_expr_evaluator__eval:z0h->Int->z01->z0k->Option (z03×Int))(a1:z0k)(a0f2:z01)(a0f1:Int)(a0f0:z0h)(k1_0_0:(List z03)->(List Int)->Option (z03×Int)):Nat->Int×(List z03)×(List Int)->Option (z03×Int)
 |0,_=>none
 |mv1_0+1,v1_0 =>
  cnd (decide (v1_0.1<((a1.fArgs.map idA).length:Int)))
   (idxD z3a a1.fArgs v1_0.1 fun x85 =>
   bnd (rF_expr_evaluator__eval (⟨a0f0.fVars⟩:z0h) a0f1 a0f2 x85) fun x86 =>
   cnd (!decide (x86.2=0))
    (some (⟨0,0,ByteArray.empty⟩,x86.2))
   <| app v1_0.2.1 [x86.1] 32 fun x87 =>
   app v1_0.2.2 [x86.1.fKind] 8 fun x88 =>
   (z5i n rF_expr_evaluator__eval a1 a0f2 a0f1 a0f0 k1_0_0 mv1_0) ((IntKind.wrap .i64 (v1_0.1+1)),x87,x88))
  <| k1_0_0 v1_0.2.1 v1_0.2.2
def z3u:Nat->z0h->Int->z01->z0k->Option (z03×Int)
 |0,_,_,_,_=>none
 |n+1,a0f0,a0f1,a0f2,a1 =>
 cnd (decide (((a1.fArgs.map idA).length:Int)=0))
  (bnd (z9a n (⟨a0f0.fVars⟩:z0h) a0f1 a0f2 a1) fun x1 =>
  some (x1.1,x1.2))
 <| z5i n (z3u n) a1 a0f2 a0f1 a0f0
  (fun k1_0_0y0 k1_0_0y1=>bnd (zh3 n a1.fOp k1_0_0y1) fun x44 =>
 cnd (!decide (x44=0))
  (some (⟨0,0,ByteArray.empty⟩,x44))
 <| cnd (decide (a1.fOp=9))
  (nat 0 (k1_0_0y0.map z0a).length fun x45 =>
  elt k1_0_0y0 x45 fun x46 =>
  nat 1 (k1_0_0y0.map z0a).length fun x47 =>
  elt k1_0_0y0 x47 fun x48 =>
  bnd (z8q n (decide (x46.fKind=x48.fKind) && (decide (x46.fNum=x48.fNum) && ((x46.fText.toList == x48.fText.toList) && true)))) fun x49 =>
  some (x49,0))
 <| natc a1.fOp 5
  (nat 0 (k1_0_0y0.map z0a).length fun x50 =>
 ltx x50 (k1_0_0y0.map z0a).length <| elt k1_0_0y0 x50 fun x51 =>
 nat (IntKind.wrap .i64 (((k1_0_0y0.map z0a).length:Int)-1)) (k1_0_0y0.map z0a).length fun x52 =>
 ltx x52 (k1_0_0y0.map z0a).length <| elt k1_0_0y0 x52 fun x53 =>
 bnd (zbg n x51.fNum x53.fNum) fun x54 =>
 some (x54,0))
 <| natc a1.fOp 6
  (nat 0 (k1_0_0y0.map z0a).length fun x55 =>
 ltx x55 (k1_0_0y0.map z0a).length <| elt k1_0_0y0 x55 fun x56 =>
 nat (IntKind.wrap .i64 (((k1_0_0y0.map z0a).length:Int)-1)) (k1_0_0y0.map z0a).length fun x57 =>
 ltx x57 (k1_0_0y0.map z0a).length <| elt k1_0_0y0 x57 fun x58 =>
 bnd (zbf n x56.fNum x58.fNum) fun x59 =>
 some (x59,0))
 <| natc a1.fOp 7
  (nat 0 (k1_0_0y0.map z0a).length fun x60 =>
 ltx x60 (k1_0_0y0.map z0a).length <| elt k1_0_0y0 x60 fun x61 =>
 nat (IntKind.wrap .i64 (((k1_0_0y0.map z0a).length:Int)-1)) (k1_0_0y0.map z0a).length fun x62 =>
 ltx x62 (k1_0_0y0.map z0a).length <| elt k1_0_0y0 x62 fun x63 =>
 bnd (zbe n x61.fNum x63.fNum) fun x64 =>
 some (x64,0))
 <| natc a1.fOp 8
  (nat 0 (k1_0_0y0.map z0a).length fun x65 =>
 ltx x65 (k1_0_0y0.map z0a).length <| elt k1_0_0y0 x65 fun x66 =>
 nat (IntKind.wrap .i64 (((k1_0_0y0.map z0a).length:Int)-1)) (k1_0_0y0.map z0a).length fun x67 =>
 ltx x67 (k1_0_0y0.map z0a).length <| elt k1_0_0y0 x67 fun x68 =>
 bnd (zbd n x66.fNum x68.fNum) fun x69 =>
 some (x69,0))
 <| natc a1.fOp 10
  (nat 0 (k1_0_0y0.map z0a).length fun x70 =>
 ltx x70 (k1_0_0y0.map z0a).length <| elt k1_0_0y0 x70 fun x71 =>
 nat (IntKind.wrap .i64 (((k1_0_0y0.map z0a).length:Int)-1)) (k1_0_0y0.map z0a).length fun x72 =>
 ltx x72 (k1_0_0y0.map z0a).length <| elt k1_0_0y0 x72 fun x73 =>
 bnd (zbc n x71.fNum x73.fNum) fun x74 =>
 some (x74,0))
 <| natc a1.fOp 11
  (nat 0 (k1_0_0y0.map z0a).length fun x75 =>
 ltx x75 (k1_0_0y0.map z0a).length <| elt k1_0_0y0 x75 fun x76 =>
 nat (IntKind.wrap .i64 (((k1_0_0y0.map z0a).length:Int)-1)) (k1_0_0y0.map z0a).length fun x77 =>
 ltx x77 (k1_0_0y0.map z0a).length <| elt k1_0_0y0 x77 fun x78 =>
 bnd (zbb n x76.fNum x78.fNum) fun x79 =>
 some (x79,0))
 <| natc a1.fOp 12
  (nat 0 (k1_0_0y0.map z0a).length fun x80 =>
 ltx x80 (k1_0_0y0.map z0a).length <| elt k1_0_0y0 x80 fun x81 =>
 nat (IntKind.wrap .i64 (((k1_0_0y0.map z0a).length:Int)-1)) (k1_0_0y0.map z0a).length fun x82 =>
 ltx x82 (k1_0_0y0.map z0a).length <| elt k1_0_0y0 x82 fun x83 =>
 bnd (z7z n x81.fNum x83.fNum) fun x84 =>
 some (x84,0))
 <| none) n (0,[],[])
def zu5 (n:Nat)(a0:z0k)(a1:z0h)(a2:Int)(a3:z01):Option (z03×Int) :=
 bnd (zc8 n a0) fun x1 =>
 cnd (!decide (x1=0))
  (some (⟨0,0,ByteArray.empty⟩,x1))
 <| bnd (z3u n (⟨a1.fVars⟩:z0h) a2 a3 a0) fun x2 =>
 some (x2.1,x2.2)
def zbj (n:Nat)(w1_0:Bool):Option (Bool) :=
 some w1_0
attribute [irreducible] zbj
def zdd (n:Nat)(a0:z0k)(a1:z0h)(a2:Int)(a3:z01):Option (Bool) :=
 bnd (zu5 n a0 (⟨a1.fVars⟩:z0h) a2 a3) fun x1 =>
 jon (zbj n) <|
 reg <| cnd (decide (x1.2=0))
  (bnd (z8q n true) fun x4 =>
  zbj n (decide (x1.1.fKind=x4.fKind) && (decide (x1.1.fNum=x4.fNum) && ((x1.1.fText.toList == x4.fText.toList) && true))))
 <| zbj n false
def z9e (n:Nat)(w1_0:Bool):Option (Bool) :=
 some w1_0
attribute [irreducible] z9e
def zdw (n:Nat)(a0:z0q)(a1:z0h)(a2:z01):Option (Bool) :=
 jon (z9e n) <|
 reg <| cnd (decide (a0.fType=a2.fType))
  (bnd (zdd n a0.fCond (⟨a1.fVars⟩:z0h) a0.fVar a2) fun x3 =>
  z9e n x3)
 <| z9e n false
def z3h (n:Nat)(a0:z0q)(a1:z0h)(a2:z01):Option (Bool) :=
 bnd (zdw n a0 (⟨a1.fVars⟩:z0h) a2) fun x1 =>
 some x1
def z4m (n:Nat)(a1c1:z01)(a1c0:z0h)(a0:(List z0q))(k1_0_0:Option (Int)):Nat->Int->Option (Int)
 |0,_=>none
 |mv1_0+1,v1_0 =>
  cnd (decide (v1_0<((a0.map z0t).length:Int)))
   (idx a0 v1_0 fun x41 =>
   bnd (z3h n x41 (⟨a1c0.fVars⟩:z0h) a1c1) fun x42 =>
   cnd (x42)
    (some v1_0)
   <| (z4m n a1c1 a1c0 a0 k1_0_0 mv1_0) (IntKind.wrap .i64 (v1_0+1)))
  <| k1_0_0
def z8p (n:Nat)(a0:(List z0q))(a1c0:z0h)(a1c1:z01):Option (Int) :=
 z4m n a1c1 a1c0 a0
  (some (-1)) n 0
def z79 (n:Nat)(a0:(List z0q))(a1c0:z0h)(a1c1:z01):Option (Bool) :=
 bnd (z8p n a0 (⟨a1c0.fVars⟩:z0h) a1c1) fun x1 =>
 some (decide (0<=x1))
def z2w (n:Nat)(w1_0:Bool):Option (Bool) :=
 some w1_0
attribute [irreducible] z2w
def z36 (n:Nat)(a0:z0q)(a1:z0j)(a2:z0h)(a3:z01):Option (Bool) :=
 jon (z2w n) <|
 reg <| bnd (z73 n a1.fInside a0.fScope) fun x4 =>
 cnd (!(x4))
  (bnd (zdw n a0 (⟨a2.fVars⟩:z0h) a3) fun x5 =>
  z2w n x5)
 <| z2w n false
def z4l (n:Nat)(a1c2:z01)(a1c1:z0h)(a1c0:z0j)(a0:(List z0q))(k1_0_0:Option (Int)):Nat->Int->Option (Int)
 |0,_=>none
 |mv1_0+1,v1_0 =>
  cnd (decide (v1_0<((a0.map z0t).length:Int)))
   (idx a0 v1_0 fun x41 =>
   bnd (z36 n x41 a1c0 (⟨a1c1.fVars⟩:z0h) a1c2) fun x42 =>
   cnd (x42)
    (some v1_0)
   <| (z4l n a1c2 a1c1 a1c0 a0 k1_0_0 mv1_0) (IntKind.wrap .i64 (v1_0+1)))
  <| k1_0_0
def z8o (n:Nat)(a0:(List z0q))(a1c0:z0j)(a1c1:z0h)(a1c2:z01):Option (Int) :=
 z4l n a1c2 a1c1 a1c0 a0
  (some (-1)) n 0
def z78 (n:Nat)(a0:(List z0q))(a1c0:z0j)(a1c1:z0h)(a1c2:z01):Option (Bool) :=
 bnd (z8o n a0 a1c0 (⟨a1c1.fVars⟩:z0h) a1c2) fun x1 =>
 some (decide (0<=x1))
def zcl (n:Nat)(a0:z0c)(a1:Int):Option (Int) :=
 bnd (z2o n a0.fScope a1) fun x1 =>
 some x1
def z2c (n:Nat)(a1:Int)(a0:(List z0c))(k1_0_0:Int->Option (Int×Bool)):Nat->Int×Int->Option (Int×Bool)
 |0,_=>none
 |mv1_0+1,v1_0 =>
  cnd (decide (v1_0.1<v1_0.2))
   (shx (1:Int) <| idx a0 (IntKind.wrap .i64 (Int.fdiv (IntKind.wrap .u64 (IntKind.wrap .i64 (v1_0.1+v1_0.2))) (2 ^ min (Int.toNat (1:Int)) (IntKind.bits .u64)))) fun x44 =>
   bnd (zcl n x44 a1) fun x45 =>
   cnd (decide (x45<0))
    ((z2c n a1 a0 k1_0_0 mv1_0) ((IntKind.wrap .i64 ((IntKind.wrap .i64 (Int.fdiv (IntKind.wrap .u64 (IntKind.wrap .i64 (v1_0.1+v1_0.2))) (2 ^ min (Int.toNat (1:Int)) (IntKind.bits .u64))))+1)),v1_0.2))
   <| (z2c n a1 a0 k1_0_0 mv1_0) (v1_0.1,(IntKind.wrap .i64 (Int.fdiv (IntKind.wrap .u64 (IntKind.wrap .i64 (v1_0.1+v1_0.2))) (2 ^ min (Int.toNat (1:Int)) (IntKind.bits .u64))))))
  <| k1_0_0 v1_0.1
def z5g (n:Nat)(a0:(List z0c))(a1:Int):Option (Int×Bool) :=
 z2c n a1 a0
  (fun k1_0_0y=>cnd (decide (k1_0_0y<((a0.map z07).length:Int)))
  (idx a0 k1_0_0y fun x42 =>
  bnd (zcl n x42 a1) fun x43 =>
  some (k1_0_0y,decide (x43=0)))
 <| some (k1_0_0y,false)) n (0,((a0.map z07).length:Int))
def zb7 (n:Nat)(a2:Int)(a1:(List Int))(v1_0:Int×(List z0c))(cv1_0:(Int×(List z0c))->Option ((List z0c)))(x44:Int×Bool)(w3_1:(List z0c)):Option ((List z0c)) :=
 nat x44.1 (w3_1.map z07).length fun x47 =>
 ltx x47 (w3_1.map z07).length <| stx w3_1 x47 (fun x48=>⟨x48.fScope,a2⟩) fun x49 =>
 cv1_0 ((IntKind.wrap .i64 (v1_0.1+1)),x49)
attribute [irreducible] zb7
def z9r (n:Nat)(a2:Int)(a1:(List Int))(k1_0_0:(List z0c)->Option ((List z0c))):Nat->Int×(List z0c)->Option ((List z0c))
 |0,_=>none
 |mv1_0+1,v1_0 =>
  cnd (decide (v1_0.1<((a1.map aI).length:Int)))
   (idx a1 v1_0.1 fun x43 =>
   bnd (z5g n v1_0.2 x43) fun x44 =>
   jon (zb7 n a2 a1 v1_0 (z9r n a2 a1 k1_0_0 mv1_0) x44) <|
   reg <| cnd (!(x44.2))
    (bndC (zz2 n v1_0.2 x44.1 ([⟨x43,0⟩])) fun x50 =>
    zb7 n a2 a1 v1_0 (z9r n a2 a1 k1_0_0 mv1_0) x44 x50)
   <| zb7 n a2 a1 v1_0 (z9r n a2 a1 k1_0_0 mv1_0) x44 v1_0.2)
  <| k1_0_0 v1_0.2
def zj0 (n:Nat)(a0:(List z0c))(a1:(List Int))(a2:Int):Option ((List z0c)) :=
 bndR (zd7 n a0) fun x1 =>
 z9r n a2 a1
  (fun k1_0_0y=>some k1_0_0y) n (0,x1)
def zft (n:Nat)(a0:z0c)(a1:z0z):Option (Bool) :=
 some (decide (a0.fScope=a1.fScope))
def z4k (n:Nat)(a1c0:z0z)(a0:(List z0c))(k1_0_0:Option (Int)):Nat->Int->Option (Int)
 |0,_=>none
 |mv1_0+1,v1_0 =>
  cnd (decide (v1_0<((a0.map z07).length:Int)))
   (idx a0 v1_0 fun x41 =>
   bnd (zft n x41 a1c0) fun x42 =>
   cnd (x42)
    (some v1_0)
   <| (z4k n a1c0 a0 k1_0_0 mv1_0) (IntKind.wrap .i64 (v1_0+1)))
  <| k1_0_0
def z8n (n:Nat)(a0:(List z0c))(a1c0:z0z):Option (Int) :=
 z4k n a1c0 a0
  (some (-1)) n 0
def zb8 (n:Nat)(a2:Int)(a1:(List z0z))(a0:(List z0c))(v1_0:Int)(cv1_0:Int->Option (Bool))(w3_1:Bool):Option (Bool) :=
 cnd (w3_1)
  (some false)
 <| cv1_0 (IntKind.wrap .i64 (v1_0+1))
attribute [irreducible] zb8
def z9s (n:Nat)(a2:Int)(a1:(List z0z))(a0:(List z0c))(k1_0_0:Option (Bool)):Nat->Int->Option (Bool)
 |0,_=>none
 |mv1_0+1,v1_0 =>
  cnd (decide (v1_0<((a1.map z0r).length:Int)))
   (idx a1 v1_0 fun x41 =>
   bnd (z8n n a0 x41) fun x42 =>
   jon (zb8 n a2 a1 a0 v1_0 (z9s n a2 a1 a0 k1_0_0 mv1_0)) <|
   reg <| cnd (decide (x42<0))
    (zb8 n a2 a1 a0 v1_0 (z9s n a2 a1 a0 k1_0_0 mv1_0) true)
   <| idx a0 x42 fun x45 =>
   zb8 n a2 a1 a0 v1_0 (z9s n a2 a1 a0 k1_0_0 mv1_0) (decide (x41.fSpan<(IntKind.wrap .i64 (a2-x45.fTime)))))
  <| k1_0_0
def zj1 (n:Nat)(a0:(List z0c))(a1:(List z0z))(a2:Int):Option (Bool) :=
 z9s n a2 a1 a0
  (some true) n 0
def z4y (n:Nat)(a0:z0c)(a1:z0j):Option (Bool) :=
 bnd (z73 n a1.fCloses a0.fScope) fun x1 =>
 some x1
def z4j (n:Nat)(a1c0:z0j)(a0:(List z0c))(k1_0_0:Option (Int)):Nat->Int->Option (Int)
 |0,_=>none
 |mv1_0+1,v1_0 =>
  cnd (decide (v1_0<((a0.map z07).length:Int)))
   (idx a0 v1_0 fun x41 =>
   bnd (z4y n x41 a1c0) fun x42 =>
   cnd (x42)
    (some v1_0)
   <| (z4j n a1c0 a0 k1_0_0 mv1_0) (IntKind.wrap .i64 (v1_0+1)))
  <| k1_0_0
def z8m (n:Nat)(a0:(List z0c))(a1c0:z0j):Option (Int) :=
 z4j n a1c0 a0
  (some (-1)) n 0
def z3m (n:Nat)(a0:z0c)(m0:z0j):Option (Bool×z0j) :=
 bnd (z73 n m0.fCloses a0.fScope) fun x1 =>
 some (x1,m0)
def z5v (n:Nat)(k1_0_0:Int->Int->Int->Int->Int->Int->(List AV)->Int->Int->Int->Int->Int->ByteArray->(List Int)->(List Int)->(List AV)->(List z0z)->(List Int)->(List z0c)->Option ((List z0c)×z0j)):Nat->Int×Int×Int×Int×Int×Int×Int×(List AV)×Int×Int×Int×Int×Int×ByteArray×(List Int)×(List Int)×(List AV)×(List z0z)×(List Int)×(List z0c)->Option ((List z0c)×z0j)
 |0,_=>none
 |mv1_0+1,v1_0 =>
  cnd (decide (v1_0.2.1<((v1_0.2.2.2.2.2.2.2.2.2.2.2.2.2.2.2.2.2.2.2.map z07).length:Int)))
   (nat v1_0.2.1 (v1_0.2.2.2.2.2.2.2.2.2.2.2.2.2.2.2.2.2.2.2.map z07).length fun x64 =>
   elt v1_0.2.2.2.2.2.2.2.2.2.2.2.2.2.2.2.2.2.2.2 x64 fun x65 =>
   bndM 28 (z3m n x65 (⟨v1_0.2.2.1,v1_0.2.2.2.1,v1_0.2.2.2.2.1,v1_0.2.2.2.2.2.1,⟨v1_0.2.2.2.2.2.2.1,v1_0.2.2.2.2.2.2.2.1,v1_0.2.2.2.2.2.2.2.2.1,v1_0.2.2.2.2.2.2.2.2.2.1,v1_0.2.2.2.2.2.2.2.2.2.2.1,⟨v1_0.2.2.2.2.2.2.2.2.2.2.2.1,v1_0.2.2.2.2.2.2.2.2.2.2.2.2.1,v1_0.2.2.2.2.2.2.2.2.2.2.2.2.2.1⟩⟩,v1_0.2.2.2.2.2.2.2.2.2.2.2.2.2.2.1,v1_0.2.2.2.2.2.2.2.2.2.2.2.2.2.2.2.1,v1_0.2.2.2.2.2.2.2.2.2.2.2.2.2.2.2.2.1,v1_0.2.2.2.2.2.2.2.2.2.2.2.2.2.2.2.2.2.1,v1_0.2.2.2.2.2.2.2.2.2.2.2.2.2.2.2.2.2.2.1⟩:z0j)) fun x66 =>
   cnd (!(x66.1))
    (nat v1_0.1 (v1_0.2.2.2.2.2.2.2.2.2.2.2.2.2.2.2.2.2.2.2.map z07).length fun x67 =>
    stx v1_0.2.2.2.2.2.2.2.2.2.2.2.2.2.2.2.2.2.2.2 x67 (fun x68=>x65) fun x69 =>
    (z5v n k1_0_0 mv1_0) ((IntKind.wrap .i64 (v1_0.1+1)),(IntKind.wrap .i64 (v1_0.2.1+1)),x66.2.fFrom,x66.2.fTo,x66.2.fVar,x66.2.fType,x66.2.fCond.fOp,x66.2.fCond.fArgs,x66.2.fCond.fVar,x66.2.fCond.fField,x66.2.fCond.fKind,x66.2.fCond.fValue.fKind,x66.2.fCond.fValue.fNum,x66.2.fCond.fValue.fText,x66.2.fOpens,x66.2.fCloses,x66.2.fChecks,x66.2.fLimits,x66.2.fInside,x69))
   <| (z5v n k1_0_0 mv1_0) (v1_0.1,(IntKind.wrap .i64 (v1_0.2.1+1)),x66.2.fFrom,x66.2.fTo,x66.2.fVar,x66.2.fType,x66.2.fCond.fOp,x66.2.fCond.fArgs,x66.2.fCond.fVar,x66.2.fCond.fField,x66.2.fCond.fKind,x66.2.fCond.fValue.fKind,x66.2.fCond.fValue.fNum,x66.2.fCond.fValue.fText,x66.2.fOpens,x66.2.fCloses,x66.2.fChecks,x66.2.fLimits,x66.2.fInside,v1_0.2.2.2.2.2.2.2.2.2.2.2.2.2.2.2.2.2.2.2))
  <| k1_0_0 v1_0.1 v1_0.2.2.1 v1_0.2.2.2.1 v1_0.2.2.2.2.1 v1_0.2.2.2.2.2.1 v1_0.2.2.2.2.2.2.1 v1_0.2.2.2.2.2.2.2.1 v1_0.2.2.2.2.2.2.2.2.1 v1_0.2.2.2.2.2.2.2.2.2.1 v1_0.2.2.2.2.2.2.2.2.2.2.1 v1_0.2.2.2.2.2.2.2.2.2.2.2.1 v1_0.2.2.2.2.2.2.2.2.2.2.2.2.1 v1_0.2.2.2.2.2.2.2.2.2.2.2.2.2.1 v1_0.2.2.2.2.2.2.2.2.2.2.2.2.2.2.1 v1_0.2.2.2.2.2.2.2.2.2.2.2.2.2.2.2.1 v1_0.2.2.2.2.2.2.2.2.2.2.2.2.2.2.2.2.1 v1_0.2.2.2.2.2.2.2.2.2.2.2.2.2.2.2.2.2.1 v1_0.2.2.2.2.2.2.2.2.2.2.2.2.2.2.2.2.2.2.1 v1_0.2.2.2.2.2.2.2.2.2.2.2.2.2.2.2.2.2.2.2
def zb6 (n:Nat)(m0:z0j)(m1:(List z0c)):Option ((List z0c)×z0j) :=
 bnd (z8m n m1 m0) fun x1 =>
 cnd (decide (x1=(-1)))
  (some (m1,m0))
 <| z5v n
  (fun k1_0_0y0 k1_0_0y1 k1_0_0y2 k1_0_0y3 k1_0_0y4 k1_0_0y5 k1_0_0y6 k1_0_0y7 k1_0_0y8 k1_0_0y9 k1_0_0y10 k1_0_0y11 k1_0_0y12 k1_0_0y13 k1_0_0y14 k1_0_0y15 k1_0_0y16 k1_0_0y17 k1_0_0y18=>nle k1_0_0y0 (k1_0_0y18.map z07).length fun x61 =>
 clr k1_0_0y18 x61 (⟨0,0⟩:z0c) fun x62 =>
 sls x62 0 k1_0_0y0 fun x63 =>
 some (x63,⟨k1_0_0y1,k1_0_0y2,k1_0_0y3,k1_0_0y4,⟨k1_0_0y5,k1_0_0y6,k1_0_0y7,k1_0_0y8,k1_0_0y9,⟨k1_0_0y10,k1_0_0y11,k1_0_0y12⟩⟩,k1_0_0y13,k1_0_0y14,k1_0_0y15,k1_0_0y16,k1_0_0y17⟩)) n (x1,(IntKind.wrap .i64 (x1+1)),m0.fFrom,m0.fTo,m0.fVar,m0.fType,m0.fCond.fOp,m0.fCond.fArgs,m0.fCond.fVar,m0.fCond.fField,m0.fCond.fKind,m0.fCond.fValue.fKind,m0.fCond.fValue.fNum,m0.fCond.fValue.fText,m0.fOpens,m0.fCloses,m0.fChecks,m0.fLimits,m0.fInside,m1)
def z6f (n:Nat)(a4:z01)(a2:z0j)(a1:z00)(x5:(List z0c))(x12:(List (List z01)))(k1_1_0:(List z0c)->Option (z00×Bool)):Nat->Int->Option (z00×Bool)
 |0,_=>none
 |mv1_1+1,v1_1 =>
  cnd (decide (v1_1<((a2.fChecks.map idA).length:Int)))
   (idxD z3a a2.fChecks v1_1 fun x58 =>
   bnd (zdd n x58 (⟨x12⟩:z0h) (-1) (⟨0,0,0,0,[]⟩:z01)) fun x59 =>
   cnd (!(x59))
    (some (⟨0,[],[]⟩,false))
   <| (z6f n a4 a2 a1 x5 x12 k1_1_0 mv1_1) (IntKind.wrap .i64 (v1_1+1)))
  <| k1_1_0 x5
def z1p (n:Nat)(a4:z01)(a3:z0h)(a2:z0j)(a1:z00)(w1_0:Bool):Option (z00×Bool) :=
 cnd (w1_0)
  (some (⟨0,[],[]⟩,false))
 <| bndR (zj0 n a1.fStarts a2.fOpens a4.fTime) fun x5 =>
 bnd (zj1 n x5 a2.fLimits a4.fTime) fun x6 =>
 cnd (!(x6))
  (some (⟨0,[],[]⟩,false))
 <| bndR (zd7 n a3.fVars) fun x7 =>
 idx a3.fVars a2.fVar fun x8 =>
 bndR (zd7 n x8) fun x9 =>
 app x9 [a4] 56 fun x10 =>
 nat a2.fVar (List.map (fun q=>AV.sl 5 (List.map z04 q)) (x7)).length fun x11 =>
 stx x7 x11 (fun _=>x10) fun x12 =>
 z6f n a4 a2 a1 x5 x12
  (fun k1_1_0y=>bndM 96 (zb6 n a2 k1_1_0y) fun x54 =>
 bndR (zd7 n a1.fBindings) fun x55 =>
 bnd (ziy n a4) fun x56 =>
 app x55 ([⟨x54.2.fVar,⟨x56.fTime,x56.fSource,x56.fSeq⟩⟩]) 32 fun x57 =>
 some (⟨x54.2.fTo,x57,x54.1⟩,true)) n 0
attribute [irreducible] z1p
def z8c (n:Nat)(a0:z0i)(a1:z00)(a2:z0j)(a3:z0h)(a4:z01):Option (z00×Bool) :=
 jon (z1p n a4 a3 a2 a1) <|
 reg <| cnd (!decide (a4.fType=a2.fType))
  (z1p n a4 a3 a2 a1 true)
 <| idx a0.fa.fStates a1.fState fun x60 =>
 bnd (z78 n x60.fGuards a2 (⟨a3.fVars⟩:z0h) a4) fun x61 =>
 cnd (x61)
  (z1p n a4 a3 a2 a1 true)
 <| bnd (zdd n a2.fCond (⟨a3.fVars⟩:z0h) a2.fVar a4) fun x62 =>
 z1p n a4 a3 a2 a1 !(x62)
def z1i (n:Nat)(m4:z01)(m3:z00)(m2:z0i)(x1:z0h)(k1_0_0:(List z00)->(List z02)->Option ((List z00)×(List z02)×z0i×z00×z01)):Nat->Int×(List z00)×(List z02)->Option ((List z00)×(List z02)×z0i×z00×z01)
 |0,_=>none
 |mv1_0+1,v1_0 =>
  cnd (decide (v1_0.1<((m2.fa.fEdges.map z0e).length:Int)))
   (idx m2.fa.fEdges v1_0.1 fun x47 =>
   cnd (!decide (x47.fFrom=m3.fState))
    ((z1i n m4 m3 m2 x1 k1_0_0 mv1_0) ((IntKind.wrap .i64 (v1_0.1+1)),v1_0.2.1,v1_0.2.2))
   <| bnd (z8c n m2 m3 x47 (⟨x1.fVars⟩:z0h) m4) fun x48 =>
   cnd (x48.2)
    (bndM 63 (z6h n x48.1 v1_0.2.1 v1_0.2.2) fun x49 =>
    (z1i n m4 m3 m2 x1 k1_0_0 mv1_0) ((IntKind.wrap .i64 (v1_0.1+1)),x49.1,x49.2))
   <| (z1i n m4 m3 m2 x1 k1_0_0 mv1_0) ((IntKind.wrap .i64 (v1_0.1+1)),v1_0.2.1,v1_0.2.2))
  <| k1_0_0 v1_0.2.1 v1_0.2.2
def z1h (n:Nat)(m4:z01)(m3:z00)(m2:z0i)(x1:z0h)(k2_1_0:(List z00)->(List z02)->Option ((List z00)×(List z02)×z0i×z00×z01)):Nat->Int×(List z00)×(List z02)->Option ((List z00)×(List z02)×z0i×z00×z01)
 |0,_=>none
 |mv2_1+1,v2_1 =>
  cnd (decide (v2_1.1<((m2.fa.fEdges.map z0e).length:Int)))
   (idx m2.fa.fEdges v2_1.1 fun x92 =>
   cnd (!decide (x92.fFrom=m3.fState))
    ((z1h n m4 m3 m2 x1 k2_1_0 mv2_1) ((IntKind.wrap .i64 (v2_1.1+1)),v2_1.2.1,v2_1.2.2))
   <| bnd (z8c n m2 m3 x92 (⟨x1.fVars⟩:z0h) m4) fun x93 =>
   cnd (x93.2)
    (bndM 63 (z6h n x93.1 v2_1.2.1 v2_1.2.2) fun x94 =>
    (z1h n m4 m3 m2 x1 k2_1_0 mv2_1) ((IntKind.wrap .i64 (v2_1.1+1)),x94.1,x94.2))
   <| (z1h n m4 m3 m2 x1 k2_1_0 mv2_1) ((IntKind.wrap .i64 (v2_1.1+1)),v2_1.2.1,v2_1.2.2))
  <| k2_1_0 v2_1.2.1 v2_1.2.2
def z61 (n:Nat)(m0:(List z00))(m1:(List z02))(m2:z0i)(m3:z00)(m4:z01):Option ((List z00)×(List z02)×z0i×z00×z01) :=
 bnd (zd1 n m2 m3.fBindings) fun x1 =>
 idx m2.fa.fStates m3.fState fun x2 =>
 bnd (z79 n x2.fGuards (⟨x1.fVars⟩:z0h) m4) fun x3 =>
 cnd (!(x3))
  (bndM 32 (z6h n m3 m0 m1) fun x4 =>
  z1i n m4 m3 m2 x1
   (fun k1_0_0y0 k1_0_0y1=>some (k1_0_0y0,k1_0_0y1,m2,m3,m4)) n (0,x4.1,x4.2))
 <| z1h n m4 m3 m2 x1
  (fun k2_1_0y0 k2_1_0y1=>some (k2_1_0y0,k2_1_0y1,m2,m3,m4)) n (0,m0,m1)
def zan (n:Nat)(a0:z02)(a1:z02):Option (Bool) :=
 bnd (zd5 n (⟨a0.fBindings⟩:z02) (⟨a1.fBindings⟩:z02)) fun x1 =>
 some (decide (x1=0))
def z2b (n:Nat)(x46:Nat)(k2_1_0:Int->(List z02)->Option ((List z02))):Nat->Int×Int×(List z02)->Option ((List z02))
 |0,_=>none
 |mv2_1+1,v2_1 =>
  gle x46 (v2_1.2.2.map z0f).length <|
  cnd (decide (v2_1.2.1<((((v2_1.2.2.map z0f).length-x46:Nat)):Int)))
   (nat v2_1.2.1 ((v2_1.2.2.map z0f).length-x46) fun x92 =>
   elt v2_1.2.2 (x46+x92) fun x93 =>
   nat (IntKind.wrap .i64 (v2_1.2.1-1)) ((v2_1.2.2.map z0f).length-x46) fun x94 =>
   elt v2_1.2.2 (x46+x94) fun x95 =>
   bnd (zan n (⟨x93.fBindings⟩:z02) (⟨x95.fBindings⟩:z02)) fun x96 =>
   cnd (!(x96))
    (nat v2_1.2.1 ((v2_1.2.2.map z0f).length-x46) fun x97 =>
    elt v2_1.2.2 (x46+x97) fun x98 =>
    nat v2_1.1 (v2_1.2.2.map z0f).length fun x99 =>
    stx v2_1.2.2 x99 (fun x100=>⟨x98.fBindings⟩) fun x101 =>
    (z2b n x46 k2_1_0 mv2_1) ((IntKind.wrap .i64 (v2_1.1+1)),(IntKind.wrap .i64 (v2_1.2.1+1)),x101))
   <| (z2b n x46 k2_1_0 mv2_1) (v2_1.1,(IntKind.wrap .i64 (v2_1.2.1+1)),v2_1.2.2))
  <| k2_1_0 v2_1.1 v2_1.2.2
def z3l (n:Nat)(m0:(List z02))(k1_0_0:Option ((List z02))):Nat->Int->Option ((List z02))
 |0,_=>none
 |mv1_0+1,v1_0 =>
  cnd (decide (v1_0<((m0.map z0f).length:Int)))
   (nat v1_0 (m0.map z0f).length fun x41 =>
   elt m0 x41 fun x42 =>
   nat (IntKind.wrap .i64 (v1_0-1)) (m0.map z0f).length fun x43 =>
   elt m0 x43 fun x44 =>
   bnd (zan n (⟨x42.fBindings⟩:z02) (⟨x44.fBindings⟩:z02)) fun x45 =>
   cnd (x45)
    (nle v1_0 (m0.map z0f).length fun x46 =>
    z2b n x46
     (fun k2_1_0y0 k2_1_0y1=>nle k2_1_0y0 (k2_1_0y1.map z0f).length fun x89 =>
    clr k2_1_0y1 x89 (⟨[]⟩:z02) fun x90 =>
    sls x90 0 k2_1_0y0 fun x91 =>
    some x91) n (v1_0,1,m0))
   <| (z3l n m0 k1_0_0 mv1_0) (IntKind.wrap .i64 (v1_0+1)))
  <| k1_0_0
def z7v (n:Nat)(m0:(List z02)):Option ((List z02)) :=
 cnd (decide (((m0.map z0f).length:Int)<2))
  (some m0)
 <| z3l n m0
  (some m0) n 1
def z9f (n:Nat)(m0:(List z02)):Option ((List z02)) :=
 bndC (zyo maOk z4o n m0) fun x1 =>
 frb 3 <| reg <| bndM 10 (z7v n x1) fun x2 =>
 some x2
def z6g (n:Nat)(a2:z01)(a1:(List z00))(a0:z0i)(k1_0_0:(List z00)->(List z02)->Option ((List z00)×(List z02))):Nat->Int×(List z00)×(List z02)->Option ((List z00)×(List z02))
 |0,_=>none
 |mv1_0+1,v1_0 =>
  cnd (decide (v1_0.1<((a1.map z0b).length:Int)))
   (idx a1 v1_0.1 fun x45 =>
   bndM 22 (zc6 n a0 x45 a2) fun x46 =>
   bndM 810 (z61 n v1_0.2.1 v1_0.2.2 x46.1 x46.2.1 x46.2.2) fun x49 =>
   (z6g n a2 a1 a0 k1_0_0 mv1_0) ((IntKind.wrap .i64 (v1_0.1+1)),x49.1,x49.2.1))
  <| k1_0_0 v1_0.2.1 v1_0.2.2
def z8d (n:Nat)(a0:z0i)(a1:(List z00))(a2:z01):Option ((List z00)×(List z02)) :=
 z6g n a2 a1 a0
  (fun k1_0_0y0 k1_0_0y1=>bndM 39 (zg8 n k1_0_0y0) fun x43 =>
 bndM 41 (z9f n k1_0_0y1) fun x44 =>
 some (x43,x44)) n (0,[],[])
def zdb (n:Nat)(a1:(List z01))(x2:z0i)(v2_1:(List z00)×Int×(List z02))(cv2_1:(List z00)×Int×(List z02)->Option ((List z00)×(List z02)×Int))(x49:(List z00)×(List z02))(w3_2:Bool):Option ((List z00)×(List z02)×Int) :=
 cnd (w3_2)
  (some ([],[],17))
 <| app v2_1.2.2 x49.2 24 fun x51 =>
 cv2_1 (x49.1,(IntKind.wrap .i64 (v2_1.2.1+1)),x51)
attribute [irreducible] zdb
def zc7 (n:Nat)(a1:(List z01))(x2:z0i)(k2_1_0:(List z00)->(List z02)->Option ((List z00)×(List z02)×Int)):Nat->(List z00)×Int×(List z02)->Option ((List z00)×(List z02)×Int)
 |0,_=>none
 |mv2_1+1,v2_1 =>
  cnd (decide (v2_1.2.1<((a1.map z04).length:Int)))
   (idx a1 v2_1.2.1 fun x48 =>
   bnd (z8d n x2 v2_1.1 x48) fun x49 =>
   jon (zdb n a1 x2 v2_1 (zc7 n a1 x2 k2_1_0 mv2_1) x49) <|
   reg <| cnd (decide (4096<((x49.1.map z0b).length:Int)))
    (zdb n a1 x2 v2_1 (zc7 n a1 x2 k2_1_0 mv2_1) x49 true)
   <| cnd (decide (4096<((x49.2.map z0f).length:Int)))
    (zdb n a1 x2 v2_1 (zc7 n a1 x2 k2_1_0 mv2_1) x49 true)
   <| zdb n a1 x2 v2_1 (zc7 n a1 x2 k2_1_0 mv2_1) x49 (decide (4096<(IntKind.wrap .i64 (((v2_1.2.2.map z0f).length:Int)+((x49.2.map z0f).length:Int))))))
  <| k2_1_0 v2_1.1 v2_1.2.2
def zj2 (n:Nat)(a0:z05)(a1:(List z01)):Option ((List z00)×(List z02)×Int) :=
 bndP (zb9 n a0 a1) (fun r=>r.1)
  (fun x1 =>
 cnd (!decide (x1.2=0))
  (some ([],[],x1.2))
 <| bnd (zlp n) fun x3 =>
 none) fun x1 x2 =>
 cnd (!decide (x1.2=0))
  (some ([],[],x1.2))
 <| bnd (zlp n) fun x4 =>
 zc7 n a1 x2
  (fun k2_1_0y0 k2_1_0y1=>bndM 62 (z9f n k2_1_0y1) fun x47 =>
 some (k2_1_0y0,x47,0)) n ([x4],0,[])
def z8i (n:Nat):Option (z05) :=
 bnd (z1d n true) fun x1 =>
 mak 2 24 (⟨[]⟩:z9b) fun x2 =>
 bld ([⟨0,1,0,0,⟨0,[],0,0,0,x1⟩,[],[],[],[],[]⟩,⟨1,(-1),1,0,⟨0,[],0,0,0,x1⟩,[],[],[],[],[]⟩]:List z0j) fun x3 =>
 some (⟨3,1,x2,x3⟩)
def zk4 (n:Nat)(a0:z05)(a1:(List z01)):Option ((List z02)×Int) :=
 bnd (zj2 n a0 a1) fun x1 =>
 some (x1.2.1,x1.2.2)
def z4w (n:Nat)(a0:z01):Option (z13) :=
 some (⟨a0.fTime,a0.fSource,a0.fSeq⟩)
def z7b (n:Nat)(a0:Int)(a1:Int):Option (z02) :=
 bnd (z2j n a0 0) fun x1 =>
 bnd (z4w n x1) fun x2 =>
 bnd (z2j n a1 0) fun x3 =>
 bnd (z4w n x3) fun x4 =>
 some (⟨[⟨0,⟨x2.fTime,x2.fSource,x2.fSeq⟩⟩,⟨1,⟨x4.fTime,x4.fSource,x4.fSeq⟩⟩]⟩)
def z6z (n:Nat)(a1:(List z02))(a0:(List z02))(k1_0_0:Option (Bool)):Nat->Int->Option (Bool)
 |0,_=>none
 |mv1_0+1,v1_0 =>
  cnd (decide (v1_0<((a0.map z0f).length:Int)))
   (idx a0 v1_0 fun x41 =>
   idx a1 v1_0 fun x42 =>
   bnd (z2z n (⟨x41.fBindings⟩:z02) (⟨x42.fBindings⟩:z02)) fun x43 =>
   cnd (!decide (x43=0))
    (some false)
   <| (z6z n a1 a0 k1_0_0 mv1_0) (IntKind.wrap .i64 (v1_0+1)))
  <| k1_0_0
def z7a (n:Nat)(a0:(List z02))(a1:(List z02)):Option (Bool) :=
 cnd (!decide (((a0.map z0f).length:Int)=((a1.map z0f).length:Int)))
  (some false)
 <| z6z n a1 a0
  (some true) n 0
def z6e (n:Nat)(w2_1:Bool):Option (Bool) :=
 some w2_1
attribute [irreducible] z6e
def z1f (n:Nat)(x5:(List z00)×(List z02)×Int)(x23:(List z02)×Int)(w1_0:Bool):Option (Bool) :=
 cnd (w1_0)
  (some false)
 <| jon (z6e n) <|
 reg <| bnd (z7b n 1 2) fun x35 =>
 bnd (z7b n 1 3) fun x36 =>
 bnd (z7b n 2 3) fun x37 =>
 bnd (z7a n x5.2.1 ([⟨x35.fBindings⟩,⟨x36.fBindings⟩,⟨x37.fBindings⟩])) fun x38 =>
 cnd (x38)
  (bnd (z7b n 1 2) fun x39 =>
  bnd (z7b n 2 3) fun x40 =>
  bnd (z7a n x23.1 ([⟨x39.fBindings⟩,⟨x40.fBindings⟩])) fun x41 =>
  z6e n x41)
 <| z6e n false
attribute [irreducible] z1f
def z88 (n:Nat):Option (Bool) :=
 bnd (z2j n 1 0) fun x1 =>
 bnd (z2j n 2 0) fun x2 =>
 bnd (z2j n 3 0) fun x3 =>
 bnd (zds n) fun x4 =>
 bnd (zj2 n x4 ([x1,x2,x3])) fun x5 =>
 bndM 22 (z8i n) fun x6 =>
 nat 0 (x6.fEdges.map z0e).length fun x7 =>
 ltx x7 (x6.fEdges.map z0e).length <| elt x6.fEdges x7 fun x8 =>
 nat 1 (x6.fStates.map z0d).length fun x9 =>
 ltx x9 (x6.fStates.map z0d).length <| stx x6.fStates x9 (fun x10=>⟨[⟨0,1,2,x8.fCond⟩]⟩) fun x11 =>
 frz 23000000 <| frz 23000001 <| reg <| bnd (z2j n 1 0) fun x12 =>
 bnd (z2j n 2 1) fun x13 =>
 bnd (z2j n 3 0) fun x14 =>
 bnd (zk4 n (⟨x6.fVars,x6.fScopes,x11,x6.fEdges⟩:z05) ([x12,x13,x14])) fun x15 =>
 bndM 43 (z8i n) fun x16 =>
 nat 0 (x16.fEdges.map z0e).length fun x17 =>
 ltx x17 (x16.fEdges.map z0e).length <| stx x16.fEdges x17 (fun x18=>⟨x18.fFrom,x18.fTo,x18.fVar,x18.fType,x18.fCond,[0],x18.fCloses,x18.fChecks,x18.fLimits,x18.fInside⟩) fun x19 =>
 nat 1 (x19.map z0e).length fun x20 =>
 ltx x20 (x19.map z0e).length <| stx x19 x20 (fun x21=>⟨x21.fFrom,x21.fTo,x21.fVar,x21.fType,x21.fCond,x21.fOpens,x21.fCloses,x21.fChecks,[⟨0,1⟩],x21.fInside⟩) fun x22 =>
 frz 44000000 <| frz 44000001 <| reg <| bnd (zk4 n (⟨x16.fVars,x16.fScopes,x16.fStates,x22⟩:z05) ([x1,x2,x3])) fun x23 =>
 jon (z1f n x5 x23) <|
 reg <| cnd (!decide (x5.2.2=0))
  (z1f n x5 x23 true)
 <| cnd (!decide (x15.2=0))
  (z1f n x5 x23 true)
 <| cnd (!decide (x23.2=0))
  (z1f n x5 x23 true)
 <| cnd (!decide (((x5.1.map z0b).length:Int)=4))
  (z1f n x5 x23 true)
 <| cnd (!decide (((x15.1.map z0f).length:Int)=0))
  (z1f n x5 x23 true)
 <| idx x5.1 0 fun x42 =>
 cnd (!decide (x42.fState=0))
  (z1f n x5 x23 true)
 <| idx x5.1 3 fun x43 =>
 z1f n x5 x23 (!decide (x43.fState=1))
def z6x (n:Nat)(a1:(List z00))(a0:(List z00))(k1_0_0:Option (Bool)):Nat->Int->Option (Bool)
 |0,_=>none
 |mv1_0+1,v1_0 =>
  cnd (decide (v1_0<((a0.map z0b).length:Int)))
   (idx a0 v1_0 fun x41 =>
   idx a1 v1_0 fun x42 =>
   bnd (z2y n x41 x42) fun x43 =>
   cnd (!decide (x43=0))
    (some false)
   <| (z6x n a1 a0 k1_0_0 mv1_0) (IntKind.wrap .i64 (v1_0+1)))
  <| k1_0_0
def z8s (n:Nat)(a0:(List z00))(a1:(List z00)):Option (Bool) :=
 cnd (!decide (((a0.map z0b).length:Int)=((a1.map z0b).length:Int)))
  (some false)
 <| z6x n a1 a0
  (some true) n 0
def z5t (n:Nat)(w1_0:Bool):Option (Bool) :=
 some w1_0
attribute [irreducible] z5t
def z7y (n:Nat)(a0:z0k):Option (Bool) :=
 jon (z5t n) <|
 reg <| bnd (z33 n a0 200) fun x4 =>
 cnd (decide (x4<=200))
  (bnd (z32 n a0) fun x5 =>
  z5t n (decide (x5<=100)))
 <| z5t n false
def z7l (n:Nat)(a0:(List z0q))(k1_0_0:Option (Bool)):Nat->Int->Option (Bool)
 |0,_=>none
 |mv1_0+1,v1_0 =>
  cnd (decide (v1_0<((a0.map z0t).length:Int)))
   (idx a0 v1_0 fun x41 =>
   bnd (z7y n x41.fCond) fun x42 =>
   cnd (!(x42))
    (some false)
   <| (z7l n a0 k1_0_0 mv1_0) (IntKind.wrap .i64 (v1_0+1)))
  <| k1_0_0
def zb1 (n:Nat)(a0:(List z0q)):Option (Bool) :=
 z7l n a0
  (some true) n 0
def z5q (n:Nat)(w9_2:Bool):Option (Bool) :=
 some w9_2
attribute [irreducible] z5q
def z7m (n:Nat)(a0:z05)(v2_1:Int)(x83:z0j)(k3_5_0:Option (Bool)):Nat->Int->Option (Bool)
 |0,_=>none
 |mv3_5+1,v3_5 =>
  cnd (decide (v3_5<((x83.fChecks.map idA).length:Int)))
   (idxD z3a x83.fChecks v3_5 fun x126 =>
   bnd (z7y n x126) fun x127 =>
   cnd (!(x127))
    (some false)
   <| (z7m n a0 v2_1 x83 k3_5_0 mv3_5) (IntKind.wrap .i64 (v3_5+1)))
  <| k3_5_0
def z1k (n:Nat)(a0:z05)(v2_1:Int)(cv2_1:Int->Option (Bool))(x83:z0j)(w11_4:Bool):Option (Bool) :=
 cnd (w11_4)
  (some false)
 <| z7m n a0 v2_1 x83
  (cv2_1 (IntKind.wrap .i64 (v2_1+1))) n 0
attribute [irreducible] z1k
def z4s (n:Nat)(a0:z05)(v2_1:Int)(k2_1_0:Option (Bool))(cv2_1:Int->Option (Bool))(w10_3:Bool):Option (Bool) :=
 cnd (w10_3)
  (idx a0.fEdges v2_1 fun x83 =>
  jon (z1k n a0 v2_1 cv2_1 x83) <|
  reg <| bnd (z7y n x83.fCond) fun x128 =>
  cnd (!(x128))
   (z1k n a0 v2_1 cv2_1 x83 true)
  <| cnd (decide (8<((x83.fChecks.map idA).length:Int)))
   (z1k n a0 v2_1 cv2_1 x83 true)
  <| cnd (decide (12<((x83.fOpens.map aI).length:Int)))
   (z1k n a0 v2_1 cv2_1 x83 true)
  <| cnd (decide (12<((x83.fCloses.map aI).length:Int)))
   (z1k n a0 v2_1 cv2_1 x83 true)
  <| cnd (decide (12<((x83.fInside.map aI).length:Int)))
   (z1k n a0 v2_1 cv2_1 x83 true)
  <| z1k n a0 v2_1 cv2_1 x83 (decide (12<((x83.fLimits.map z0r).length:Int))))
 <| k2_1_0
attribute [irreducible] z4s
def z3p (n:Nat)(a0:z05)(k2_1_0:Option (Bool)):Nat->Int->Option (Bool)
 |0,_=>none
 |mv2_1+1,v2_1 =>
  jon (z4s n a0 v2_1 k2_1_0 (z3p n a0 k2_1_0 mv2_1)) <|
  reg <| cnd (decide (v2_1<((a0.fEdges.map z0e).length:Int)))
   (z4s n a0 v2_1 k2_1_0 (z3p n a0 k2_1_0 mv2_1) (decide (v2_1<60)))
  <| z4s n a0 v2_1 k2_1_0 (z3p n a0 k2_1_0 mv2_1) false
def z1s (n:Nat)(a0:z05)(v1_0:Int)(cv1_0:Int->Option (Bool))(w13_7:Bool):Option (Bool) :=
 cnd (w13_7)
  (some false)
 <| cv1_0 (IntKind.wrap .i64 (v1_0+1))
attribute [irreducible] z1s
def z4r (n:Nat)(a0:z05)(v1_0:Int)(k1_0_0:Option (Bool))(cv1_0:Int->Option (Bool))(w12_6:Bool):Option (Bool) :=
 cnd (w12_6)
  (jon (z1s n a0 v1_0 cv1_0) <|
  reg <| idx a0.fStates v1_0 fun x139 =>
  cnd (decide (12<((x139.fGuards.map z0t).length:Int)))
   (idx a0.fStates v1_0 fun x140 =>
   cnd (decide (((x140.fGuards.map z0t).length:Int)<=64))
    (z1s n a0 v1_0 cv1_0 true)
   <| idx a0.fStates v1_0 fun x141 =>
   cnd (decide (70<((x141.fGuards.map z0t).length:Int)))
    (z1s n a0 v1_0 cv1_0 true)
   <| idx a0.fStates v1_0 fun x142 =>
   bnd (zb1 n x142.fGuards) fun x143 =>
   z1s n a0 v1_0 cv1_0 !(x143))
  <| idx a0.fStates v1_0 fun x144 =>
  cnd (decide (70<((x144.fGuards.map z0t).length:Int)))
   (z1s n a0 v1_0 cv1_0 true)
  <| idx a0.fStates v1_0 fun x145 =>
  bnd (zb1 n x145.fGuards) fun x146 =>
  z1s n a0 v1_0 cv1_0 !(x146))
 <| k1_0_0
attribute [irreducible] z4r
def z3q (n:Nat)(a0:z05)(k1_0_0:Option (Bool)):Nat->Int->Option (Bool)
 |0,_=>none
 |mv1_0+1,v1_0 =>
  jon (z4r n a0 v1_0 k1_0_0 (z3q n a0 k1_0_0 mv1_0)) <|
  reg <| cnd (decide (v1_0<((a0.fStates.map z0d).length:Int)))
   (z4r n a0 v1_0 k1_0_0 (z3q n a0 k1_0_0 mv1_0) (decide (v1_0<30)))
  <| z4r n a0 v1_0 k1_0_0 (z3q n a0 k1_0_0 mv1_0) false
def zb2 (n:Nat)(a0:z05):Option (Bool) :=
 z3q n a0
  (z3p n a0
  (jon (z5q n) <|
 reg <| cnd (decide (((a0.fStates.map z0d).length:Int)<=20))
  (z5q n (decide (((a0.fEdges.map z0e).length:Int)<=40)))
 <| z5q n false) n 0) n 0
def z7p (n:Nat)(a0:(List z03))(k1_0_0:Option (Bool)):Nat->Int->Option (Bool)
 |0,_=>none
 |mv1_0+1,v1_0 =>
  cnd (decide (v1_0<((a0.map z0a).length:Int)))
   (cnd (decide (v1_0<40))
     (idx a0 v1_0 fun x41 =>
     cnd (decide (128<((x41.fText.size:Nat):Int)))
      (some false)
     <| (z7p n a0 k1_0_0 mv1_0) (IntKind.wrap .i64 (v1_0+1)))
   <| k1_0_0)
  <| k1_0_0
def zb5 (n:Nat)(a0:(List z03)):Option (Bool) :=
 z7p n a0
  (some (decide (((a0.map z0a).length:Int)<40))) n 0
def z7o (n:Nat)(a0:(List z01))(k1_0_0:Option (Bool)):Nat->Int->Option (Bool)
 |0,_=>none
 |mv1_0+1,v1_0 =>
  cnd (decide (v1_0<((a0.map z04).length:Int)))
   (cnd (decide (v1_0<20))
     (idx a0 v1_0 fun x41 =>
     cnd (decide (12<((x41.fValues.map z0a).length:Int)))
      (some false)
     <| idx a0 v1_0 fun x42 =>
     bnd (zb5 n x42.fValues) fun x43 =>
     cnd (!(x43))
      (some false)
     <| (z7o n a0 k1_0_0 mv1_0) (IntKind.wrap .i64 (v1_0+1)))
   <| k1_0_0)
  <| k1_0_0
def zb4 (n:Nat)(a0:(List z01)):Option (Bool) :=
 z7o n a0
  (some (decide (((a0.map z04).length:Int)<=12))) n 0
def z95 (n:Nat)(a0:z01):Option (Bool) :=
 cnd (decide (0<=a0.fTime))
  (cnd (decide (a0.fTime<=1099511627776))
    (cnd (decide (0<=a0.fSource))
      (cnd (decide (a0.fSource<8))
        (cnd (decide (0<=a0.fSeq))
          (some (decide (a0.fSeq<=1099511627776)))
        <| some false)
      <| some false)
    <| some false)
  <| some false)
 <| some false
def z8u (n:Nat)(a0:z01)(a1:z01):Option (Bool) :=
 cnd (decide (a0.fSource=a1.fSource))
  (some (decide (a0.fSeq=a1.fSeq)))
 <| some false
def z6d (n:Nat)(a0:(List z01))(v1_0:Int)(k2_1_0:Option (Int)):Nat->Int->Option (Int)
 |0,_=>none
 |mv2_1+1,v2_1 =>
  cnd (decide (v2_1<v1_0))
   (idx a0 v2_1 fun x88 =>
   idx a0 v1_0 fun x89 =>
   bnd (z8u n x88 x89) fun x90 =>
   cnd (x90)
    (some 7)
   <| (z6d n a0 v1_0 k2_1_0 mv2_1) (IntKind.wrap .i64 (v2_1+1)))
  <| k2_1_0
def z6c (n:Nat)(a0:(List z01))(v1_0:Int)(k3_2_0:Option (Int)):Nat->Int->Option (Int)
 |0,_=>none
 |mv3_2+1,v3_2 =>
  cnd (decide (v3_2<v1_0))
   (idx a0 v3_2 fun x131 =>
   idx a0 v1_0 fun x132 =>
   bnd (z8u n x131 x132) fun x133 =>
   cnd (x133)
    (some 7)
   <| (z6c n a0 v1_0 k3_2_0 mv3_2) (IntKind.wrap .i64 (v3_2+1)))
  <| k3_2_0
def z1z (n:Nat)(a0:(List z01))(k1_0_0:Option (Int)):Nat->Int->Option (Int)
 |0,_=>none
 |mv1_0+1,v1_0 =>
  cnd (decide (v1_0<((a0.map z04).length:Int)))
   (idx a0 v1_0 fun x41 =>
   bnd (z95 n x41) fun x42 =>
   cnd (!(x42))
    (some 2)
   <| cnd (decide (0<v1_0))
    (idx a0 (IntKind.wrap .i64 (v1_0-1)) fun x43 =>
    bnd (z4w n x43) fun x44 =>
    idx a0 v1_0 fun x45 =>
    bnd (z4w n x45) fun x46 =>
    bnd (z86 n (⟨x44.fTime,x44.fSource,x44.fSeq⟩:z13) (⟨x46.fTime,x46.fSource,x46.fSeq⟩:z13)) fun x47 =>
    cnd (decide (0<=x47))
     (some 14)
    <| z6d n a0 v1_0
     ((z1z n a0 k1_0_0 mv1_0) (IntKind.wrap .i64 (v1_0+1))) n 0)
   <| z6c n a0 v1_0
    ((z1z n a0 k1_0_0 mv1_0) (IntKind.wrap .i64 (v1_0+1))) n 0)
  <| k1_0_0
def z87 (n:Nat)(a0:(List z01)):Option (Int) :=
 cnd (decide (4096<((a0.map z04).length:Int)))
  (some 5)
 <| z1z n a0
  (some 0) n 0
def z2q (n:Nat)(a0:z05)(a1:(List z01)):Option (Int) :=
 bnd (z6k n a0) fun x1 =>
 cnd (!decide (x1=0))
  (some x1)
 <| bnd (z87 n a1) fun x2 =>
 some x2
def zc3 (n:Nat):Option (z00) :=
 some (⟨0,[],[]⟩)
def z69 (n:Nat)(a1:z13)(a0:(List z01))(k1_0_0:Option (z01×Bool)):Nat->Int->Option (z01×Bool)
 |0,_=>none
 |mv1_0+1,v1_0 =>
  cnd (decide (v1_0<((a0.map z04).length:Int)))
   (idx a0 v1_0 fun x41 =>
   bnd (z4w n x41) fun x42 =>
   cnd ((decide (x42.fTime=a1.fTime) && (decide (x42.fSource=a1.fSource) && (decide (x42.fSeq=a1.fSeq) && true))))
    (idx a0 v1_0 fun x43 =>
    some (x43,true))
   <| (z69 n a1 a0 k1_0_0 mv1_0) (IntKind.wrap .i64 (v1_0+1)))
  <| k1_0_0
def z9p (n:Nat)(a0:(List z01))(a1:z13):Option (z01×Bool) :=
 z69 n a1 a0
  (some (⟨0,0,0,0,[]⟩,false)) n 0
def z1n (n:Nat)(a2:(List z0p))(a1:Int)(a0:(List z01))(x1:Nat)(k1_0_0:(List (List z01))->Option (z0h)):Nat->Int×(List (List z01))->Option (z0h)
 |0,_=>none
 |mv1_0+1,v1_0 =>
  cnd (decide (v1_0.1<((a2.map z06).length:Int)))
   (idx a2 v1_0.1 fun x43 =>
   bnd (z9p n a0 (⟨x43.fRef.fTime,x43.fRef.fSource,x43.fRef.fSeq⟩:z13)) fun x44 =>
   reg <| cnd (x44.2)
    (cnd (decide (0<=x43.fVar))
      (cnd (decide (x43.fVar<a1))
        (ncx x43.fVar x1 <|
        ntk v1_0.2 (Int.toNat x43.fVar) fun x45 =>
        app x45 [x44.1] 56 fun x46 =>
        ncx x43.fVar x1 <|
        npt v1_0.2 (Int.toNat x43.fVar) x46 fun x47 =>
        (z1n n a2 a1 a0 x1 k1_0_0 mv1_0) ((IntKind.wrap .i64 (v1_0.1+1)),x47))
      <| (z1n n a2 a1 a0 x1 k1_0_0 mv1_0) ((IntKind.wrap .i64 (v1_0.1+1)),v1_0.2))
    <| (z1n n a2 a1 a0 x1 k1_0_0 mv1_0) ((IntKind.wrap .i64 (v1_0.1+1)),v1_0.2))
   <| (z1n n a2 a1 a0 x1 k1_0_0 mv1_0) ((IntKind.wrap .i64 (v1_0.1+1)),v1_0.2))
  <| k1_0_0 v1_0.2
def zc4 (n:Nat)(a0:(List z01))(a1:Int)(a2:(List z0p)):Option (z0h) :=
 mkn a1 24 fun x1 =>
 nst 13 <| reg <| z1n n a2 a1 a0 x1
  (fun k1_0_0y=>frr 13 <| reg <| some ⟨k1_0_0y⟩) n (0,(List.replicate (x1) ([]:List z01)))
def z7x (n:Nat)(a0:(List z01))(a1:z00):Option (z0h) :=
 bnd (zc4 n a0 16 a1.fBindings) fun x1 =>
 some ⟨x1.fVars⟩
def z2l (n:Nat)(w1_0:Bool):Option (Bool) :=
 some w1_0
attribute [irreducible] z2l
def z63 (n:Nat)(a0:z0q)(a1:z0h)(a2:z01):Option (Bool) :=
 jon (z2l n) <|
 reg <| cnd (decide (a0.fType=a2.fType))
  (bnd (z2h n a0.fCond (⟨a1.fVars⟩:z0h) a0.fVar a2) fun x3 =>
  z2l n x3)
 <| z2l n false
def z64 (n:Nat)(a3:z01)(x1:z0h)(x2:z9b)(k1_0_0:Option (Bool)):Nat->Int->Option (Bool)
 |0,_=>none
 |mv1_0+1,v1_0 =>
  cnd (decide (v1_0<((x2.fGuards.map z0t).length:Int)))
   (idx x2.fGuards v1_0 fun x43 =>
   bnd (z63 n x43 (⟨x1.fVars⟩:z0h) a3) fun x44 =>
   cnd (x44)
    (some false)
   <| (z64 n a3 x1 x2 k1_0_0 mv1_0) (IntKind.wrap .i64 (v1_0+1)))
  <| k1_0_0
def z9n (n:Nat)(a0:z05)(a1:(List z01))(a2:z00)(a3:z01):Option (Bool) :=
 bnd (z7x n a1 a2) fun x1 =>
 idx a0.fStates a2.fState fun x2 =>
 z64 n a3 x1 x2
  (some true) n 0
def z4q (n:Nat)(a1:Int)(a0:z05)(k1_0_0:(List z0j)->Option ((List z0j))):Nat->Int×(List z0j)->Option ((List z0j))
 |0,_=>none
 |mv1_0+1,v1_0 =>
  cnd (decide (v1_0.1<((a0.fEdges.map z0e).length:Int)))
   (reg <| idx a0.fEdges v1_0.1 fun x42 =>
   cnd (decide (x42.fFrom=a1))
    (idx a0.fEdges v1_0.1 fun x43 =>
    app v1_0.2 [x43] 240 fun x44 =>
    (z4q n a1 a0 k1_0_0 mv1_0) ((IntKind.wrap .i64 (v1_0.1+1)),x44))
   <| (z4q n a1 a0 k1_0_0 mv1_0) ((IntKind.wrap .i64 (v1_0.1+1)),v1_0.2))
  <| k1_0_0 v1_0.2
def za6 (n:Nat)(a0:z05)(a1:Int):Option ((List z0j)) :=
 z4q n a1 a0
  (fun k1_0_0y=>some k1_0_0y) n (0,[])
def z7e (n:Nat)(a1:Int)(a0:(List Int))(k1_0_0:Option (Bool)):Nat->Int->Option (Bool)
 |0,_=>none
 |mv1_0+1,v1_0 =>
  cnd (decide (v1_0<((a0.map aI).length:Int)))
   (idx a0 v1_0 fun x41 =>
   cnd (decide (x41=a1))
    (some true)
   <| (z7e n a1 a0 k1_0_0 mv1_0) (IntKind.wrap .i64 (v1_0+1)))
  <| k1_0_0
def zay (n:Nat)(a0:(List Int))(a1:Int):Option (Bool) :=
 z7e n a1 a0
  (some false) n 0
def z3c (n:Nat)(a1:Int)(a0:(List z0c))(k1_0_0:(List z0c)->Option ((List z0c))):Nat->Int×(List z0c)->Option ((List z0c))
 |0,_=>none
 |mv1_0+1,v1_0 =>
  cnd (decide (v1_0.1<((a0.map z07).length:Int)))
   (reg <| idx a0 v1_0.1 fun x42 =>
   cnd (!decide (x42.fScope=a1))
    (idx a0 v1_0.1 fun x43 =>
    app v1_0.2 [x43] 16 fun x44 =>
    (z3c n a1 a0 k1_0_0 mv1_0) ((IntKind.wrap .i64 (v1_0.1+1)),x44))
   <| (z3c n a1 a0 k1_0_0 mv1_0) ((IntKind.wrap .i64 (v1_0.1+1)),v1_0.2))
  <| k1_0_0 v1_0.2
def z7f (n:Nat)(a0:(List z0c))(a1:Int):Option ((List z0c)) :=
 z3c n a1 a0
  (fun k1_0_0y=>some k1_0_0y) n (0,[])
def z3b (n:Nat)(a2:Int)(a1:Int)(x1:(List z0c))(v1_0:Int×(List z0c))(k1_0_0:(List z0c)->Int->(List z0c)->Option ((List z0c)))(cv1_0:(Int×(List z0c))->Option ((List z0c)))(w3_1:Bool):Option ((List z0c)) :=
 cnd (w3_1)
  (idx x1 v1_0.1 fun x50 =>
  app v1_0.2 [x50] 16 fun x51 =>
  cv1_0 ((IntKind.wrap .i64 (v1_0.1+1)),x51))
 <| k1_0_0 x1 v1_0.1 v1_0.2
attribute [irreducible] z3b
def z2e (n:Nat)(a2:Int)(a1:Int)(x1:(List z0c))(k1_0_0:(List z0c)->Int->(List z0c)->Option ((List z0c))):Nat->Int×(List z0c)->Option ((List z0c))
 |0,_=>none
 |mv1_0+1,v1_0 =>
  jon (z3b n a2 a1 x1 v1_0 k1_0_0 (z2e n a2 a1 x1 k1_0_0 mv1_0)) <|
  reg <| cnd (decide (v1_0.1<((x1.map z07).length:Int)))
   (idx x1 v1_0.1 fun x52 =>
   z3b n a2 a1 x1 v1_0 k1_0_0 (z2e n a2 a1 x1 k1_0_0 mv1_0) (decide (x52.fScope<a1)))
  <| z3b n a2 a1 x1 v1_0 k1_0_0 (z2e n a2 a1 x1 k1_0_0 mv1_0) false
def z92 (n:Nat)(a0:(List z0c))(a1:Int)(a2:Int):Option ((List z0c)) :=
 bnd (z7f n a0 a1) fun x1 =>
 z2e n a2 a1 x1
  (fun k1_0_0y0 k1_0_0y1 k1_0_0y2=>app k1_0_0y2 ([⟨a1,a2⟩]) 16 fun x45 =>
 sls k1_0_0y0 k1_0_0y1 ((k1_0_0y0.map z07).length:Int) fun x46 =>
 app x45 x46 16 fun x47 =>
 some x47) n (0,[])
def z6w (n:Nat)(a2:Int)(a1:z0z)(a0:(List z0c))(k1_0_0:Option (Bool)):Nat->Int->Option (Bool)
 |0,_=>none
 |mv1_0+1,v1_0 =>
  cnd (decide (v1_0<((a0.map z07).length:Int)))
   (idx a0 v1_0 fun x41 =>
   cnd (decide (x41.fScope=a1.fScope))
    (idx a0 v1_0 fun x42 =>
    some (decide ((IntKind.wrap .i64 (a2-x42.fTime))<=a1.fSpan)))
   <| (z6w n a2 a1 a0 k1_0_0 mv1_0) (IntKind.wrap .i64 (v1_0+1)))
  <| k1_0_0
def za4 (n:Nat)(a0:(List z0c))(a1:z0z)(a2:Int):Option (Bool) :=
 z6w n a2 a1 a0
  (some false) n 0
def z4f (n:Nat)(a3:z0j)(k4_4_0y:(List z0p))(k5_5_0:(List z0c)->Option (z00×Bool)):Nat->Int×(List z0c)->Option (z00×Bool)
 |0,_=>none
 |mv5_5+1,v5_5 =>
  cnd (decide (v5_5.1<((a3.fCloses.map aI).length:Int)))
   (idx a3.fCloses v5_5.1 fun x216 =>
   bnd (z7f n v5_5.2 x216) fun x217 =>
   (z4f n a3 k4_4_0y k5_5_0 mv5_5) ((IntKind.wrap .i64 (v5_5.1+1)),x217))
  <| k5_5_0 v5_5.2
def z4g (n:Nat)(a3:z0j)(k2_2_0y:(List z0c))(x130:(List z0p))(x133:z0h)(k4_4_0:(List z0p)->Option (z00×Bool)):Nat->Int->Option (z00×Bool)
 |0,_=>none
 |mv4_4+1,v4_4 =>
  cnd (decide (v4_4<((a3.fChecks.map idA).length:Int)))
   (idxD z3a a3.fChecks v4_4 fun x218 =>
   bnd (z2h n x218 (⟨x133.fVars⟩:z0h) (-1) (⟨0,0,0,0,[]⟩:z01)) fun x219 =>
   cnd (!(x219))
    (some (⟨0,[],[]⟩,false))
   <| (z4g n a3 k2_2_0y x130 x133 k4_4_0 mv4_4) (IntKind.wrap .i64 (v4_4+1)))
  <| k4_4_0 x130
def z4h (n:Nat)(a4:z01)(a3:z0j)(a2:z00)(a1:(List z01))(k2_2_0y:(List z0c))(k3_3_0:Option (z00×Bool)):Nat->Int->Option (z00×Bool)
 |0,_=>none
 |mv3_3+1,v3_3 =>
  cnd (decide (v3_3<((a3.fLimits.map z0r).length:Int)))
   (idx a3.fLimits v3_3 fun x220 =>
   bnd (za4 n k2_2_0y x220 a4.fTime) fun x221 =>
   cnd (!(x221))
    (some (⟨0,[],[]⟩,false))
   <| (z4h n a4 a3 a2 a1 k2_2_0y k3_3_0 mv3_3) (IntKind.wrap .i64 (v3_3+1)))
  <| k3_3_0
def z4i (n:Nat)(a4:z01)(a3:z0j)(a2:z00)(a1:(List z01))(k2_2_0:(List z0c)->Option (z00×Bool)):Nat->Int×(List z0c)->Option (z00×Bool)
 |0,_=>none
 |mv2_2+1,v2_2 =>
  cnd (decide (v2_2.1<((a3.fOpens.map aI).length:Int)))
   (idx a3.fOpens v2_2.1 fun x222 =>
   bnd (z92 n v2_2.2 x222 a4.fTime) fun x223 =>
   (z4i n a4 a3 a2 a1 k2_2_0 mv2_2) ((IntKind.wrap .i64 (v2_2.1+1)),x223))
  <| k2_2_0 v2_2.2
def z12 (n:Nat)(a4:z01)(a3:z0j)(a2:z00)(a1:(List z01))(w3_1:Bool):Option (z00×Bool) :=
 cnd (w3_1)
  (some (⟨0,[],[]⟩,false))
 <| z4i n a4 a3 a2 a1
  (fun k2_2_0y=>z4h n a4 a3 a2 a1 k2_2_0y
  (app ([]:List z0p) a2.fBindings 32 fun x127 =>
 bnd (z4w n a4) fun x128 =>
 bldS ([⟨a3.fVar,⟨x128.fTime,x128.fSource,x128.fSeq⟩⟩]:List z0p) fun x129 =>
 app x127 x129 32 fun x130 =>
 frz 125 <| reg <| bld ([a4]:List z01) fun x131 =>
 app x131 a1 56 fun x132 =>
 bnd (z7x n x132 (⟨a3.fTo,x130,k2_2_0y⟩:z00)) fun x133 =>
 z4g n a3 k2_2_0y x130 x133
  (fun k4_4_0y=>z4f n a3 k4_4_0y
  (fun k5_5_0y=>some (⟨a3.fTo,k4_4_0y,k5_5_0y⟩,true)) n (0,k2_2_0y)) n 0) n 0) n (0,a2.fStarts)
attribute [irreducible] z12
def z2t (n:Nat)(a4:z01)(a3:z0j)(a2:z00)(a1:(List z01))(x1:z0h)(x2:z9b)(v1_0:Int)(cv1_0:Int->Option (z00×Bool))(w4_6:Bool):Option (z00×Bool) :=
 cnd (w4_6)
  (some (⟨0,[],[]⟩,false))
 <| cv1_0 (IntKind.wrap .i64 (v1_0+1))
attribute [irreducible] z2t
def z21 (n:Nat)(a4:z01)(a3:z0j)(a2:z00)(a1:(List z01))(x1:z0h)(x2:z9b)(k1_0_0:(List (List z01))->Option (z00×Bool)):Nat->Int->Option (z00×Bool)
 |0,_=>none
 |mv1_0+1,v1_0 =>
  cnd (decide (v1_0<((x2.fGuards.map z0t).length:Int)))
   (jon (z2t n a4 a3 a2 a1 x1 x2 v1_0 (z21 n a4 a3 a2 a1 x1 x2 k1_0_0 mv1_0)) <|
   reg <| idx x2.fGuards v1_0 fun x230 =>
   bnd (zay n a3.fInside x230.fScope) fun x231 =>
   cnd (!(x231))
    (idx x2.fGuards v1_0 fun x232 =>
    bnd (z63 n x232 (⟨x1.fVars⟩:z0h) a4) fun x233 =>
    z2t n a4 a3 a2 a1 x1 x2 v1_0 (z21 n a4 a3 a2 a1 x1 x2 k1_0_0 mv1_0) x233)
   <| z2t n a4 a3 a2 a1 x1 x2 v1_0 (z21 n a4 a3 a2 a1 x1 x2 k1_0_0 mv1_0) false)
  <| k1_0_0 x1.fVars
def z4p (n:Nat)(a0:z05)(a1:(List z01))(a2:z00)(a3:z0j)(a4:z01):Option (z00×Bool) :=
 bnd (z7x n a1 a2) fun x1 =>
 idx a0.fStates a2.fState fun x2 =>
 z21 n a4 a3 a2 a1 x1 x2
  (fun k1_0_0y=>jon (z12 n a4 a3 a2 a1) <|
 reg <| cnd (!decide (a3.fType=a4.fType))
  (z12 n a4 a3 a2 a1 true)
 <| bnd (z2h n a3.fCond (⟨k1_0_0y⟩:z0h) a3.fVar a4) fun x224 =>
 z12 n a4 a3 a2 a1 !(x224)) n 0
def z5s (n:Nat)(a1:z02)(a0:(List z02))(k1_0_0y:Int)(w3_1:Bool):Option ((List z02)) :=
 cnd (w3_1)
  (some a0)
 <| sls a0 0 k1_0_0y fun x45 =>
 app ([]:List z02) x45 24 fun x46 =>
 app x46 [⟨a1.fBindings⟩] 24 fun x47 =>
 sls a0 k1_0_0y ((a0.map z0f).length:Int) fun x48 =>
 app x47 x48 24 fun x49 =>
 some x49
attribute [irreducible] z5s
def z5r (n:Nat)(a1:z02)(a0:(List z02))(v1_0:Int)(k1_0_0:Int->Option ((List z02)))(cv1_0:Int->Option ((List z02)))(w4_2:Bool):Option ((List z02)) :=
 cnd (w4_2)
  (cv1_0 (IntKind.wrap .i64 (v1_0+1)))
 <| k1_0_0 v1_0
attribute [irreducible] z5r
def z3r (n:Nat)(a1:z02)(a0:(List z02))(k1_0_0:Int->Option ((List z02))):Nat->Int->Option ((List z02))
 |0,_=>none
 |mv1_0+1,v1_0 =>
  jon (z5r n a1 a0 v1_0 k1_0_0 (z3r n a1 a0 k1_0_0 mv1_0)) <|
  reg <| cnd (decide (v1_0<((a0.map z0f).length:Int)))
   (idx a0 v1_0 fun x55 =>
   bnd (z2z n (⟨x55.fBindings⟩:z02) (⟨a1.fBindings⟩:z02)) fun x56 =>
   z5r n a1 a0 v1_0 k1_0_0 (z3r n a1 a0 k1_0_0 mv1_0) (decide (x56<0)))
  <| z5r n a1 a0 v1_0 k1_0_0 (z3r n a1 a0 k1_0_0 mv1_0) false
def z6l (n:Nat)(a0:(List z02))(a1:z02):Option ((List z02)) :=
 z3r n a1 a0
  (fun k1_0_0y=>jon (z5s n a1 a0 k1_0_0y) <|
 reg <| cnd (decide (k1_0_0y<((a0.map z0f).length:Int)))
  (idx a0 k1_0_0y fun x50 =>
  bnd (z2z n (⟨x50.fBindings⟩:z02) (⟨a1.fBindings⟩:z02)) fun x51 =>
  z5s n a1 a0 k1_0_0y (decide (x51=0)))
 <| z5s n a1 a0 k1_0_0y false) n 0
def z3o (n:Nat)(a3:z01)(a2:z00)(a1:(List z01))(a0:z05)(x4:(List z0j))(k1_1_0:(List z00)->(List z02)->Option ((List z00)×(List z02))):Nat->(List z00)×(List z02)×Int->Option ((List z00)×(List z02))
 |0,_=>none
 |mv1_1+1,v1_1 =>
  cnd (decide (v1_1.2.2<((x4.map z0e).length:Int)))
   (idx x4 v1_1.2.2 fun x47 =>
   bnd (z4p n a0 a1 a2 x47 a3) fun x48 =>
   cnd (!(x48.2))
    ((z3o n a3 a2 a1 a0 x4 k1_1_0 mv1_1) (v1_1.1,v1_1.2.1,(IntKind.wrap .i64 (v1_1.2.2+1))))
   <| reg <| cnd (decide (x48.1.fState<0))
    (bnd (z6l n v1_1.2.1 (⟨x48.1.fBindings⟩:z02)) fun x49 =>
    (z3o n a3 a2 a1 a0 x4 k1_1_0 mv1_1) (v1_1.1,x49,(IntKind.wrap .i64 (v1_1.2.2+1))))
   <| bnd (z7w n v1_1.1 x48.1) fun x50 =>
   (z3o n a3 a2 a1 a0 x4 k1_1_0 mv1_1) (x50,v1_1.2.1,(IntKind.wrap .i64 (v1_1.2.2+1))))
  <| k1_1_0 v1_1.1 v1_1.2.1
def z5o (n:Nat)(a3:z01)(a2:z00)(a1:(List z01))(a0:z05)(w1_0:(List z00)):Option ((List z00)×(List z02)) :=
 bnd (za6 n a0 a2.fState) fun x4 =>
 z3o n a3 a2 a1 a0 x4
  (fun k1_1_0y0 k1_1_0y1=>some (k1_1_0y0,k1_1_0y1)) n (w1_0,[],0)
attribute [irreducible] z5o
def zaz (n:Nat)(a0:z05)(a1:(List z01))(a2:z00)(a3:z01):Option ((List z00)×(List z02)) :=
 jon (z5o n a3 a2 a1 a0) <|
 reg <| bnd (z9n n a0 a1 a2 a3) fun x51 =>
 cnd (x51)
  (bnd (z7w n [] a2) fun x52 =>
  z5o n a3 a2 a1 a0 x52)
 <| z5o n a3 a2 a1 a0 []
def z7h (n:Nat)(a3:z01)(a2:(List z00))(a1:(List z01))(a0:z05)(v1_0:(List z00)×(List z02)×Int)(k2_1_0y0:(List z00))(k2_1_0y1:(List z02))(k3_2_0:(List z02)->Option ((List z00)×(List z02))):Nat->(List z02)×Int->Option ((List z00)×(List z02))
 |0,_=>none
 |mv3_2+1,v3_2 =>
  cnd (decide (v3_2.2<((k2_1_0y1.map z0f).length:Int)))
   (idx k2_1_0y1 v3_2.2 fun x128 =>
   bnd (z6l n v3_2.1 (⟨x128.fBindings⟩:z02)) fun x129 =>
   (z7h n a3 a2 a1 a0 v1_0 k2_1_0y0 k2_1_0y1 k3_2_0 mv3_2) (x129,(IntKind.wrap .i64 (v3_2.2+1))))
  <| k3_2_0 v3_2.1
def z7i (n:Nat)(a3:z01)(a2:(List z00))(a1:(List z01))(a0:z05)(v1_0:(List z00)×(List z02)×Int)(x44:(List z00)×(List z02))(k2_1_0:(List z00)->(List z02)->Option ((List z00)×(List z02))):Nat->(List z00)×Int->Option ((List z00)×(List z02))
 |0,_=>none
 |mv2_1+1,v2_1 =>
  cnd (decide (v2_1.2<((x44.1.map z0b).length:Int)))
   (idx x44.1 v2_1.2 fun x130 =>
   bnd (z7w n v2_1.1 x130) fun x131 =>
   (z7i n a3 a2 a1 a0 v1_0 x44 k2_1_0 mv2_1) (x131,(IntKind.wrap .i64 (v2_1.2+1))))
  <| k2_1_0 v2_1.1 x44.2
def z7j (n:Nat)(a3:z01)(a2:(List z00))(a1:(List z01))(a0:z05)(k1_0_0:(List z00)->(List z02)->Option ((List z00)×(List z02))):Nat->(List z00)×(List z02)×Int->Option ((List z00)×(List z02))
 |0,_=>none
 |mv1_0+1,v1_0 =>
  cnd (decide (v1_0.2.2<((a2.map z0b).length:Int)))
   (idx a2 v1_0.2.2 fun x43 =>
   bnd (zaz n a0 a1 x43 a3) fun x44 =>
   z7i n a3 a2 a1 a0 v1_0 x44
    (fun k2_1_0y0 k2_1_0y1=>z7h n a3 a2 a1 a0 v1_0 k2_1_0y0 k2_1_0y1
    (fun k3_2_0y=>(z7j n a3 a2 a1 a0 k1_0_0 mv1_0) (k2_1_0y0,k3_2_0y,(IntKind.wrap .i64 (v1_0.2.2+1)))) n (v1_0.2.1,0)) n (v1_0.1,0))
  <| k1_0_0 v1_0.1 v1_0.2.1
def zb0 (n:Nat)(a0:z05)(a1:(List z01))(a2:(List z00))(a3:z01):Option ((List z00)×(List z02)) :=
 z7j n a3 a2 a1 a0
  (fun k1_0_0y0 k1_0_0y1=>some (k1_0_0y0,k1_0_0y1)) n ([],[],0)
def z3d (n:Nat)(a2:Int)(a1:(List z01))(a0:z05)(v1_0:(List z00)×(List z02)×Int)(cv1_0:((List z00)×(List z02)×Int)->Option ((List z00)×(List z02)×Bool))(k2_1_0y0:(List z02))(k2_1_0y1:(List z00))(w3_2:Bool):Option ((List z00)×(List z02)×Bool) :=
 cnd (w3_2)
  (some ([],[],false))
 <| cv1_0 (k2_1_0y1,k2_1_0y0,(IntKind.wrap .i64 (v1_0.2.2+1)))
attribute [irreducible] z3d
def z57 (n:Nat)(a2:Int)(a1:(List z01))(a0:z05)(v1_0:(List z00)×(List z02)×Int)(x45:(List z00)×(List z02))(k2_1_0:(List z02)->(List z00)->Option ((List z00)×(List z02)×Bool)):Nat->(List z02)×Int->Option ((List z00)×(List z02)×Bool)
 |0,_=>none
 |mv2_1+1,v2_1 =>
  cnd (decide (v2_1.2<((x45.2.map z0f).length:Int)))
   (idx x45.2 v2_1.2 fun x89 =>
   bnd (z6l n v2_1.1 (⟨x89.fBindings⟩:z02)) fun x90 =>
   (z57 n a2 a1 a0 v1_0 x45 k2_1_0 mv2_1) (x90,(IntKind.wrap .i64 (v2_1.2+1))))
  <| k2_1_0 v2_1.1 x45.1
def z2f (n:Nat)(a2:Int)(a1:(List z01))(a0:z05)(k1_0_0:(List z00)->(List z02)->Option ((List z00)×(List z02)×Bool)):Nat->(List z00)×(List z02)×Int->Option ((List z00)×(List z02)×Bool)
 |0,_=>none
 |mv1_0+1,v1_0 =>
  cnd (decide (v1_0.2.2<((a1.map z04).length:Int)))
   (idx a1 v1_0.2.2 fun x44 =>
   bnd (zb0 n a0 a1 v1_0.1 x44) fun x45 =>
   z57 n a2 a1 a0 v1_0 x45
    (fun k2_1_0y0 k2_1_0y1=>jon (z3d n a2 a1 a0 v1_0 (z2f n a2 a1 a0 k1_0_0 mv1_0) k2_1_0y0 k2_1_0y1) <|
   reg <| cnd (decide (a2<((k2_1_0y1.map z0b).length:Int)))
    (z3d n a2 a1 a0 v1_0 (z2f n a2 a1 a0 k1_0_0 mv1_0) k2_1_0y0 k2_1_0y1 true)
   <| z3d n a2 a1 a0 v1_0 (z2f n a2 a1 a0 k1_0_0 mv1_0) k2_1_0y0 k2_1_0y1 (decide (a2<((k2_1_0y0.map z0f).length:Int)))) n (v1_0.2.1,0))
  <| k1_0_0 v1_0.1 v1_0.2.1
def z7g (n:Nat)(a0:z05)(a1:(List z01))(a2:Int):Option ((List z00)×(List z02)×Bool) :=
 bnd (zc3 n) fun x1 =>
 z2f n a2 a1 a0
  (fun k1_0_0y0 k1_0_0y1=>some (k1_0_0y0,k1_0_0y1,true)) n ([x1],[],0)
def z3z (n:Nat)(a1:(List z01))(a0:z05)(w1_0:Bool):Option (Bool) :=
 cnd (w1_0)
  (some false)
 <| bnd (z2q n a0 a1) fun x4 =>
 cnd (!decide (x4=0))
  (some true)
 <| bnd (z7g n a0 a1 150) fun x5 =>
 some x5.2.2
attribute [irreducible] z3z
def z9m (n:Nat)(a0:z05)(a1:(List z01)):Option (Bool) :=
 jon (z3z n a1 a0) <|
 reg <| bnd (zb2 n a0) fun x6 =>
 cnd (!(x6))
  (z3z n a1 a0 true)
 <| bnd (zb4 n a1) fun x7 =>
 z3z n a1 a0 !(x7)
def zln (n:Nat)(a0:z05)(a1:(List z01)):Option ((List z00)×(List z02)×Int) :=
 bnd (z2q n a0 a1) fun x1 =>
 cnd (!decide (x1=0))
  (some ([],[],x1))
 <| bnd (z7g n a0 a1 4096) fun x2 =>
 cnd (!(x2.2.2))
  (some ([],[],17))
 <| some (x2.1,x2.2.1,0)
def z52 (n:Nat)(a1:z00)(a0:z0i)(v2_2:Int)(cv2_2:Int->Option (Int))(w11_4:Bool):Option (Int) :=
 cnd (w11_4)
  (some 14)
 <| cv2_2 (IntKind.wrap .i64 (v2_2+1))
attribute [irreducible] z52
def z2d (n:Nat)(a1:z00)(a0:z0i)(v2_2:Int)(cv2_2:Int->Option (Int))(x82:z0c)(w10_3:Bool):Option (Int) :=
 cnd (w10_3)
  (some 2)
 <| jon (z52 n a1 a0 v2_2 cv2_2) <|
 reg <| cnd (decide (0<v2_2))
  (idx a1.fStarts (IntKind.wrap .i64 (v2_2-1)) fun x86 =>
  z52 n a1 a0 v2_2 cv2_2 (decide (x82.fScope<=x86.fScope)))
 <| z52 n a1 a0 v2_2 cv2_2 false
attribute [irreducible] z2d
def z20 (n:Nat)(a1:z00)(a0:z0i)(k2_2_0:Option (Int)):Nat->Int->Option (Int)
 |0,_=>none
 |mv2_2+1,v2_2 =>
  cnd (decide (v2_2<((a1.fStarts.map z07).length:Int)))
   (idx a1.fStarts v2_2 fun x82 =>
   jon (z2d n a1 a0 v2_2 (z20 n a1 a0 k2_2_0 mv2_2) x82) <|
   reg <| cnd (decide (x82.fScope<0))
    (z2d n a1 a0 v2_2 (z20 n a1 a0 k2_2_0 mv2_2) x82 true)
   <| cnd (decide (a0.fa.fScopes<=x82.fScope))
    (z2d n a1 a0 v2_2 (z20 n a1 a0 k2_2_0 mv2_2) x82 true)
   <| cnd (decide (x82.fTime<0))
    (z2d n a1 a0 v2_2 (z20 n a1 a0 k2_2_0 mv2_2) x82 true)
   <| z2d n a1 a0 v2_2 (z20 n a1 a0 k2_2_0 mv2_2) x82 (decide (1099511627776<x82.fTime)))
  <| k2_2_0
def z4z (n:Nat)(a1:z00)(a0:z0i)(v1_1:Int)(cv1_1:Int->Option (Int))(x89:Bool)(w13_6:Bool):Option (Int) :=
 cnd (w13_6)
  (some 14)
 <| cnd (!(x89))
  (some 6)
 <| cv1_1 (IntKind.wrap .i64 (v1_1+1))
attribute [irreducible] z4z
def z51 (n:Nat)(a1:z00)(a0:z0i)(v1_1:Int)(cv1_1:Int->Option (Int))(x87:z0p)(x89:Bool)(w12_5:Bool):Option (Int) :=
 cnd (w12_5)
  (some 2)
 <| jon (z4z n a1 a0 v1_1 cv1_1 x89) <|
 reg <| cnd (decide (0<v1_1))
  (idx a1.fBindings (IntKind.wrap .i64 (v1_1-1)) fun x94 =>
  bnd (zi4 n (⟨x94.fRef.fTime,x94.fRef.fSource,x94.fRef.fSeq⟩:z13) (⟨x87.fRef.fTime,x87.fRef.fSource,x87.fRef.fSeq⟩:z13)) fun x95 =>
  z4z n a1 a0 v1_1 cv1_1 x89 (decide (0<=x95)))
 <| z4z n a1 a0 v1_1 cv1_1 x89 false
attribute [irreducible] z51
def z3t (n:Nat)(a1:z00)(a0:z0i)(k1_1_0:Option (Int)):Nat->Int->Option (Int)
 |0,_=>none
 |mv1_1+1,v1_1 =>
  cnd (decide (v1_1<((a1.fBindings.map z06).length:Int)))
   (idx a1.fBindings v1_1 fun x87 =>
   mgv a0.fheld (⟨x87.fRef.fTime,x87.fRef.fSource,x87.fRef.fSeq⟩:z13) (⟨0,0,0,0,[]⟩:z01) fun x88 x89 =>
   jon (z51 n a1 a0 v1_1 (z3t n a1 a0 k1_1_0 mv1_1) x87 x89) <|
   reg <| cnd (decide (x87.fVar<0))
    (z51 n a1 a0 v1_1 (z3t n a1 a0 k1_1_0 mv1_1) x87 x89 true)
   <| z51 n a1 a0 v1_1 (z3t n a1 a0 k1_1_0 mv1_1) x87 x89 (decide (a0.fa.fVars<=x87.fVar)))
  <| k1_1_0
def z5w (n:Nat)(a1:z00)(a0:z0i)(w1_0:Bool):Option (Int) :=
 cnd (w1_0)
  (some 21)
 <| cnd (decide (4096<=((a1.fBindings.map z06).length:Int)))
  (some 5)
 <| z3t n a1 a0
  (z20 n a1 a0
  (some 0) n 0) n 0
attribute [irreducible] z5w
def z6o (n:Nat)(a0:z0i)(a1:z00):Option (Int) :=
 jon (z5w n a1 a0) <|
 reg <| cnd (decide (a1.fState<0))
  (z5w n a1 a0 true)
 <| z5w n a1 a0 (decide (((a0.fa.fStates.map z0d).length:Int)<=a1.fState))
def za1 (n:Nat)(x49:(List z00)×(List z02))(w1_2:Bool):Option ((List z00)×(List z02)×Int) :=
 cnd (w1_2)
  (some ([],[],17))
 <| some (x49.1,x49.2,0)
attribute [irreducible] za1
def zbn (n:Nat)(a3:z01)(a2:(List z00))(x2:z0i)(k2_1_0:Int->Int->(List z9b)->(List z0j)->(List (z13×z01))->Option ((List z00)×(List z02)×Int)):Nat->Int->Option ((List z00)×(List z02)×Int)
 |0,_=>none
 |mv2_1+1,v2_1 =>
  cnd (decide (v2_1<((a2.map z0b).length:Int)))
   (idx a2 v2_1 fun x51 =>
   bnd (z6o n x2 x51) fun x52 =>
   cnd (!decide (x52=0))
    (some ([],[],x52))
   <| (zbn n a3 a2 x2 k2_1_0 mv2_1) (IntKind.wrap .i64 (v2_1+1)))
  <| k2_1_0 x2.fa.fVars x2.fa.fScopes x2.fa.fStates x2.fa.fEdges x2.fheld
def zh2 (n:Nat)(a0:z05)(a1:(List z01))(a2:(List z00))(a3:z01):Option ((List z00)×(List z02)×Int) :=
 bndP (zb9 n a0 a1) (fun r=>r.1)
  (fun x1 =>
 cnd (!decide (x1.2=0))
  (some ([],[],x1.2))
 <| cnd (decide (4096<((a2.map z0b).length:Int)))
  (some ([],[],5))
 <| none) fun x1 x2 =>
 cnd (!decide (x1.2=0))
  (some ([],[],x1.2))
 <| cnd (decide (4096<((a2.map z0b).length:Int)))
  (some ([],[],5))
 <| zbn n a3 a2 x2
  (fun k2_1_0y0 k2_1_0y1 k2_1_0y2 k2_1_0y3 k2_1_0y4=>bnd (zrq n a2 a3) fun x48 =>
 cnd (!decide (x48=0))
  (some ([],[],x48))
 <| bnd (z8d n (⟨⟨k2_1_0y0,k2_1_0y1,k2_1_0y2,k2_1_0y3⟩,k2_1_0y4⟩:z0i) a2 a3) fun x49 =>
 jon (za1 n x49) <|
 reg <| cnd (decide (4096<((x49.1.map z0b).length:Int)))
  (za1 n x49 true)
 <| za1 n x49 (decide (4096<((x49.2.map z0f).length:Int)))) n 0
def zlo (n:Nat)(a0:z05)(a1:(List z01))(a2:z00):Option (Int) :=
 bndP (zb9 n a0 a1) (fun r=>r.1)
  (fun x1 =>
 cnd (!decide (x1.2=0))
  (some x1.2)
 <| none) fun x1 x2 =>
 cnd (!decide (x1.2=0))
  (some x1.2)
 <| bnd (z6o n x2 a2) fun x3 =>
 some x3
def z5a (n:Nat)(a0:(List z02))(k1_0_0:(List z02)->Option ((List z02))):Nat->(List z02)×Int->Option ((List z02))
 |0,_=>none
 |mv1_0+1,v1_0 =>
  cnd (decide (v1_0.2<((a0.map z0f).length:Int)))
   (idx a0 v1_0.2 fun x42 =>
   bnd (z6l n v1_0.1 (⟨x42.fBindings⟩:z02)) fun x43 =>
   (z5a n a0 k1_0_0 mv1_0) (x43,(IntKind.wrap .i64 (v1_0.2+1))))
  <| k1_0_0 v1_0.1
def z94 (n:Nat)(a0:(List z02)):Option ((List z02)) :=
 z5a n a0
  (fun k1_0_0y=>some k1_0_0y) n ([],0)
def z1a (n:Nat)(w5_3:Bool):Option (Bool) :=
 some w5_3
attribute [irreducible] z1a
def z1g (n:Nat)(a1:(List z01))(a0:z05)(x7:(List z00)×(List z02)×Int)(x10:(List z00)×(List z02)×Int)(x11:(List z00)×(List z02)×Int)(v1_2:Int)(cv1_2:Int->Option (Bool))(w6_4:Bool):Option (Bool) :=
 cnd (w6_4)
  (some false)
 <| cv1_2 (IntKind.wrap .i64 (v1_2+1))
attribute [irreducible] z1g
def z19 (n:Nat)(a1:(List z01))(a0:z05)(x7:(List z00)×(List z02)×Int)(x10:(List z00)×(List z02)×Int)(x11:(List z00)×(List z02)×Int)(k1_2_0:(List z00)->(List z02)->(List z02)->(List z02)->Option (Bool)):Nat->Int->Option (Bool)
 |0,_=>none
 |mv1_2+1,v1_2 =>
  cnd (decide (v1_2<((x11.1.map z0b).length:Int)))
   (idx x11.1 v1_2 fun x74 =>
   jon (z1g n a1 a0 x7 x10 x11 v1_2 (z19 n a1 a0 x7 x10 x11 k1_2_0 mv1_2)) <|
   reg <| bnd (zlo n a0 a1 x74) fun x79 =>
   cnd (!decide (x79=0))
    (z1g n a1 a0 x7 x10 x11 v1_2 (z19 n a1 a0 x7 x10 x11 k1_2_0 mv1_2) true)
   <| cnd (decide (0<v1_2))
    (idx x11.1 (IntKind.wrap .i64 (v1_2-1)) fun x80 =>
    bnd (z2y n x80 x74) fun x81 =>
    z1g n a1 a0 x7 x10 x11 v1_2 (z19 n a1 a0 x7 x10 x11 k1_2_0 mv1_2) (decide (0<=x81)))
   <| z1g n a1 a0 x7 x10 x11 v1_2 (z19 n a1 a0 x7 x10 x11 k1_2_0 mv1_2) false)
  <| k1_2_0 x7.1 x7.2.1 x10.2.1 x11.2.1
def z1b (n:Nat)(a1:(List z01))(a0:z05)(x7:(List z00)×(List z02)×Int)(x10:(List z00)×(List z02)×Int)(x11:(List z00)×(List z02)×Int)(w2_1:Bool):Option (Bool) :=
 cnd (w2_1)
  (some false)
 <| z19 n a1 a0 x7 x10 x11
  (fun k1_2_0y0 k1_2_0y1 k1_2_0y2 k1_2_0y3=>bndR (zd7 n k1_2_0y0) fun x58 =>
 app x58 k1_2_0y0 56 fun x59 =>
 bnd (zrr n x59) fun x60 =>
 jon (z1a n) <|
 reg <| cnd (decide (x60.2=0))
  (bnd (z8s n x60.1 k1_2_0y0) fun x68 =>
  cnd (x68)
   (bndR (zd7 n k1_2_0y1) fun x69 =>
   app x69 k1_2_0y2 24 fun x70 =>
   bnd (z94 n x70) fun x71 =>
   bnd (z7a n x71 k1_2_0y3) fun x72 =>
   cnd (x72)
    (bnd (z88 n) fun x73 =>
    z1a n x73)
   <| z1a n false)
  <| z1a n false)
 <| z1a n false) n 0
attribute [irreducible] z1b
def z0x (n:Nat)(a1:(List z01))(a0:z05)(w1_0:Bool):Option (Bool) :=
 cnd (w1_0)
  (bnd (z88 n) fun x5 =>
  some x5)
 <| sls a1 0 (IntKind.wrap .i64 (((a1.map z04).length:Int)-1)) fun x6 =>
 bnd (zj2 n a0 x6) fun x7 =>
 sls a1 0 (IntKind.wrap .i64 (((a1.map z04).length:Int)-1)) fun x8 =>
 idx a1 (IntKind.wrap .i64 (((a1.map z04).length:Int)-1)) fun x9 =>
 bnd (zh2 n a0 x8 x7.1 x9) fun x10 =>
 bnd (zj2 n a0 a1) fun x11 =>
 jon (z1b n a1 a0 x7 x10 x11) <|
 reg <| cnd (!decide (x7.2.2=0))
  (z1b n a1 a0 x7 x10 x11 true)
 <| cnd (!decide (x10.2.2=0))
  (z1b n a1 a0 x7 x10 x11 true)
 <| cnd (!decide (x11.2.2=0))
  (z1b n a1 a0 x7 x10 x11 true)
 <| bnd (z8s n x10.1 x11.1) fun x82 =>
 z1b n a1 a0 x7 x10 x11 !(x82)
attribute [irreducible] z0x
def z8j (n:Nat)(a0:z05)(a1:(List z01)):Option (Bool) :=
 jon (z0x n a1 a0) <|
 reg <| bnd (z9m n a0 a1) fun x83 =>
 cnd (!(x83))
  (z0x n a1 a0 true)
 <| bnd (z6k n a0) fun x84 =>
 cnd (!decide (x84=0))
  (z0x n a1 a0 true)
 <| bnd (z87 n a1) fun x85 =>
 cnd (!decide (x85=0))
  (z0x n a1 a0 true)
 <| z0x n a1 a0 (decide (((a1.map z04).length:Int)=0))
end Go.Proofs.YtjpknpjjcddnnaaGreat
