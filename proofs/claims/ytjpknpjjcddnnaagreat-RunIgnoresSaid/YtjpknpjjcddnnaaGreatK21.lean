/- What some functions compute, over plain values. Printed by a program of mine (gen_fun.lean). -/
import Derived.Test.YtjpknpjjcddnnaaGreatK20
import Derived.Test.YtjpknpjjcddnnaaGreatK17
set_option linter.unusedVariables false
set_option linter.unusedSimpArgs false
set_option maxRecDepth 100000
set_option maxHeartbeats 8000000
namespace Go.Proofs.YtjpknpjjcddnnaaGreat
open Go.RowKit
def zam (n:Nat)(a0:z00)(a1:z00):Option (Bool) :=
 bnd (zh4 n a0 a1) fun x1 =>
 some (decide (x1=0))
def z4z (n:Nat)(x46:Nat)(k2_1_0:Int->(List z00)->Option ((List z00))):Nat->Int×Int×(List z00)->Option ((List z00))
 |0,_=>none
 |mv2_1+1,v2_1 =>
  gle x46 (v2_1.2.2.map z0e).length <|
  cnd (decide (v2_1.2.1<((((v2_1.2.2.map z0e).length-x46:Nat)):Int)))
   (nat v2_1.2.1 ((v2_1.2.2.map z0e).length-x46) fun x92 =>
   elt v2_1.2.2 (x46+x92) fun x93 =>
   nat (IntKind.wrap .i64 (v2_1.2.1-1)) ((v2_1.2.2.map z0e).length-x46) fun x94 =>
   elt v2_1.2.2 (x46+x94) fun x95 =>
   bnd (zam n x93 x95) fun x96 =>
   cnd (!(x96))
    (nat v2_1.2.1 ((v2_1.2.2.map z0e).length-x46) fun x97 =>
    elt v2_1.2.2 (x46+x97) fun x98 =>
    nat v2_1.1 (v2_1.2.2.map z0e).length fun x99 =>
    stx v2_1.2.2 x99 (fun x100=>x98) fun x101 =>
    (z4z n x46 k2_1_0 mv2_1) ((IntKind.wrap .i64 (v2_1.1+1)),(IntKind.wrap .i64 (v2_1.2.1+1)),x101))
   <| (z4z n x46 k2_1_0 mv2_1) (v2_1.1,(IntKind.wrap .i64 (v2_1.2.1+1)),v2_1.2.2))
  <| k2_1_0 v2_1.1 v2_1.2.2
def z74 (n:Nat)(m0:(List z00))(k1_0_0:Option ((List z00))):Nat->Int->Option ((List z00))
 |0,_=>none
 |mv1_0+1,v1_0 =>
  cnd (decide (v1_0<((m0.map z0e).length:Int)))
   (nat v1_0 (m0.map z0e).length fun x41 =>
   elt m0 x41 fun x42 =>
   nat (IntKind.wrap .i64 (v1_0-1)) (m0.map z0e).length fun x43 =>
   elt m0 x43 fun x44 =>
   bnd (zam n x42 x44) fun x45 =>
   cnd (x45)
    (nle v1_0 (m0.map z0e).length fun x46 =>
    z4z n x46
     (fun k2_1_0y0 k2_1_0y1=>nle k2_1_0y0 (k2_1_0y1.map z0e).length fun x89 =>
    clr k2_1_0y1 x89 (⟨0,[],[]⟩:z00) fun x90 =>
    sls x90 0 k2_1_0y0 fun x91 =>
    some x91) n (v1_0,1,m0))
   <| (z74 n m0 k1_0_0 mv1_0) (IntKind.wrap .i64 (v1_0+1)))
  <| k1_0_0
def za9 (n:Nat)(m0:(List z00)):Option ((List z00)) :=
 cnd (decide (((m0.map z0e).length:Int)<2))
  (some m0)
 <| z74 n m0
  (some m0) n 1
def ziq (n:Nat)(m0:(List z00)):Option ((List z00)) :=
 bndC (zyq cfOk zbh n m0) fun x1 =>
 frb 3 <| reg <| bndM 10 (za9 n x1) fun x2 =>
 some x2
def z2h (n:Nat)(a0:Int)(a1:Int):Option (z01) :=
 some (⟨0,a0,a1,a0,[]⟩)
def zdq (n:Nat):Option (z05) :=
 bnd (z1a n true) fun x1 =>
 mak 2 24 (⟨[]⟩:z2r) fun x2 =>
 some (⟨3,1,x2,[⟨0,1,0,0,⟨0,[],0,0,0,x1⟩,[],[],[],[],[]⟩,⟨1,(-1),1,0,⟨0,[],0,0,0,x1⟩,[],[],[],[],[]⟩]⟩)
structure z0s where
 fa:z05
 fheld:(List (z1g×z01))
deriving Inhabited
structure z56 where
 fsource:Int
 fseq:Int
deriving DecidableEq,Inhabited
def zaj (x:z56):AV:=.agg [aI (x.fsource),aI (x.fseq)]
def zex (n:Nat)(a0:z01):Option (Bool) :=
 cnd (decide (0<=a0.fTime))
  (cnd (decide (a0.fTime<=1099511627776))
    (cnd (decide (0<=a0.fSource))
      (cnd (decide (a0.fSource<8))
        (cnd (decide (0<=a0.fSeq))
          (some (decide (a0.fSeq<=1099511627776)))
        <| some false)
      <| some false)
    <| some false)
  <| some false)
 <| some false
def zls (n:Nat)(a0:z01):Option (z1g) :=
 some (⟨a0.fTime,a0.fSource,a0.fSeq⟩)
def zf1 (n:Nat)(a0:z01)(a1:z01):Option (Int) :=
 bnd (zls n a0) fun x1 =>
 bnd (zls n a1) fun x2 =>
 cnd ((decide (x1.fTime=x2.fTime) && (decide (x1.fSource=x2.fSource) && (decide (x1.fSeq=x2.fSeq) && true))))
  (some 0)
 <| bnd (z54 n a0.fTime a1.fTime) fun x3 =>
 bnd (z54 n a0.fSource a1.fSource) fun x4 =>
 bnd (z54 n a0.fSeq a1.fSeq) fun x5 =>
 bnd (zh8 n ([x3,x4,x5])) fun x6 =>
 some x6
def zg1 (n:Nat)(a0:z01):Option (z56) :=
 some (⟨a0.fSource,a0.fSeq⟩)
def z9d (n:Nat)(a0:(List z01))(k1_0_0:Option (Int)):Nat->Int×(List (z56×Bool))->Option (Int)
 |0,_=>none
 |mv1_0+1,v1_0 =>
  cnd (decide (v1_0.1<((a0.map z04).length:Int)))
   (idx a0 v1_0.1 fun x41 =>
   bnd (zex n x41) fun x42 =>
   cnd (!(x42))
    (some 2)
   <| cnd (decide (0<v1_0.1))
    (idx a0 (IntKind.wrap .i64 (v1_0.1-1)) fun x43 =>
    bnd (zf1 n x43 x41) fun x44 =>
    cnd (decide (0<=x44))
     (some 14)
    <| bnd (zg1 n x41) fun x45 =>
    mgt v1_0.2 x45 (false:Bool) fun x46 x47 =>
    cnd (x46)
     (some 7)
    <| bnd (zg1 n x41) fun x48 =>
    mst v1_0.2 x48 true fun x49 =>
    (z9d n a0 k1_0_0 mv1_0) ((IntKind.wrap .i64 (v1_0.1+1)),x49))
   <| bnd (zg1 n x41) fun x50 =>
   mgt v1_0.2 x50 (false:Bool) fun x51 x52 =>
   cnd (x51)
    (some 7)
   <| bnd (zg1 n x41) fun x53 =>
   mst v1_0.2 x53 true fun x54 =>
   (z9d n a0 k1_0_0 mv1_0) ((IntKind.wrap .i64 (v1_0.1+1)),x54))
  <| k1_0_0
def zfv (n:Nat)(a0:(List z01)):Option (Int) :=
 cnd (decide (4096<((a0.map z04).length:Int)))
  (some 5)
 <| z9d n a0
  (some 0) n (0,[])
def zdy (n:Nat)(a1:(List z01))(a0:z05)(k1_0_0:(List (z1g×z01))->Option ((Option z0s)×Int)):Nat->Int×(List (z1g×z01))->Option ((Option z0s)×Int)
 |0,_=>none
 |mv1_0+1,v1_0 =>
  cnd (decide (v1_0.1<((a1.map z04).length:Int)))
   (idx a1 v1_0.1 fun x44 =>
   bnd (zrr n x44) fun x45 =>
   mst v1_0.2 (⟨x45.fTime,x45.fSource,x45.fSeq⟩:z1g) x44 fun x46 =>
   (zdy n a1 a0 k1_0_0 mv1_0) ((IntKind.wrap .i64 (v1_0.1+1)),x46))
  <| k1_0_0 v1_0.2
def zhx (n:Nat)(a0:z05)(a1:(List z01)):Option ((Option z0s)×Int) :=
 bnd (zcz n a0) fun x1 =>
 cnd (!decide (x1=0))
  (some (none,x1))
 <| bnd (zfv n a1) fun x2 =>
 cnd (!decide (x2=0))
  (some (none,x2))
 <| zdy n a1 a0
  (fun k1_0_0y=>some ((some ⟨a0,k1_0_0y⟩),0)) n (0,[])
def zlp (n:Nat):Option (z00) :=
 some (⟨0,[],[]⟩)
def zby (n:Nat)(a0:z0s)(a1:z00)(a2:z01):Option (z0s×z00×z01) :=
 some (a0,a1,a2)
def z6e (n:Nat)(a0:z00)(m0:(List z00))(m1:(List z03)):Option ((List z00)×(List z03)) :=
 cnd (decide (a0.fState<0))
  (app m1 [⟨a0.fBindings⟩] 24 fun x3 =>
  some (m0,x3))
 <| app m0 [a0] 56 fun x4 =>
 some (x4,m1)
def z8z (n:Nat)(a1:(List z0u))(a0:z0s)(x1:Nat)(k1_0_0:(List (List z01))->Option (z0i)):Nat->Int×(List (List z01))->Option (z0i)
 |0,_=>none
 |mv1_0+1,v1_0 =>
  cnd (decide (v1_0.1<((a1.map z0a).length:Int)))
   (idx a1 v1_0.1 fun x43 =>
   ncx x43.fVar x1 <|
   ntk v1_0.2 (Int.toNat x43.fVar) fun x44 =>
   mgv a0.fheld (⟨x43.fRef.fTime,x43.fRef.fSource,x43.fRef.fSeq⟩:z1g) (⟨0,0,0,0,[]⟩:z01) fun x45 x46 =>
   app x44 [x45] 56 fun x47 =>
   ncx x43.fVar x1 <|
   npt v1_0.2 (Int.toNat x43.fVar) x47 fun x48 =>
   (z8z n a1 a0 x1 k1_0_0 mv1_0) ((IntKind.wrap .i64 (v1_0.1+1)),x48))
  <| k1_0_0 v1_0.2
def zct (n:Nat)(a0:z0s)(a1:(List z0u)):Option (z0i) :=
 mkn a0.fa.fVars 24 fun x1 =>
 nst 13 <| reg <| z8z n a1 a0 x1
  (fun k1_0_0y=>frr 13 <| reg <| some ⟨k1_0_0y⟩) n (0,(List.replicate (x1) ([]:List z01)))
def z2l (n:Nat)(a1:Int)(a0f2:z01)(a0f1:Int)(a0f0:z0i)(w1_0:Bool):Option ((List z01)) :=
 cnd (w1_0)
  (some [])
 <| idx a0f0.fVars a1 fun x2 =>
 some x2
attribute [irreducible] z2l
def z6f (n:Nat)(a0f0:z0i)(a0f1:Int)(a0f2:z01)(a1:Int):Option ((List z01)) :=
 jon (z2l n a1 a0f2 a0f1 a0f0) <|
 reg <| cnd (decide (a1<0))
  (z2l n a1 a0f2 a0f1 a0f0 true)
 <| z2l n a1 a0f2 a0f1 a0f0 (decide ((((List.map (fun q=>AV.sl 5 (List.map z04 q)) (a0f0.fVars)).length:Nat):Int)<=a1))
def zez (n:Nat)(a0:z01)(a1:Int):Option (z02×Int) :=
 cnd (decide (((a0.fValues.map z06).length:Int)<=a1))
  (some (⟨0,0,ByteArray.empty⟩,6))
 <| idx a0.fValues a1 fun x1 =>
 some (x1,0)
def z4q (n:Nat)(a1:z0k)(x1:(List z01))(k1_0_0:(List z02)->Option (z02×Int)):Nat->Int×(List z02)->Option (z02×Int)
 |0,_=>none
 |mv1_0+1,v1_0 =>
  cnd (decide (v1_0.1<((x1.map z04).length:Int)))
   (idx x1 v1_0.1 fun x44 =>
   bnd (zez n x44 a1.fField) fun x45 =>
   cnd (!decide (x45.2=0))
    (some (⟨0,0,ByteArray.empty⟩,x45.2))
   <| app v1_0.2 [x45.1] 32 fun x46 =>
   (z4q n a1 x1 k1_0_0 mv1_0) ((IntKind.wrap .i64 (v1_0.1+1)),x46))
  <| k1_0_0 v1_0.2
def zaf (n:Nat)(a0f0:z0i)(a0f1:Int)(a0f2:z01)(a1:z0k):Option (z02×Int) :=
 bnd (z6f n (⟨a0f0.fVars⟩:z0i) a0f1 a0f2 a1.fVar) fun x1 =>
 z4q n a1 x1
  (fun k1_0_0y=>bnd (ze1 n a1.fKind k1_0_0y a1.fValue) fun x43 =>
 some (x43.1,x43.2)) n (0,[])
def z3g (n:Nat)(x9:z02×Int)(w2_1:Int):Option (z02×Int) :=
 cnd (!decide (w2_1=0))
  (some (⟨0,0,ByteArray.empty⟩,w2_1))
 <| some (x9.1,0)
attribute [irreducible] z3g
def z3h (n:Nat)(a1:z0k)(w1_0:Int×Int×Int×Int×(List z02)):Option (z02×Int) :=
 cnd (decide (a1.fOp=2))
  (some (⟨0,w1_0.2.2.2.1,ByteArray.empty⟩,0))
 <| bnd (zez n (⟨w1_0.1,w1_0.2.1,w1_0.2.2.1,w1_0.2.2.2.1,w1_0.2.2.2.2⟩:z01) a1.fField) fun x9 =>
 jon (z3g n x9) <|
 reg <| cnd (decide (x9.2=0))
  (bnd (zae n x9.1) fun x12 =>
  z3g n x9 x12)
 <| z3g n x9 x9.2
attribute [irreducible] z3h
def z9b (n:Nat)(a0f0:z0i)(a0f1:Int)(a0f2:z01)(a1:z0k):Option (z02×Int) :=
 bnd (z6f n (⟨a0f0.fVars⟩:z0i) a0f1 a0f2 a1.fVar) fun x1 =>
 cnd (decide (a1.fOp=0))
  (some (a1.fValue,0))
 <| cnd (decide (a1.fOp=3))
  (some (⟨0,((x1.map z04).length:Int),ByteArray.empty⟩,0))
 <| cnd (decide (a1.fOp=4))
  (bnd (zaf n (⟨a0f0.fVars⟩:z0i) a0f1 a0f2 a1) fun x2 =>
  some (x2.1,x2.2))
 <| jon (z3h n a1) <|
 reg <| cnd (!decide (a1.fVar=a0f1))
  (cnd (decide (((x1.map z04).length:Int)=0))
    (some (⟨0,0,ByteArray.empty⟩,10))
  <| idx x1 (IntKind.wrap .i64 (((x1.map z04).length:Int)-1)) fun x13 =>
  z3h n a1 (x13.fSource,x13.fSeq,x13.fType,x13.fTime,x13.fValues))
 <| z3h n a1 (a0f2.fSource,a0f2.fSeq,a0f2.fType,a0f2.fTime,a0f2.fValues)
def z7e (n:Nat)(a1:(List Int))(a0:Int)(v1_0:Int)(cv1_0:Int->Option (Int))(x41:Int)(w6_2:Bool):Option (Int) :=
 cnd (w6_2)
  (cnd (!(decide (x41=1)))
    (some 9)
  <| cv1_0 (IntKind.wrap .i64 (v1_0+1)))
 <| reg <| cnd (decide (a0=9))
  (idx a1 0 fun x44 =>
  cnd (!(decide (x41=x44)))
   (some 9)
  <| cv1_0 (IntKind.wrap .i64 (v1_0+1)))
 <| cv1_0 (IntKind.wrap .i64 (v1_0+1))
attribute [irreducible] z7e
def z5z (n:Nat)(a1:(List Int))(a0:Int)(v1_0:Int)(cv1_0:Int->Option (Int))(x41:Int)(w5_1:Bool):Option (Int) :=
 cnd (w5_1)
  (cnd (!(decide (x41=0)))
    (some 9)
  <| cv1_0 (IntKind.wrap .i64 (v1_0+1)))
 <| jon (z7e n a1 a0 v1_0 cv1_0 x41) <|
 reg <| cnd (decide (a0=10))
  (z7e n a1 a0 v1_0 cv1_0 x41 (decide (a0=10)))
 <| reg <| cnd (decide (a0=11))
  (z7e n a1 a0 v1_0 cv1_0 x41 (decide (a0=11)))
 <| z7e n a1 a0 v1_0 cv1_0 x41 (decide (a0=12))
attribute [irreducible] z5z
def z48 (n:Nat)(a1:(List Int))(a0:Int)(k1_0_0:Option (Int)):Nat->Int->Option (Int)
 |0,_=>none
 |mv1_0+1,v1_0 =>
  cnd (decide (v1_0<((a1.map aI).length:Int)))
   (idx a1 v1_0 fun x41 =>
   jon (z5z n a1 a0 v1_0 (z48 n a1 a0 k1_0_0 mv1_0) x41) <|
   reg <| cnd (decide (a0=5))
    (z5z n a1 a0 v1_0 (z48 n a1 a0 k1_0_0 mv1_0) x41 (decide (a0=5)))
   <| reg <| cnd (decide (a0=6))
    (z5z n a1 a0 v1_0 (z48 n a1 a0 k1_0_0 mv1_0) x41 (decide (a0=6)))
   <| reg <| cnd (decide (a0=7))
    (z5z n a1 a0 v1_0 (z48 n a1 a0 k1_0_0 mv1_0) x41 (decide (a0=7)))
   <| z5z n a1 a0 v1_0 (z48 n a1 a0 k1_0_0 mv1_0) x41 (decide (a0=8)))
  <| k1_0_0
def zh6 (n:Nat)(a0:Int)(a1:(List Int)):Option (Int) :=
 z48 n a1 a0
  (some 0) n 0
def znl (n:Nat)(a0:Bool):Option (z02) :=
 cnd (a0)
  (some (⟨1,1,ByteArray.empty⟩))
 <| some (⟨1,0,ByteArray.empty⟩)
def z8w (n:Nat)(a0:Bool):Option (z02) :=
 bnd (znl n a0) fun x1 =>
 some x1
def zbb (n:Nat)(a0:Int):Option (z02) :=
 some (⟨0,a0,ByteArray.empty⟩)
def zba (n:Nat)(a0:Int)(a1:Int):Option (z02) :=
 bnd (zbb n (IntKind.wrap .i64 (a0+a1))) fun x1 =>
 some x1
def zb9 (n:Nat)(a0:Int)(a1:Int):Option (z02) :=
 bnd (zbb n (IntKind.wrap .i64 (a0-a1))) fun x1 =>
 some x1
def zb8 (n:Nat)(a0:Int)(a1:Int):Option (z02) :=
 bnd (z8w n (decide (a0<a1))) fun x1 =>
 some x1
def zb7 (n:Nat)(a0:Int)(a1:Int):Option (z02) :=
 bnd (z8w n (decide (a0<=a1))) fun x1 =>
 some x1
def z5v (n:Nat)(w1_0:Int×Int×ByteArray):Option (z02) :=
 some (⟨w1_0.1,w1_0.2.1,w1_0.2.2⟩)
attribute [irreducible] z5v
def zb6 (n:Nat)(a0:Int)(a1:Int):Option (z02) :=
 jon (z5v n) <|
 reg <| cnd (decide (a0=1))
  (bnd (z8w n (decide (a1=1))) fun x6 =>
  z5v n (x6.fKind,x6.fNum,x6.fText))
 <| bnd (z8w n false) fun x7 =>
 z5v n (x7.fKind,x7.fNum,x7.fText)
def z5u (n:Nat)(w1_0:Int×Int×ByteArray):Option (z02) :=
 some (⟨w1_0.1,w1_0.2.1,w1_0.2.2⟩)
attribute [irreducible] z5u
def zb5 (n:Nat)(a0:Int)(a1:Int):Option (z02) :=
 jon (z5u n) <|
 reg <| cnd (decide (a0=1))
  (bnd (z8w n true) fun x6 =>
  z5u n (x6.fKind,x6.fNum,x6.fText))
 <| bnd (z8w n (decide (a1=1))) fun x7 =>
 z5u n (x7.fKind,x7.fNum,x7.fText)
def z84 (n:Nat)(a0:Int)(a1:Int):Option (z02) :=
 bnd (z8w n (!decide (a0=1))) fun x1 =>
 some x1
def z5g (n:Nat)(rF_expr_evaluator__eval:z0i->Int->z01->z0k->Option (z02×Int))(a1:z0k)(a0f2:z01)(a0f1:Int)(a0f0:z0i)(k1_0_0:(List z02)->(List Int)->Option (z02×Int)):Nat->Int×(List z02)×(List Int)->Option (z02×Int)
 |0,_=>none
 |mv1_0+1,v1_0 =>
  cnd (decide (v1_0.1<((a1.fArgs.map idA).length:Int)))
   (idxD z37 a1.fArgs v1_0.1 fun x85 =>
   bnd (rF_expr_evaluator__eval (⟨a0f0.fVars⟩:z0i) a0f1 a0f2 x85) fun x86 =>
   cnd (!decide (x86.2=0))
    (some (⟨0,0,ByteArray.empty⟩,x86.2))
   <| app v1_0.2.1 [x86.1] 32 fun x87 =>
   app v1_0.2.2 [x86.1.fKind] 8 fun x88 =>
   (z5g n rF_expr_evaluator__eval a1 a0f2 a0f1 a0f0 k1_0_0 mv1_0) ((IntKind.wrap .i64 (v1_0.1+1)),x87,x88))
  <| k1_0_0 v1_0.2.1 v1_0.2.2
def z3u:Nat->z0i->Int->z01->z0k->Option (z02×Int)
 |0,_,_,_,_=>none
 |n+1,a0f0,a0f1,a0f2,a1 =>
 cnd (decide (((a1.fArgs.map idA).length:Int)=0))
  (bnd (z9b n (⟨a0f0.fVars⟩:z0i) a0f1 a0f2 a1) fun x1 =>
  some (x1.1,x1.2))
 <| z5g n (z3u n) a1 a0f2 a0f1 a0f0
  (fun k1_0_0y0 k1_0_0y1=>bnd (zh6 n a1.fOp k1_0_0y1) fun x44 =>
 cnd (!decide (x44=0))
  (some (⟨0,0,ByteArray.empty⟩,x44))
 <| cnd (decide (a1.fOp=9))
  (nat 0 (k1_0_0y0.map z06).length fun x45 =>
  elt k1_0_0y0 x45 fun x46 =>
  nat 1 (k1_0_0y0.map z06).length fun x47 =>
  elt k1_0_0y0 x47 fun x48 =>
  bnd (z8w n (decide (x46.fKind=x48.fKind) && (decide (x46.fNum=x48.fNum) && ((x46.fText.toList == x48.fText.toList) && true)))) fun x49 =>
  some (x49,0))
 <| natc a1.fOp 5
  (nat 0 (k1_0_0y0.map z06).length fun x50 =>
 ltx x50 (k1_0_0y0.map z06).length <| elt k1_0_0y0 x50 fun x51 =>
 nat (IntKind.wrap .i64 (((k1_0_0y0.map z06).length:Int)-1)) (k1_0_0y0.map z06).length fun x52 =>
 ltx x52 (k1_0_0y0.map z06).length <| elt k1_0_0y0 x52 fun x53 =>
 bnd (zba n x51.fNum x53.fNum) fun x54 =>
 some (x54,0))
 <| natc a1.fOp 6
  (nat 0 (k1_0_0y0.map z06).length fun x55 =>
 ltx x55 (k1_0_0y0.map z06).length <| elt k1_0_0y0 x55 fun x56 =>
 nat (IntKind.wrap .i64 (((k1_0_0y0.map z06).length:Int)-1)) (k1_0_0y0.map z06).length fun x57 =>
 ltx x57 (k1_0_0y0.map z06).length <| elt k1_0_0y0 x57 fun x58 =>
 bnd (zb9 n x56.fNum x58.fNum) fun x59 =>
 some (x59,0))
 <| natc a1.fOp 7
  (nat 0 (k1_0_0y0.map z06).length fun x60 =>
 ltx x60 (k1_0_0y0.map z06).length <| elt k1_0_0y0 x60 fun x61 =>
 nat (IntKind.wrap .i64 (((k1_0_0y0.map z06).length:Int)-1)) (k1_0_0y0.map z06).length fun x62 =>
 ltx x62 (k1_0_0y0.map z06).length <| elt k1_0_0y0 x62 fun x63 =>
 bnd (zb8 n x61.fNum x63.fNum) fun x64 =>
 some (x64,0))
 <| natc a1.fOp 8
  (nat 0 (k1_0_0y0.map z06).length fun x65 =>
 ltx x65 (k1_0_0y0.map z06).length <| elt k1_0_0y0 x65 fun x66 =>
 nat (IntKind.wrap .i64 (((k1_0_0y0.map z06).length:Int)-1)) (k1_0_0y0.map z06).length fun x67 =>
 ltx x67 (k1_0_0y0.map z06).length <| elt k1_0_0y0 x67 fun x68 =>
 bnd (zb7 n x66.fNum x68.fNum) fun x69 =>
 some (x69,0))
 <| natc a1.fOp 10
  (nat 0 (k1_0_0y0.map z06).length fun x70 =>
 ltx x70 (k1_0_0y0.map z06).length <| elt k1_0_0y0 x70 fun x71 =>
 nat (IntKind.wrap .i64 (((k1_0_0y0.map z06).length:Int)-1)) (k1_0_0y0.map z06).length fun x72 =>
 ltx x72 (k1_0_0y0.map z06).length <| elt k1_0_0y0 x72 fun x73 =>
 bnd (zb6 n x71.fNum x73.fNum) fun x74 =>
 some (x74,0))
 <| natc a1.fOp 11
  (nat 0 (k1_0_0y0.map z06).length fun x75 =>
 ltx x75 (k1_0_0y0.map z06).length <| elt k1_0_0y0 x75 fun x76 =>
 nat (IntKind.wrap .i64 (((k1_0_0y0.map z06).length:Int)-1)) (k1_0_0y0.map z06).length fun x77 =>
 ltx x77 (k1_0_0y0.map z06).length <| elt k1_0_0y0 x77 fun x78 =>
 bnd (zb5 n x76.fNum x78.fNum) fun x79 =>
 some (x79,0))
 <| natc a1.fOp 12
  (nat 0 (k1_0_0y0.map z06).length fun x80 =>
 ltx x80 (k1_0_0y0.map z06).length <| elt k1_0_0y0 x80 fun x81 =>
 nat (IntKind.wrap .i64 (((k1_0_0y0.map z06).length:Int)-1)) (k1_0_0y0.map z06).length fun x82 =>
 ltx x82 (k1_0_0y0.map z06).length <| elt k1_0_0y0 x82 fun x83 =>
 bnd (z84 n x81.fNum x83.fNum) fun x84 =>
 some (x84,0))
 <| none) n (0,[],[])
def zu1 (n:Nat)(a0:z0k)(a1:z0i)(a2:Int)(a3:z01):Option (z02×Int) :=
 bnd (zc0 n a0) fun x1 =>
 cnd (!decide (x1=0))
  (some (⟨0,0,ByteArray.empty⟩,x1))
 <| bnd (z3u n (⟨a1.fVars⟩:z0i) a2 a3 a0) fun x2 =>
 some (x2.1,x2.2)
def zbd (n:Nat)(w1_0:Bool):Option (Bool) :=
 some w1_0
attribute [irreducible] zbd
def zd7 (n:Nat)(a0:z0k)(a1:z0i)(a2:Int)(a3:z01):Option (Bool) :=
 bnd (zu1 n a0 (⟨a1.fVars⟩:z0i) a2 a3) fun x1 =>
 jon (zbd n) <|
 reg <| cnd (decide (x1.2=0))
  (bnd (z8w n true) fun x4 =>
  zbd n (decide (x1.1.fKind=x4.fKind) && (decide (x1.1.fNum=x4.fNum) && ((x1.1.fText.toList == x4.fText.toList) && true))))
 <| zbd n false
def z9e (n:Nat)(w1_0:Bool):Option (Bool) :=
 some w1_0
attribute [irreducible] z9e
def zdx (n:Nat)(a0:z0j)(a1:z0i)(a2:z01):Option (Bool) :=
 jon (z9e n) <|
 reg <| cnd (decide (a0.fType=a2.fType))
  (bnd (zd7 n a0.fCond (⟨a1.fVars⟩:z0i) a0.fVar a2) fun x3 =>
  z9e n x3)
 <| z9e n false
def z3f (n:Nat)(a0:z0j)(a1:z0i)(a2:z01):Option (Bool) :=
 bnd (zdx n a0 (⟨a1.fVars⟩:z0i) a2) fun x1 =>
 some x1
def z4n (n:Nat)(a1c1:z01)(a1c0:z0i)(a0:(List z0j))(k1_0_0:Option (Int)):Nat->Int->Option (Int)
 |0,_=>none
 |mv1_0+1,v1_0 =>
  cnd (decide (v1_0<((a0.map z0q).length:Int)))
   (idx a0 v1_0 fun x41 =>
   bnd (z3f n x41 (⟨a1c0.fVars⟩:z0i) a1c1) fun x42 =>
   cnd (x42)
    (some v1_0)
   <| (z4n n a1c1 a1c0 a0 k1_0_0 mv1_0) (IntKind.wrap .i64 (v1_0+1)))
  <| k1_0_0
def z8v (n:Nat)(a0:(List z0j))(a1c0:z0i)(a1c1:z01):Option (Int) :=
 z4n n a1c1 a1c0 a0
  (some (-1)) n 0
def z79 (n:Nat)(a0:(List z0j))(a1c0:z0i)(a1c1:z01):Option (Bool) :=
 bnd (z8v n a0 (⟨a1c0.fVars⟩:z0i) a1c1) fun x1 =>
 some (decide (0<=x1))
def z2v (n:Nat)(w1_0:Bool):Option (Bool) :=
 some w1_0
attribute [irreducible] z2v
def z34 (n:Nat)(a0:z0j)(a1:z0h)(a2:z0i)(a3:z01):Option (Bool) :=
 jon (z2v n) <|
 reg <| bnd (z72 n a1.fInside a0.fScope) fun x4 =>
 cnd (!(x4))
  (bnd (zdx n a0 (⟨a2.fVars⟩:z0i) a3) fun x5 =>
  z2v n x5)
 <| z2v n false
def z4m (n:Nat)(a1c2:z01)(a1c1:z0i)(a1c0:z0h)(a0:(List z0j))(k1_0_0:Option (Int)):Nat->Int->Option (Int)
 |0,_=>none
 |mv1_0+1,v1_0 =>
  cnd (decide (v1_0<((a0.map z0q).length:Int)))
   (idx a0 v1_0 fun x41 =>
   bnd (z34 n x41 a1c0 (⟨a1c1.fVars⟩:z0i) a1c2) fun x42 =>
   cnd (x42)
    (some v1_0)
   <| (z4m n a1c2 a1c1 a1c0 a0 k1_0_0 mv1_0) (IntKind.wrap .i64 (v1_0+1)))
  <| k1_0_0
def z8u (n:Nat)(a0:(List z0j))(a1c0:z0h)(a1c1:z0i)(a1c2:z01):Option (Int) :=
 z4m n a1c2 a1c1 a1c0 a0
  (some (-1)) n 0
def z78 (n:Nat)(a0:(List z0j))(a1c0:z0h)(a1c1:z0i)(a1c2:z01):Option (Bool) :=
 bnd (z8u n a0 a1c0 (⟨a1c1.fVars⟩:z0i) a1c2) fun x1 =>
 some (decide (0<=x1))
def zcc (n:Nat)(a0:z0b)(a1:Int):Option (Int) :=
 bnd (z54 n a0.fScope a1) fun x1 =>
 some x1
def z2b (n:Nat)(a1:Int)(a0:(List z0b))(k1_0_0:Int->Option (Int×Bool)):Nat->Int×Int->Option (Int×Bool)
 |0,_=>none
 |mv1_0+1,v1_0 =>
  cnd (decide (v1_0.1<v1_0.2))
   (shx (1:Int) <| idx a0 (IntKind.wrap .i64 (Int.fdiv (IntKind.wrap .u64 (IntKind.wrap .i64 (v1_0.1+v1_0.2))) (2 ^ min (Int.toNat (1:Int)) (IntKind.bits .u64)))) fun x44 =>
   bnd (zcc n x44 a1) fun x45 =>
   cnd (decide (x45<0))
    ((z2b n a1 a0 k1_0_0 mv1_0) ((IntKind.wrap .i64 ((IntKind.wrap .i64 (Int.fdiv (IntKind.wrap .u64 (IntKind.wrap .i64 (v1_0.1+v1_0.2))) (2 ^ min (Int.toNat (1:Int)) (IntKind.bits .u64))))+1)),v1_0.2))
   <| (z2b n a1 a0 k1_0_0 mv1_0) (v1_0.1,(IntKind.wrap .i64 (Int.fdiv (IntKind.wrap .u64 (IntKind.wrap .i64 (v1_0.1+v1_0.2))) (2 ^ min (Int.toNat (1:Int)) (IntKind.bits .u64))))))
  <| k1_0_0 v1_0.1
def z5e (n:Nat)(a0:(List z0b))(a1:Int):Option (Int×Bool) :=
 z2b n a1 a0
  (fun k1_0_0y=>cnd (decide (k1_0_0y<((a0.map z09).length:Int)))
  (idx a0 k1_0_0y fun x42 =>
  bnd (zcc n x42 a1) fun x43 =>
  some (k1_0_0y,decide (x43=0)))
 <| some (k1_0_0y,false)) n (0,((a0.map z09).length:Int))
def zb2 (n:Nat)(a2:Int)(a1:(List Int))(v1_0:Int×(List z0b))(cv1_0:(Int×(List z0b))->Option ((List z0b)))(x44:Int×Bool)(w3_1:(List z0b)):Option ((List z0b)) :=
 nat x44.1 (w3_1.map z09).length fun x47 =>
 ltx x47 (w3_1.map z09).length <| stx w3_1 x47 (fun x48=>⟨x48.fScope,a2⟩) fun x49 =>
 cv1_0 ((IntKind.wrap .i64 (v1_0.1+1)),x49)
attribute [irreducible] zb2
def z9r (n:Nat)(a2:Int)(a1:(List Int))(k1_0_0:(List z0b)->Option ((List z0b))):Nat->Int×(List z0b)->Option ((List z0b))
 |0,_=>none
 |mv1_0+1,v1_0 =>
  cnd (decide (v1_0.1<((a1.map aI).length:Int)))
   (idx a1 v1_0.1 fun x43 =>
   bnd (z5e n v1_0.2 x43) fun x44 =>
   jon (zb2 n a2 a1 v1_0 (z9r n a2 a1 k1_0_0 mv1_0) x44) <|
   reg <| cnd (!(x44.2))
    (bndC (zz4 n v1_0.2 x44.1 ([⟨x43,0⟩])) fun x50 =>
    zb2 n a2 a1 v1_0 (z9r n a2 a1 k1_0_0 mv1_0) x44 x50)
   <| zb2 n a2 a1 v1_0 (z9r n a2 a1 k1_0_0 mv1_0) x44 v1_0.2)
  <| k1_0_0 v1_0.2
def zir (n:Nat)(a0:(List z0b))(a1:(List Int))(a2:Int):Option ((List z0b)) :=
 bndR (zj3 n a0) fun x1 =>
 z9r n a2 a1
  (fun k1_0_0y=>some k1_0_0y) n (0,x1)
def zfw (n:Nat)(a0:z0b)(a1:z0y):Option (Bool) :=
 some (decide (a0.fScope=a1.fScope))
def z4l (n:Nat)(a1c0:z0y)(a0:(List z0b))(k1_0_0:Option (Int)):Nat->Int->Option (Int)
 |0,_=>none
 |mv1_0+1,v1_0 =>
  cnd (decide (v1_0<((a0.map z09).length:Int)))
   (idx a0 v1_0 fun x41 =>
   bnd (zfw n x41 a1c0) fun x42 =>
   cnd (x42)
    (some v1_0)
   <| (z4l n a1c0 a0 k1_0_0 mv1_0) (IntKind.wrap .i64 (v1_0+1)))
  <| k1_0_0
def z8t (n:Nat)(a0:(List z0b))(a1c0:z0y):Option (Int) :=
 z4l n a1c0 a0
  (some (-1)) n 0
def zb3 (n:Nat)(a2:Int)(a1:(List z0y))(a0:(List z0b))(v1_0:Int)(cv1_0:Int->Option (Bool))(w3_1:Bool):Option (Bool) :=
 cnd (w3_1)
  (some false)
 <| cv1_0 (IntKind.wrap .i64 (v1_0+1))
attribute [irreducible] zb3
def z9s (n:Nat)(a2:Int)(a1:(List z0y))(a0:(List z0b))(k1_0_0:Option (Bool)):Nat->Int->Option (Bool)
 |0,_=>none
 |mv1_0+1,v1_0 =>
  cnd (decide (v1_0<((a1.map z0p).length:Int)))
   (idx a1 v1_0 fun x41 =>
   bnd (z8t n a0 x41) fun x42 =>
   jon (zb3 n a2 a1 a0 v1_0 (z9s n a2 a1 a0 k1_0_0 mv1_0)) <|
   reg <| cnd (decide (x42<0))
    (zb3 n a2 a1 a0 v1_0 (z9s n a2 a1 a0 k1_0_0 mv1_0) true)
   <| idx a0 x42 fun x45 =>
   zb3 n a2 a1 a0 v1_0 (z9s n a2 a1 a0 k1_0_0 mv1_0) (decide (x41.fSpan<(IntKind.wrap .i64 (a2-x45.fTime)))))
  <| k1_0_0
def zis (n:Nat)(a0:(List z0b))(a1:(List z0y))(a2:Int):Option (Bool) :=
 z9s n a2 a1 a0
  (some true) n 0
def z51 (n:Nat)(a0:z0b)(a1:z0h):Option (Bool) :=
 bnd (z72 n a1.fCloses a0.fScope) fun x1 =>
 some x1
def z4k (n:Nat)(a1c0:z0h)(a0:(List z0b))(k1_0_0:Option (Int)):Nat->Int->Option (Int)
 |0,_=>none
 |mv1_0+1,v1_0 =>
  cnd (decide (v1_0<((a0.map z09).length:Int)))
   (idx a0 v1_0 fun x41 =>
   bnd (z51 n x41 a1c0) fun x42 =>
   cnd (x42)
    (some v1_0)
   <| (z4k n a1c0 a0 k1_0_0 mv1_0) (IntKind.wrap .i64 (v1_0+1)))
  <| k1_0_0
def z8s (n:Nat)(a0:(List z0b))(a1c0:z0h):Option (Int) :=
 z4k n a1c0 a0
  (some (-1)) n 0
def z3l (n:Nat)(a0:z0b)(m0:z0h):Option (Bool×z0h) :=
 bnd (z72 n m0.fCloses a0.fScope) fun x1 =>
 some (x1,m0)
def z5t (n:Nat)(k1_0_0:Int->Int->Int->Int->Int->Int->(List AV)->Int->Int->Int->Int->Int->ByteArray->(List Int)->(List Int)->(List AV)->(List z0y)->(List Int)->(List z0b)->Option ((List z0b)×z0h)):Nat->Int×Int×Int×Int×Int×Int×Int×(List AV)×Int×Int×Int×Int×Int×ByteArray×(List Int)×(List Int)×(List AV)×(List z0y)×(List Int)×(List z0b)->Option ((List z0b)×z0h)
 |0,_=>none
 |mv1_0+1,v1_0 =>
  cnd (decide (v1_0.2.1<((v1_0.2.2.2.2.2.2.2.2.2.2.2.2.2.2.2.2.2.2.2.map z09).length:Int)))
   (nat v1_0.2.1 (v1_0.2.2.2.2.2.2.2.2.2.2.2.2.2.2.2.2.2.2.2.map z09).length fun x64 =>
   elt v1_0.2.2.2.2.2.2.2.2.2.2.2.2.2.2.2.2.2.2.2 x64 fun x65 =>
   bndM 28 (z3l n x65 (⟨v1_0.2.2.1,v1_0.2.2.2.1,v1_0.2.2.2.2.1,v1_0.2.2.2.2.2.1,⟨v1_0.2.2.2.2.2.2.1,v1_0.2.2.2.2.2.2.2.1,v1_0.2.2.2.2.2.2.2.2.1,v1_0.2.2.2.2.2.2.2.2.2.1,v1_0.2.2.2.2.2.2.2.2.2.2.1,⟨v1_0.2.2.2.2.2.2.2.2.2.2.2.1,v1_0.2.2.2.2.2.2.2.2.2.2.2.2.1,v1_0.2.2.2.2.2.2.2.2.2.2.2.2.2.1⟩⟩,v1_0.2.2.2.2.2.2.2.2.2.2.2.2.2.2.1,v1_0.2.2.2.2.2.2.2.2.2.2.2.2.2.2.2.1,v1_0.2.2.2.2.2.2.2.2.2.2.2.2.2.2.2.2.1,v1_0.2.2.2.2.2.2.2.2.2.2.2.2.2.2.2.2.2.1,v1_0.2.2.2.2.2.2.2.2.2.2.2.2.2.2.2.2.2.2.1⟩:z0h)) fun x66 =>
   cnd (!(x66.1))
    (nat v1_0.1 (v1_0.2.2.2.2.2.2.2.2.2.2.2.2.2.2.2.2.2.2.2.map z09).length fun x67 =>
    stx v1_0.2.2.2.2.2.2.2.2.2.2.2.2.2.2.2.2.2.2.2 x67 (fun x68=>x65) fun x69 =>
    (z5t n k1_0_0 mv1_0) ((IntKind.wrap .i64 (v1_0.1+1)),(IntKind.wrap .i64 (v1_0.2.1+1)),x66.2.fFrom,x66.2.fTo,x66.2.fVar,x66.2.fType,x66.2.fCond.fOp,x66.2.fCond.fArgs,x66.2.fCond.fVar,x66.2.fCond.fField,x66.2.fCond.fKind,x66.2.fCond.fValue.fKind,x66.2.fCond.fValue.fNum,x66.2.fCond.fValue.fText,x66.2.fOpens,x66.2.fCloses,x66.2.fChecks,x66.2.fLimits,x66.2.fInside,x69))
   <| (z5t n k1_0_0 mv1_0) (v1_0.1,(IntKind.wrap .i64 (v1_0.2.1+1)),x66.2.fFrom,x66.2.fTo,x66.2.fVar,x66.2.fType,x66.2.fCond.fOp,x66.2.fCond.fArgs,x66.2.fCond.fVar,x66.2.fCond.fField,x66.2.fCond.fKind,x66.2.fCond.fValue.fKind,x66.2.fCond.fValue.fNum,x66.2.fCond.fValue.fText,x66.2.fOpens,x66.2.fCloses,x66.2.fChecks,x66.2.fLimits,x66.2.fInside,v1_0.2.2.2.2.2.2.2.2.2.2.2.2.2.2.2.2.2.2.2))
  <| k1_0_0 v1_0.1 v1_0.2.2.1 v1_0.2.2.2.1 v1_0.2.2.2.2.1 v1_0.2.2.2.2.2.1 v1_0.2.2.2.2.2.2.1 v1_0.2.2.2.2.2.2.2.1 v1_0.2.2.2.2.2.2.2.2.1 v1_0.2.2.2.2.2.2.2.2.2.1 v1_0.2.2.2.2.2.2.2.2.2.2.1 v1_0.2.2.2.2.2.2.2.2.2.2.2.1 v1_0.2.2.2.2.2.2.2.2.2.2.2.2.1 v1_0.2.2.2.2.2.2.2.2.2.2.2.2.2.1 v1_0.2.2.2.2.2.2.2.2.2.2.2.2.2.2.1 v1_0.2.2.2.2.2.2.2.2.2.2.2.2.2.2.2.1 v1_0.2.2.2.2.2.2.2.2.2.2.2.2.2.2.2.2.1 v1_0.2.2.2.2.2.2.2.2.2.2.2.2.2.2.2.2.2.1 v1_0.2.2.2.2.2.2.2.2.2.2.2.2.2.2.2.2.2.2.1 v1_0.2.2.2.2.2.2.2.2.2.2.2.2.2.2.2.2.2.2.2
def zb1 (n:Nat)(m0:z0h)(m1:(List z0b)):Option ((List z0b)×z0h) :=
 bnd (z8s n m1 m0) fun x1 =>
 cnd (decide (x1=(-1)))
  (some (m1,m0))
 <| z5t n
  (fun k1_0_0y0 k1_0_0y1 k1_0_0y2 k1_0_0y3 k1_0_0y4 k1_0_0y5 k1_0_0y6 k1_0_0y7 k1_0_0y8 k1_0_0y9 k1_0_0y10 k1_0_0y11 k1_0_0y12 k1_0_0y13 k1_0_0y14 k1_0_0y15 k1_0_0y16 k1_0_0y17 k1_0_0y18=>nle k1_0_0y0 (k1_0_0y18.map z09).length fun x61 =>
 clr k1_0_0y18 x61 (⟨0,0⟩:z0b) fun x62 =>
 sls x62 0 k1_0_0y0 fun x63 =>
 some (x63,⟨k1_0_0y1,k1_0_0y2,k1_0_0y3,k1_0_0y4,⟨k1_0_0y5,k1_0_0y6,k1_0_0y7,k1_0_0y8,k1_0_0y9,⟨k1_0_0y10,k1_0_0y11,k1_0_0y12⟩⟩,k1_0_0y13,k1_0_0y14,k1_0_0y15,k1_0_0y16,k1_0_0y17⟩)) n (x1,(IntKind.wrap .i64 (x1+1)),m0.fFrom,m0.fTo,m0.fVar,m0.fType,m0.fCond.fOp,m0.fCond.fArgs,m0.fCond.fVar,m0.fCond.fField,m0.fCond.fKind,m0.fCond.fValue.fKind,m0.fCond.fValue.fNum,m0.fCond.fValue.fText,m0.fOpens,m0.fCloses,m0.fChecks,m0.fLimits,m0.fInside,m1)
def z6c (n:Nat)(a4:z01)(a2:z0h)(a1:z00)(x5:(List z0b))(x12:(List (List z01)))(k1_1_0:(List z0b)->Option (z00×Bool)):Nat->Int->Option (z00×Bool)
 |0,_=>none
 |mv1_1+1,v1_1 =>
  cnd (decide (v1_1<((a2.fChecks.map idA).length:Int)))
   (idxD z37 a2.fChecks v1_1 fun x58 =>
   bnd (zd7 n x58 (⟨x12⟩:z0i) (-1) (⟨0,0,0,0,[]⟩:z01)) fun x59 =>
   cnd (!(x59))
    (some (⟨0,[],[]⟩,false))
   <| (z6c n a4 a2 a1 x5 x12 k1_1_0 mv1_1) (IntKind.wrap .i64 (v1_1+1)))
  <| k1_1_0 x5
def z1o (n:Nat)(a4:z01)(a3:z0i)(a2:z0h)(a1:z00)(w1_0:Bool):Option (z00×Bool) :=
 cnd (w1_0)
  (some (⟨0,[],[]⟩,false))
 <| bndR (zir n a1.fStarts a2.fOpens a4.fTime) fun x5 =>
 bnd (zis n x5 a2.fLimits a4.fTime) fun x6 =>
 cnd (!(x6))
  (some (⟨0,[],[]⟩,false))
 <| bndR (zj3 n a3.fVars) fun x7 =>
 idx a3.fVars a2.fVar fun x8 =>
 bndR (zj3 n x8) fun x9 =>
 app x9 [a4] 56 fun x10 =>
 nat a2.fVar (List.map (fun q=>AV.sl 5 (List.map z04 q)) (x7)).length fun x11 =>
 stx x7 x11 (fun _=>x10) fun x12 =>
 z6c n a4 a2 a1 x5 x12
  (fun k1_1_0y=>bndM 96 (zb1 n a2 k1_1_0y) fun x54 =>
 bndR (zj3 n a1.fBindings) fun x55 =>
 bnd (zrr n a4) fun x56 =>
 app x55 ([⟨x54.2.fVar,⟨x56.fTime,x56.fSource,x56.fSeq⟩⟩]) 32 fun x57 =>
 some (⟨x54.2.fTo,x57,x54.1⟩,true)) n 0
attribute [irreducible] z1o
def z8g (n:Nat)(a0:z0s)(a1:z00)(a2:z0h)(a3:z0i)(a4:z01):Option (z00×Bool) :=
 jon (z1o n a4 a3 a2 a1) <|
 reg <| cnd (!decide (a4.fType=a2.fType))
  (z1o n a4 a3 a2 a1 true)
 <| idx a0.fa.fStates a1.fState fun x60 =>
 bnd (z78 n x60.fGuards a2 (⟨a3.fVars⟩:z0i) a4) fun x61 =>
 cnd (x61)
  (z1o n a4 a3 a2 a1 true)
 <| bnd (zd7 n a2.fCond (⟨a3.fVars⟩:z0i) a2.fVar a4) fun x62 =>
 z1o n a4 a3 a2 a1 !(x62)
def z1f (n:Nat)(m4:z01)(m3:z00)(m2:z0s)(x1:z0i)(k1_0_0:(List z00)->(List z03)->Option ((List z00)×(List z03)×z0s×z00×z01)):Nat->Int×(List z00)×(List z03)->Option ((List z00)×(List z03)×z0s×z00×z01)
 |0,_=>none
 |mv1_0+1,v1_0 =>
  cnd (decide (v1_0.1<((m2.fa.fEdges.map z0d).length:Int)))
   (idx m2.fa.fEdges v1_0.1 fun x47 =>
   cnd (!decide (x47.fFrom=m3.fState))
    ((z1f n m4 m3 m2 x1 k1_0_0 mv1_0) ((IntKind.wrap .i64 (v1_0.1+1)),v1_0.2.1,v1_0.2.2))
   <| bnd (z8g n m2 m3 x47 (⟨x1.fVars⟩:z0i) m4) fun x48 =>
   cnd (x48.2)
    (bndM 63 (z6e n x48.1 v1_0.2.1 v1_0.2.2) fun x49 =>
    (z1f n m4 m3 m2 x1 k1_0_0 mv1_0) ((IntKind.wrap .i64 (v1_0.1+1)),x49.1,x49.2))
   <| (z1f n m4 m3 m2 x1 k1_0_0 mv1_0) ((IntKind.wrap .i64 (v1_0.1+1)),v1_0.2.1,v1_0.2.2))
  <| k1_0_0 v1_0.2.1 v1_0.2.2
def z1e (n:Nat)(m4:z01)(m3:z00)(m2:z0s)(x1:z0i)(k2_1_0:(List z00)->(List z03)->Option ((List z00)×(List z03)×z0s×z00×z01)):Nat->Int×(List z00)×(List z03)->Option ((List z00)×(List z03)×z0s×z00×z01)
 |0,_=>none
 |mv2_1+1,v2_1 =>
  cnd (decide (v2_1.1<((m2.fa.fEdges.map z0d).length:Int)))
   (idx m2.fa.fEdges v2_1.1 fun x92 =>
   cnd (!decide (x92.fFrom=m3.fState))
    ((z1e n m4 m3 m2 x1 k2_1_0 mv2_1) ((IntKind.wrap .i64 (v2_1.1+1)),v2_1.2.1,v2_1.2.2))
   <| bnd (z8g n m2 m3 x92 (⟨x1.fVars⟩:z0i) m4) fun x93 =>
   cnd (x93.2)
    (bndM 63 (z6e n x93.1 v2_1.2.1 v2_1.2.2) fun x94 =>
    (z1e n m4 m3 m2 x1 k2_1_0 mv2_1) ((IntKind.wrap .i64 (v2_1.1+1)),x94.1,x94.2))
   <| (z1e n m4 m3 m2 x1 k2_1_0 mv2_1) ((IntKind.wrap .i64 (v2_1.1+1)),v2_1.2.1,v2_1.2.2))
  <| k2_1_0 v2_1.2.1 v2_1.2.2
def z5y (n:Nat)(m0:(List z00))(m1:(List z03))(m2:z0s)(m3:z00)(m4:z01):Option ((List z00)×(List z03)×z0s×z00×z01) :=
 bnd (zct n m2 m3.fBindings) fun x1 =>
 idx m2.fa.fStates m3.fState fun x2 =>
 bnd (z79 n x2.fGuards (⟨x1.fVars⟩:z0i) m4) fun x3 =>
 cnd (!(x3))
  (bndM 32 (z6e n m3 m0 m1) fun x4 =>
  z1f n m4 m3 m2 x1
   (fun k1_0_0y0 k1_0_0y1=>some (k1_0_0y0,k1_0_0y1,m2,m3,m4)) n (0,x4.1,x4.2))
 <| z1e n m4 m3 m2 x1
  (fun k2_1_0y0 k2_1_0y1=>some (k2_1_0y0,k2_1_0y1,m2,m3,m4)) n (0,m0,m1)
def zal (n:Nat)(a0:z03)(a1:z03):Option (Bool) :=
 bnd (zcx n (⟨a0.fBindings⟩:z03) (⟨a1.fBindings⟩:z03)) fun x1 =>
 some (decide (x1=0))
def z2a (n:Nat)(x46:Nat)(k2_1_0:Int->(List z03)->Option ((List z03))):Nat->Int×Int×(List z03)->Option ((List z03))
 |0,_=>none
 |mv2_1+1,v2_1 =>
  gle x46 (v2_1.2.2.map z0g).length <|
  cnd (decide (v2_1.2.1<((((v2_1.2.2.map z0g).length-x46:Nat)):Int)))
   (nat v2_1.2.1 ((v2_1.2.2.map z0g).length-x46) fun x92 =>
   elt v2_1.2.2 (x46+x92) fun x93 =>
   nat (IntKind.wrap .i64 (v2_1.2.1-1)) ((v2_1.2.2.map z0g).length-x46) fun x94 =>
   elt v2_1.2.2 (x46+x94) fun x95 =>
   bnd (zal n (⟨x93.fBindings⟩:z03) (⟨x95.fBindings⟩:z03)) fun x96 =>
   cnd (!(x96))
    (nat v2_1.2.1 ((v2_1.2.2.map z0g).length-x46) fun x97 =>
    elt v2_1.2.2 (x46+x97) fun x98 =>
    nat v2_1.1 (v2_1.2.2.map z0g).length fun x99 =>
    stx v2_1.2.2 x99 (fun x100=>⟨x98.fBindings⟩) fun x101 =>
    (z2a n x46 k2_1_0 mv2_1) ((IntKind.wrap .i64 (v2_1.1+1)),(IntKind.wrap .i64 (v2_1.2.1+1)),x101))
   <| (z2a n x46 k2_1_0 mv2_1) (v2_1.1,(IntKind.wrap .i64 (v2_1.2.1+1)),v2_1.2.2))
  <| k2_1_0 v2_1.1 v2_1.2.2
def z3k (n:Nat)(m0:(List z03))(k1_0_0:Option ((List z03))):Nat->Int->Option ((List z03))
 |0,_=>none
 |mv1_0+1,v1_0 =>
  cnd (decide (v1_0<((m0.map z0g).length:Int)))
   (nat v1_0 (m0.map z0g).length fun x41 =>
   elt m0 x41 fun x42 =>
   nat (IntKind.wrap .i64 (v1_0-1)) (m0.map z0g).length fun x43 =>
   elt m0 x43 fun x44 =>
   bnd (zal n (⟨x42.fBindings⟩:z03) (⟨x44.fBindings⟩:z03)) fun x45 =>
   cnd (x45)
    (nle v1_0 (m0.map z0g).length fun x46 =>
    z2a n x46
     (fun k2_1_0y0 k2_1_0y1=>nle k2_1_0y0 (k2_1_0y1.map z0g).length fun x89 =>
    clr k2_1_0y1 x89 (⟨[]⟩:z03) fun x90 =>
    sls x90 0 k2_1_0y0 fun x91 =>
    some x91) n (v1_0,1,m0))
   <| (z3k n m0 k1_0_0 mv1_0) (IntKind.wrap .i64 (v1_0+1)))
  <| k1_0_0
def z7y (n:Nat)(m0:(List z03)):Option ((List z03)) :=
 cnd (decide (((m0.map z0g).length:Int)<2))
  (some m0)
 <| z3k n m0
  (some m0) n 1
def z9f (n:Nat)(m0:(List z03)):Option ((List z03)) :=
 bndC (zyq maOk z6t n m0) fun x1 =>
 frb 3 <| reg <| bndM 10 (z7y n x1) fun x2 =>
 some x2
def z6d (n:Nat)(a2:z01)(a1:(List z00))(a0:z0s)(k1_0_0:(List z00)->(List z03)->Option ((List z00)×(List z03))):Nat->Int×(List z00)×(List z03)->Option ((List z00)×(List z03))
 |0,_=>none
 |mv1_0+1,v1_0 =>
  cnd (decide (v1_0.1<((a1.map z0e).length:Int)))
   (idx a1 v1_0.1 fun x45 =>
   bndM 22 (zby n a0 x45 a2) fun x46 =>
   bndM 810 (z5y n v1_0.2.1 v1_0.2.2 x46.1 x46.2.1 x46.2.2) fun x49 =>
   (z6d n a2 a1 a0 k1_0_0 mv1_0) ((IntKind.wrap .i64 (v1_0.1+1)),x49.1,x49.2.1))
  <| k1_0_0 v1_0.2.1 v1_0.2.2
def z9q (n:Nat)(a0:z0s)(a1:(List z00))(a2:z01):Option ((List z00)×(List z03)) :=
 z6d n a2 a1 a0
  (fun k1_0_0y0 k1_0_0y1=>bndM 39 (ziq n k1_0_0y0) fun x43 =>
 bndM 41 (z9f n k1_0_0y1) fun x44 =>
 some (x43,x44)) n (0,[],[])
def zd5 (n:Nat)(a1:(List z01))(x2:z0s)(v2_1:(List z00)×Int×(List z03))(cv2_1:(List z00)×Int×(List z03)->Option ((List z00)×(List z03)×Int))(x49:(List z00)×(List z03))(w3_2:Bool):Option ((List z00)×(List z03)×Int) :=
 cnd (w3_2)
  (some ([],[],17))
 <| app v2_1.2.2 x49.2 24 fun x51 =>
 cv2_1 (x49.1,(IntKind.wrap .i64 (v2_1.2.1+1)),x51)
attribute [irreducible] zd5
def zbz (n:Nat)(a1:(List z01))(x2:z0s)(k2_1_0:(List z00)->(List z03)->Option ((List z00)×(List z03)×Int)):Nat->(List z00)×Int×(List z03)->Option ((List z00)×(List z03)×Int)
 |0,_=>none
 |mv2_1+1,v2_1 =>
  cnd (decide (v2_1.2.1<((a1.map z04).length:Int)))
   (idx a1 v2_1.2.1 fun x48 =>
   bnd (z9q n x2 v2_1.1 x48) fun x49 =>
   jon (zd5 n a1 x2 v2_1 (zbz n a1 x2 k2_1_0 mv2_1) x49) <|
   reg <| cnd (decide (4096<((x49.1.map z0e).length:Int)))
    (zd5 n a1 x2 v2_1 (zbz n a1 x2 k2_1_0 mv2_1) x49 true)
   <| cnd (decide (4096<((x49.2.map z0g).length:Int)))
    (zd5 n a1 x2 v2_1 (zbz n a1 x2 k2_1_0 mv2_1) x49 true)
   <| zd5 n a1 x2 v2_1 (zbz n a1 x2 k2_1_0 mv2_1) x49 (decide (4096<(IntKind.wrap .i64 (((v2_1.2.2.map z0g).length:Int)+((x49.2.map z0g).length:Int))))))
  <| k2_1_0 v2_1.1 v2_1.2.2
def zh5 (n:Nat)(a0:z05)(a1:(List z01)):Option ((List z00)×(List z03)×Int) :=
 bndP (zhx n a0 a1) (fun r=>r.1)
  (fun x1 =>
 cnd (!decide (x1.2=0))
  (some ([],[],x1.2))
 <| bnd (zlp n) fun x3 =>
 none) fun x1 x2 =>
 cnd (!decide (x1.2=0))
  (some ([],[],x1.2))
 <| bnd (zlp n) fun x4 =>
 zbz n a1 x2
  (fun k2_1_0y0 k2_1_0y1=>bndM 62 (z9f n k2_1_0y1) fun x47 =>
 some (k2_1_0y0,x47,0)) n ([x4],0,[])
def z8l (n:Nat):Option (z05) :=
 bnd (z1a n true) fun x1 =>
 mak 2 24 (⟨[]⟩:z2r) fun x2 =>
 bld ([⟨0,1,0,0,⟨0,[],0,0,0,x1⟩,[],[],[],[],[]⟩,⟨1,(-1),1,0,⟨0,[],0,0,0,x1⟩,[],[],[],[],[]⟩]:List z0h) fun x3 =>
 some (⟨3,1,x2,x3⟩)
def zk4 (n:Nat)(a0:z05)(a1:(List z01)):Option ((List z03)×Int) :=
 bnd (zh5 n a0 a1) fun x1 =>
 some (x1.2.1,x1.2.2)
def z1p (n:Nat)(a0:z01):Option (z1g) :=
 some (⟨a0.fTime,a0.fSource,a0.fSeq⟩)
def z7c (n:Nat)(a0:Int)(a1:Int):Option (z03) :=
 bnd (z2h n a0 0) fun x1 =>
 bnd (z1p n x1) fun x2 =>
 bnd (z2h n a1 0) fun x3 =>
 bnd (z1p n x3) fun x4 =>
 some (⟨[⟨0,⟨x2.fTime,x2.fSource,x2.fSeq⟩⟩,⟨1,⟨x4.fTime,x4.fSource,x4.fSeq⟩⟩]⟩)
def z6x (n:Nat)(a1:(List z03))(a0:(List z03))(k1_0_0:Option (Bool)):Nat->Int->Option (Bool)
 |0,_=>none
 |mv1_0+1,v1_0 =>
  cnd (decide (v1_0<((a0.map z0g).length:Int)))
   (idx a0 v1_0 fun x41 =>
   idx a1 v1_0 fun x42 =>
   bnd (z2x n (⟨x41.fBindings⟩:z03) (⟨x42.fBindings⟩:z03)) fun x43 =>
   cnd (!decide (x43=0))
    (some false)
   <| (z6x n a1 a0 k1_0_0 mv1_0) (IntKind.wrap .i64 (v1_0+1)))
  <| k1_0_0
def z7a (n:Nat)(a0:(List z03))(a1:(List z03)):Option (Bool) :=
 cnd (!decide (((a0.map z0g).length:Int)=((a1.map z0g).length:Int)))
  (some false)
 <| z6x n a1 a0
  (some true) n 0
def z6b (n:Nat)(w2_1:Bool):Option (Bool) :=
 some w2_1
attribute [irreducible] z6b
def z1d (n:Nat)(x5:(List z00)×(List z03)×Int)(x23:(List z03)×Int)(w1_0:Bool):Option (Bool) :=
 cnd (w1_0)
  (some false)
 <| jon (z6b n) <|
 reg <| bnd (z7c n 1 2) fun x35 =>
 bnd (z7c n 1 3) fun x36 =>
 bnd (z7c n 2 3) fun x37 =>
 bnd (z7a n x5.2.1 ([⟨x35.fBindings⟩,⟨x36.fBindings⟩,⟨x37.fBindings⟩])) fun x38 =>
 cnd (x38)
  (bnd (z7c n 1 2) fun x39 =>
  bnd (z7c n 2 3) fun x40 =>
  bnd (z7a n x23.1 ([⟨x39.fBindings⟩,⟨x40.fBindings⟩])) fun x41 =>
  z6b n x41)
 <| z6b n false
attribute [irreducible] z1d
def z4a (n:Nat):Option (Bool) :=
 bnd (z2h n 1 0) fun x1 =>
 bnd (z2h n 2 0) fun x2 =>
 bnd (z2h n 3 0) fun x3 =>
 bnd (zdq n) fun x4 =>
 bnd (zh5 n x4 ([x1,x2,x3])) fun x5 =>
 bndM 22 (z8l n) fun x6 =>
 nat 0 (x6.fEdges.map z0d).length fun x7 =>
 ltx x7 (x6.fEdges.map z0d).length <| elt x6.fEdges x7 fun x8 =>
 nat 1 (x6.fStates.map z0c).length fun x9 =>
 ltx x9 (x6.fStates.map z0c).length <| stx x6.fStates x9 (fun x10=>⟨[⟨0,1,2,x8.fCond⟩]⟩) fun x11 =>
 frz 23000000 <| frz 23000001 <| reg <| bnd (z2h n 1 0) fun x12 =>
 bnd (z2h n 2 1) fun x13 =>
 bnd (z2h n 3 0) fun x14 =>
 bnd (zk4 n (⟨x6.fVars,x6.fScopes,x11,x6.fEdges⟩:z05) ([x12,x13,x14])) fun x15 =>
 bndM 43 (z8l n) fun x16 =>
 nat 0 (x16.fEdges.map z0d).length fun x17 =>
 ltx x17 (x16.fEdges.map z0d).length <| stx x16.fEdges x17 (fun x18=>⟨x18.fFrom,x18.fTo,x18.fVar,x18.fType,x18.fCond,[0],x18.fCloses,x18.fChecks,x18.fLimits,x18.fInside⟩) fun x19 =>
 nat 1 (x19.map z0d).length fun x20 =>
 ltx x20 (x19.map z0d).length <| stx x19 x20 (fun x21=>⟨x21.fFrom,x21.fTo,x21.fVar,x21.fType,x21.fCond,x21.fOpens,x21.fCloses,x21.fChecks,[⟨0,1⟩],x21.fInside⟩) fun x22 =>
 frz 44000000 <| frz 44000001 <| reg <| bnd (zk4 n (⟨x16.fVars,x16.fScopes,x16.fStates,x22⟩:z05) ([x1,x2,x3])) fun x23 =>
 jon (z1d n x5 x23) <|
 reg <| cnd (!decide (x5.2.2=0))
  (z1d n x5 x23 true)
 <| cnd (!decide (x15.2=0))
  (z1d n x5 x23 true)
 <| cnd (!decide (x23.2=0))
  (z1d n x5 x23 true)
 <| cnd (!decide (((x5.1.map z0e).length:Int)=4))
  (z1d n x5 x23 true)
 <| cnd (!decide (((x15.1.map z0g).length:Int)=0))
  (z1d n x5 x23 true)
 <| idx x5.1 0 fun x42 =>
 cnd (!decide (x42.fState=0))
  (z1d n x5 x23 true)
 <| idx x5.1 3 fun x43 =>
 z1d n x5 x23 (!decide (x43.fState=1))
def z6v (n:Nat)(a1:(List z00))(a0:(List z00))(k1_0_0:Option (Bool)):Nat->Int->Option (Bool)
 |0,_=>none
 |mv1_0+1,v1_0 =>
  cnd (decide (v1_0<((a0.map z0e).length:Int)))
   (idx a0 v1_0 fun x41 =>
   idx a1 v1_0 fun x42 =>
   bnd (z4s n x41 x42) fun x43 =>
   cnd (!decide (x43=0))
    (some false)
   <| (z6v n a1 a0 k1_0_0 mv1_0) (IntKind.wrap .i64 (v1_0+1)))
  <| k1_0_0
def za1 (n:Nat)(a0:(List z00))(a1:(List z00)):Option (Bool) :=
 cnd (!decide (((a0.map z0e).length:Int)=((a1.map z0e).length:Int)))
  (some false)
 <| z6v n a1 a0
  (some true) n 0
def z5r (n:Nat)(w1_0:Bool):Option (Bool) :=
 some w1_0
attribute [irreducible] z5r
def z83 (n:Nat)(a0:z0k):Option (Bool) :=
 jon (z5r n) <|
 reg <| bnd (z31 n a0 200) fun x4 =>
 cnd (decide (x4<=200))
  (bnd (z30 n a0) fun x5 =>
  z5r n (decide (x5<=100)))
 <| z5r n false
def z7m (n:Nat)(a0:(List z0j))(k1_0_0:Option (Bool)):Nat->Int->Option (Bool)
 |0,_=>none
 |mv1_0+1,v1_0 =>
  cnd (decide (v1_0<((a0.map z0q).length:Int)))
   (idx a0 v1_0 fun x41 =>
   bnd (z83 n x41.fCond) fun x42 =>
   cnd (!(x42))
    (some false)
   <| (z7m n a0 k1_0_0 mv1_0) (IntKind.wrap .i64 (v1_0+1)))
  <| k1_0_0
def zau (n:Nat)(a0:(List z0j)):Option (Bool) :=
 z7m n a0
  (some true) n 0
def z5o (n:Nat)(w9_2:Bool):Option (Bool) :=
 some w9_2
attribute [irreducible] z5o
def z7n (n:Nat)(a0:z05)(v2_1:Int)(x83:z0h)(k3_5_0:Option (Bool)):Nat->Int->Option (Bool)
 |0,_=>none
 |mv3_5+1,v3_5 =>
  cnd (decide (v3_5<((x83.fChecks.map idA).length:Int)))
   (idxD z37 x83.fChecks v3_5 fun x126 =>
   bnd (z83 n x126) fun x127 =>
   cnd (!(x127))
    (some false)
   <| (z7n n a0 v2_1 x83 k3_5_0 mv3_5) (IntKind.wrap .i64 (v3_5+1)))
  <| k3_5_0
def z1i (n:Nat)(a0:z05)(v2_1:Int)(cv2_1:Int->Option (Bool))(x83:z0h)(w11_4:Bool):Option (Bool) :=
 cnd (w11_4)
  (some false)
 <| z7n n a0 v2_1 x83
  (cv2_1 (IntKind.wrap .i64 (v2_1+1))) n 0
attribute [irreducible] z1i
def z4v (n:Nat)(a0:z05)(v2_1:Int)(k2_1_0:Option (Bool))(cv2_1:Int->Option (Bool))(w10_3:Bool):Option (Bool) :=
 cnd (w10_3)
  (idx a0.fEdges v2_1 fun x83 =>
  jon (z1i n a0 v2_1 cv2_1 x83) <|
  reg <| bnd (z83 n x83.fCond) fun x128 =>
  cnd (!(x128))
   (z1i n a0 v2_1 cv2_1 x83 true)
  <| cnd (decide (8<((x83.fChecks.map idA).length:Int)))
   (z1i n a0 v2_1 cv2_1 x83 true)
  <| cnd (decide (12<((x83.fOpens.map aI).length:Int)))
   (z1i n a0 v2_1 cv2_1 x83 true)
  <| cnd (decide (12<((x83.fCloses.map aI).length:Int)))
   (z1i n a0 v2_1 cv2_1 x83 true)
  <| cnd (decide (12<((x83.fInside.map aI).length:Int)))
   (z1i n a0 v2_1 cv2_1 x83 true)
  <| z1i n a0 v2_1 cv2_1 x83 (decide (12<((x83.fLimits.map z0p).length:Int))))
 <| k2_1_0
attribute [irreducible] z4v
def z3q (n:Nat)(a0:z05)(k2_1_0:Option (Bool)):Nat->Int->Option (Bool)
 |0,_=>none
 |mv2_1+1,v2_1 =>
  jon (z4v n a0 v2_1 k2_1_0 (z3q n a0 k2_1_0 mv2_1)) <|
  reg <| cnd (decide (v2_1<((a0.fEdges.map z0d).length:Int)))
   (z4v n a0 v2_1 k2_1_0 (z3q n a0 k2_1_0 mv2_1) (decide (v2_1<60)))
  <| z4v n a0 v2_1 k2_1_0 (z3q n a0 k2_1_0 mv2_1) false
def z1r (n:Nat)(a0:z05)(v1_0:Int)(cv1_0:Int->Option (Bool))(w13_7:Bool):Option (Bool) :=
 cnd (w13_7)
  (some false)
 <| cv1_0 (IntKind.wrap .i64 (v1_0+1))
attribute [irreducible] z1r
def z4u (n:Nat)(a0:z05)(v1_0:Int)(k1_0_0:Option (Bool))(cv1_0:Int->Option (Bool))(w12_6:Bool):Option (Bool) :=
 cnd (w12_6)
  (jon (z1r n a0 v1_0 cv1_0) <|
  reg <| idx a0.fStates v1_0 fun x139 =>
  cnd (decide (12<((x139.fGuards.map z0q).length:Int)))
   (idx a0.fStates v1_0 fun x140 =>
   cnd (decide (((x140.fGuards.map z0q).length:Int)<=64))
    (z1r n a0 v1_0 cv1_0 true)
   <| idx a0.fStates v1_0 fun x141 =>
   cnd (decide (70<((x141.fGuards.map z0q).length:Int)))
    (z1r n a0 v1_0 cv1_0 true)
   <| idx a0.fStates v1_0 fun x142 =>
   bnd (zau n x142.fGuards) fun x143 =>
   z1r n a0 v1_0 cv1_0 !(x143))
  <| idx a0.fStates v1_0 fun x144 =>
  cnd (decide (70<((x144.fGuards.map z0q).length:Int)))
   (z1r n a0 v1_0 cv1_0 true)
  <| idx a0.fStates v1_0 fun x145 =>
  bnd (zau n x145.fGuards) fun x146 =>
  z1r n a0 v1_0 cv1_0 !(x146))
 <| k1_0_0
attribute [irreducible] z4u
def z3r (n:Nat)(a0:z05)(k1_0_0:Option (Bool)):Nat->Int->Option (Bool)
 |0,_=>none
 |mv1_0+1,v1_0 =>
  jon (z4u n a0 v1_0 k1_0_0 (z3r n a0 k1_0_0 mv1_0)) <|
  reg <| cnd (decide (v1_0<((a0.fStates.map z0c).length:Int)))
   (z4u n a0 v1_0 k1_0_0 (z3r n a0 k1_0_0 mv1_0) (decide (v1_0<30)))
  <| z4u n a0 v1_0 k1_0_0 (z3r n a0 k1_0_0 mv1_0) false
def zav (n:Nat)(a0:z05):Option (Bool) :=
 z3r n a0
  (z3q n a0
  (jon (z5o n) <|
 reg <| cnd (decide (((a0.fStates.map z0c).length:Int)<=20))
  (z5o n (decide (((a0.fEdges.map z0d).length:Int)<=40)))
 <| z5o n false) n 0) n 0
def z7t (n:Nat)(a0:(List z02))(k1_0_0:Option (Bool)):Nat->Int->Option (Bool)
 |0,_=>none
 |mv1_0+1,v1_0 =>
  cnd (decide (v1_0<((a0.map z06).length:Int)))
   (cnd (decide (v1_0<40))
     (idx a0 v1_0 fun x41 =>
     cnd (decide (128<((x41.fText.size:Nat):Int)))
      (some false)
     <| (z7t n a0 k1_0_0 mv1_0) (IntKind.wrap .i64 (v1_0+1)))
   <| k1_0_0)
  <| k1_0_0
def zb0 (n:Nat)(a0:(List z02)):Option (Bool) :=
 z7t n a0
  (some (decide (((a0.map z06).length:Int)<40))) n 0
def z7s (n:Nat)(a0:(List z01))(k1_0_0:Option (Bool)):Nat->Int->Option (Bool)
 |0,_=>none
 |mv1_0+1,v1_0 =>
  cnd (decide (v1_0<((a0.map z04).length:Int)))
   (cnd (decide (v1_0<20))
     (idx a0 v1_0 fun x41 =>
     cnd (decide (12<((x41.fValues.map z06).length:Int)))
      (some false)
     <| idx a0 v1_0 fun x42 =>
     bnd (zb0 n x42.fValues) fun x43 =>
     cnd (!(x43))
      (some false)
     <| (z7s n a0 k1_0_0 mv1_0) (IntKind.wrap .i64 (v1_0+1)))
   <| k1_0_0)
  <| k1_0_0
def zaz (n:Nat)(a0:(List z01)):Option (Bool) :=
 z7s n a0
  (some (decide (((a0.map z04).length:Int)<=12))) n 0
def z7q (n:Nat)(a0:z01):Option (Bool) :=
 cnd (decide (0<=a0.fTime))
  (cnd (decide (a0.fTime<=1099511627776))
    (cnd (decide (0<=a0.fSource))
      (cnd (decide (a0.fSource<8))
        (cnd (decide (0<=a0.fSeq))
          (some (decide (a0.fSeq<=1099511627776)))
        <| some false)
      <| some false)
    <| some false)
  <| some false)
 <| some false
def z7b (n:Nat)(a0:z01)(a1:z01):Option (Bool) :=
 cnd (decide (a0.fSource=a1.fSource))
  (some (decide (a0.fSeq=a1.fSeq)))
 <| some false
def z6a (n:Nat)(a0:(List z01))(v1_0:Int)(k2_1_0:Option (Int)):Nat->Int->Option (Int)
 |0,_=>none
 |mv2_1+1,v2_1 =>
  cnd (decide (v2_1<v1_0))
   (idx a0 v2_1 fun x88 =>
   idx a0 v1_0 fun x89 =>
   bnd (z7b n x88 x89) fun x90 =>
   cnd (x90)
    (some 7)
   <| (z6a n a0 v1_0 k2_1_0 mv2_1) (IntKind.wrap .i64 (v2_1+1)))
  <| k2_1_0
def z69 (n:Nat)(a0:(List z01))(v1_0:Int)(k3_2_0:Option (Int)):Nat->Int->Option (Int)
 |0,_=>none
 |mv3_2+1,v3_2 =>
  cnd (decide (v3_2<v1_0))
   (idx a0 v3_2 fun x131 =>
   idx a0 v1_0 fun x132 =>
   bnd (z7b n x131 x132) fun x133 =>
   cnd (x133)
    (some 7)
   <| (z69 n a0 v1_0 k3_2_0 mv3_2) (IntKind.wrap .i64 (v3_2+1)))
  <| k3_2_0
def z1y (n:Nat)(a0:(List z01))(k1_0_0:Option (Int)):Nat->Int->Option (Int)
 |0,_=>none
 |mv1_0+1,v1_0 =>
  cnd (decide (v1_0<((a0.map z04).length:Int)))
   (idx a0 v1_0 fun x41 =>
   bnd (z7q n x41) fun x42 =>
   cnd (!(x42))
    (some 2)
   <| cnd (decide (0<v1_0))
    (idx a0 (IntKind.wrap .i64 (v1_0-1)) fun x43 =>
    bnd (z1p n x43) fun x44 =>
    idx a0 v1_0 fun x45 =>
    bnd (z1p n x45) fun x46 =>
    bnd (z6l n (⟨x44.fTime,x44.fSource,x44.fSeq⟩:z1g) (⟨x46.fTime,x46.fSource,x46.fSeq⟩:z1g)) fun x47 =>
    cnd (decide (0<=x47))
     (some 14)
    <| z6a n a0 v1_0
     ((z1y n a0 k1_0_0 mv1_0) (IntKind.wrap .i64 (v1_0+1))) n 0)
   <| z69 n a0 v1_0
    ((z1y n a0 k1_0_0 mv1_0) (IntKind.wrap .i64 (v1_0+1))) n 0)
  <| k1_0_0
def z6m (n:Nat)(a0:(List z01)):Option (Int) :=
 cnd (decide (4096<((a0.map z04).length:Int)))
  (some 5)
 <| z1y n a0
  (some 0) n 0
def z1k (n:Nat)(a0:z05)(a1:(List z01)):Option (Int) :=
 bnd (z6i n a0) fun x1 =>
 cnd (!decide (x1=0))
  (some x1)
 <| bnd (z6m n a1) fun x2 =>
 some x2
def zbv (n:Nat):Option (z00) :=
 some (⟨0,[],[]⟩)
def z65 (n:Nat)(a1:z1g)(a0:(List z01))(k1_0_0:Option (z01×Bool)):Nat->Int->Option (z01×Bool)
 |0,_=>none
 |mv1_0+1,v1_0 =>
  cnd (decide (v1_0<((a0.map z04).length:Int)))
   (idx a0 v1_0 fun x41 =>
   bnd (z1p n x41) fun x42 =>
   cnd ((decide (x42.fTime=a1.fTime) && (decide (x42.fSource=a1.fSource) && (decide (x42.fSeq=a1.fSeq) && true))))
    (idx a0 v1_0 fun x43 =>
    some (x43,true))
   <| (z65 n a1 a0 k1_0_0 mv1_0) (IntKind.wrap .i64 (v1_0+1)))
  <| k1_0_0
def z9o (n:Nat)(a0:(List z01))(a1:z1g):Option (z01×Bool) :=
 z65 n a1 a0
  (some (⟨0,0,0,0,[]⟩,false)) n 0
def z1m (n:Nat)(a2:(List z0u))(a1:Int)(a0:(List z01))(x1:Nat)(k1_0_0:(List (List z01))->Option (z0i)):Nat->Int×(List (List z01))->Option (z0i)
 |0,_=>none
 |mv1_0+1,v1_0 =>
  cnd (decide (v1_0.1<((a2.map z0a).length:Int)))
   (idx a2 v1_0.1 fun x43 =>
   bnd (z9o n a0 (⟨x43.fRef.fTime,x43.fRef.fSource,x43.fRef.fSeq⟩:z1g)) fun x44 =>
   reg <| cnd (x44.2)
    (cnd (decide (0<=x43.fVar))
      (cnd (decide (x43.fVar<a1))
        (ncx x43.fVar x1 <|
        ntk v1_0.2 (Int.toNat x43.fVar) fun x45 =>
        app x45 [x44.1] 56 fun x46 =>
        ncx x43.fVar x1 <|
        npt v1_0.2 (Int.toNat x43.fVar) x46 fun x47 =>
        (z1m n a2 a1 a0 x1 k1_0_0 mv1_0) ((IntKind.wrap .i64 (v1_0.1+1)),x47))
      <| (z1m n a2 a1 a0 x1 k1_0_0 mv1_0) ((IntKind.wrap .i64 (v1_0.1+1)),v1_0.2))
    <| (z1m n a2 a1 a0 x1 k1_0_0 mv1_0) ((IntKind.wrap .i64 (v1_0.1+1)),v1_0.2))
   <| (z1m n a2 a1 a0 x1 k1_0_0 mv1_0) ((IntKind.wrap .i64 (v1_0.1+1)),v1_0.2))
  <| k1_0_0 v1_0.2
def zbw (n:Nat)(a0:(List z01))(a1:Int)(a2:(List z0u)):Option (z0i) :=
 mkn a1 24 fun x1 =>
 nst 13 <| reg <| z1m n a2 a1 a0 x1
  (fun k1_0_0y=>frr 13 <| reg <| some ⟨k1_0_0y⟩) n (0,(List.replicate (x1) ([]:List z01)))
def z81 (n:Nat)(a0:(List z01))(a1:z00):Option (z0i) :=
 bnd (zbw n a0 16 a1.fBindings) fun x1 =>
 some ⟨x1.fVars⟩
def z2j (n:Nat)(w1_0:Bool):Option (Bool) :=
 some w1_0
attribute [irreducible] z2j
def z60 (n:Nat)(a0:z0j)(a1:z0i)(a2:z01):Option (Bool) :=
 jon (z2j n) <|
 reg <| cnd (decide (a0.fType=a2.fType))
  (bnd (z2f n a0.fCond (⟨a1.fVars⟩:z0i) a0.fVar a2) fun x3 =>
  z2j n x3)
 <| z2j n false
def z61 (n:Nat)(a3:z01)(x1:z0i)(x2:z2r)(k1_0_0:Option (Bool)):Nat->Int->Option (Bool)
 |0,_=>none
 |mv1_0+1,v1_0 =>
  cnd (decide (v1_0<((x2.fGuards.map z0q).length:Int)))
   (idx x2.fGuards v1_0 fun x43 =>
   bnd (z60 n x43 (⟨x1.fVars⟩:z0i) a3) fun x44 =>
   cnd (x44)
    (some false)
   <| (z61 n a3 x1 x2 k1_0_0 mv1_0) (IntKind.wrap .i64 (v1_0+1)))
  <| k1_0_0
def z9m (n:Nat)(a0:z05)(a1:(List z01))(a2:z00)(a3:z01):Option (Bool) :=
 bnd (z81 n a1 a2) fun x1 =>
 idx a0.fStates a2.fState fun x2 =>
 z61 n a3 x1 x2
  (some true) n 0
def z4t (n:Nat)(a1:Int)(a0:z05)(k1_0_0:(List z0h)->Option ((List z0h))):Nat->Int×(List z0h)->Option ((List z0h))
 |0,_=>none
 |mv1_0+1,v1_0 =>
  cnd (decide (v1_0.1<((a0.fEdges.map z0d).length:Int)))
   (reg <| idx a0.fEdges v1_0.1 fun x42 =>
   cnd (decide (x42.fFrom=a1))
    (idx a0.fEdges v1_0.1 fun x43 =>
    app v1_0.2 [x43] 240 fun x44 =>
    (z4t n a1 a0 k1_0_0 mv1_0) ((IntKind.wrap .i64 (v1_0.1+1)),x44))
   <| (z4t n a1 a0 k1_0_0 mv1_0) ((IntKind.wrap .i64 (v1_0.1+1)),v1_0.2))
  <| k1_0_0 v1_0.2
def za3 (n:Nat)(a0:z05)(a1:Int):Option ((List z0h)) :=
 z4t n a1 a0
  (fun k1_0_0y=>some k1_0_0y) n (0,[])
def z7f (n:Nat)(a1:Int)(a0:(List Int))(k1_0_0:Option (Bool)):Nat->Int->Option (Bool)
 |0,_=>none
 |mv1_0+1,v1_0 =>
  cnd (decide (v1_0<((a0.map aI).length:Int)))
   (idx a0 v1_0 fun x41 =>
   cnd (decide (x41=a1))
    (some true)
   <| (z7f n a1 a0 k1_0_0 mv1_0) (IntKind.wrap .i64 (v1_0+1)))
  <| k1_0_0
def zar (n:Nat)(a0:(List Int))(a1:Int):Option (Bool) :=
 z7f n a1 a0
  (some false) n 0
def z3a (n:Nat)(a1:Int)(a0:(List z0b))(k1_0_0:(List z0b)->Option ((List z0b))):Nat->Int×(List z0b)->Option ((List z0b))
 |0,_=>none
 |mv1_0+1,v1_0 =>
  cnd (decide (v1_0.1<((a0.map z09).length:Int)))
   (reg <| idx a0 v1_0.1 fun x42 =>
   cnd (!decide (x42.fScope=a1))
    (idx a0 v1_0.1 fun x43 =>
    app v1_0.2 [x43] 16 fun x44 =>
    (z3a n a1 a0 k1_0_0 mv1_0) ((IntKind.wrap .i64 (v1_0.1+1)),x44))
   <| (z3a n a1 a0 k1_0_0 mv1_0) ((IntKind.wrap .i64 (v1_0.1+1)),v1_0.2))
  <| k1_0_0 v1_0.2
def z7g (n:Nat)(a0:(List z0b))(a1:Int):Option ((List z0b)) :=
 z3a n a1 a0
  (fun k1_0_0y=>some k1_0_0y) n (0,[])
def z38 (n:Nat)(a2:Int)(a1:Int)(x1:(List z0b))(v1_0:Int×(List z0b))(k1_0_0:(List z0b)->Int->(List z0b)->Option ((List z0b)))(cv1_0:(Int×(List z0b))->Option ((List z0b)))(w3_1:Bool):Option ((List z0b)) :=
 cnd (w3_1)
  (idx x1 v1_0.1 fun x50 =>
  app v1_0.2 [x50] 16 fun x51 =>
  cv1_0 ((IntKind.wrap .i64 (v1_0.1+1)),x51))
 <| k1_0_0 x1 v1_0.1 v1_0.2
attribute [irreducible] z38
def z2c (n:Nat)(a2:Int)(a1:Int)(x1:(List z0b))(k1_0_0:(List z0b)->Int->(List z0b)->Option ((List z0b))):Nat->Int×(List z0b)->Option ((List z0b))
 |0,_=>none
 |mv1_0+1,v1_0 =>
  jon (z38 n a2 a1 x1 v1_0 k1_0_0 (z2c n a2 a1 x1 k1_0_0 mv1_0)) <|
  reg <| cnd (decide (v1_0.1<((x1.map z09).length:Int)))
   (idx x1 v1_0.1 fun x52 =>
   z38 n a2 a1 x1 v1_0 k1_0_0 (z2c n a2 a1 x1 k1_0_0 mv1_0) (decide (x52.fScope<a1)))
  <| z38 n a2 a1 x1 v1_0 k1_0_0 (z2c n a2 a1 x1 k1_0_0 mv1_0) false
def z96 (n:Nat)(a0:(List z0b))(a1:Int)(a2:Int):Option ((List z0b)) :=
 bnd (z7g n a0 a1) fun x1 =>
 z2c n a2 a1 x1
  (fun k1_0_0y0 k1_0_0y1 k1_0_0y2=>app k1_0_0y2 ([⟨a1,a2⟩]) 16 fun x45 =>
 sls k1_0_0y0 k1_0_0y1 ((k1_0_0y0.map z09).length:Int) fun x46 =>
 app x45 x46 16 fun x47 =>
 some x47) n (0,[])
def z6u (n:Nat)(a2:Int)(a1:z0y)(a0:(List z0b))(k1_0_0:Option (Bool)):Nat->Int->Option (Bool)
 |0,_=>none
 |mv1_0+1,v1_0 =>
  cnd (decide (v1_0<((a0.map z09).length:Int)))
   (idx a0 v1_0 fun x41 =>
   cnd (decide (x41.fScope=a1.fScope))
    (idx a0 v1_0 fun x42 =>
    some (decide ((IntKind.wrap .i64 (a2-x42.fTime))<=a1.fSpan)))
   <| (z6u n a2 a1 a0 k1_0_0 mv1_0) (IntKind.wrap .i64 (v1_0+1)))
  <| k1_0_0
def za0 (n:Nat)(a0:(List z0b))(a1:z0y)(a2:Int):Option (Bool) :=
 z6u n a2 a1 a0
  (some false) n 0
def z4d (n:Nat)(a3:z0h)(k4_4_0y:(List z0u))(k5_5_0:(List z0b)->Option (z00×Bool)):Nat->Int×(List z0b)->Option (z00×Bool)
 |0,_=>none
 |mv5_5+1,v5_5 =>
  cnd (decide (v5_5.1<((a3.fCloses.map aI).length:Int)))
   (idx a3.fCloses v5_5.1 fun x216 =>
   bnd (z7g n v5_5.2 x216) fun x217 =>
   (z4d n a3 k4_4_0y k5_5_0 mv5_5) ((IntKind.wrap .i64 (v5_5.1+1)),x217))
  <| k5_5_0 v5_5.2
def z4e (n:Nat)(a3:z0h)(k2_2_0y:(List z0b))(x130:(List z0u))(x133:z0i)(k4_4_0:(List z0u)->Option (z00×Bool)):Nat->Int->Option (z00×Bool)
 |0,_=>none
 |mv4_4+1,v4_4 =>
  cnd (decide (v4_4<((a3.fChecks.map idA).length:Int)))
   (idxD z37 a3.fChecks v4_4 fun x218 =>
   bnd (z2f n x218 (⟨x133.fVars⟩:z0i) (-1) (⟨0,0,0,0,[]⟩:z01)) fun x219 =>
   cnd (!(x219))
    (some (⟨0,[],[]⟩,false))
   <| (z4e n a3 k2_2_0y x130 x133 k4_4_0 mv4_4) (IntKind.wrap .i64 (v4_4+1)))
  <| k4_4_0 x130
def z4f (n:Nat)(a4:z01)(a3:z0h)(a2:z00)(a1:(List z01))(k2_2_0y:(List z0b))(k3_3_0:Option (z00×Bool)):Nat->Int->Option (z00×Bool)
 |0,_=>none
 |mv3_3+1,v3_3 =>
  cnd (decide (v3_3<((a3.fLimits.map z0p).length:Int)))
   (idx a3.fLimits v3_3 fun x220 =>
   bnd (za0 n k2_2_0y x220 a4.fTime) fun x221 =>
   cnd (!(x221))
    (some (⟨0,[],[]⟩,false))
   <| (z4f n a4 a3 a2 a1 k2_2_0y k3_3_0 mv3_3) (IntKind.wrap .i64 (v3_3+1)))
  <| k3_3_0
def z4g (n:Nat)(a4:z01)(a3:z0h)(a2:z00)(a1:(List z01))(k2_2_0:(List z0b)->Option (z00×Bool)):Nat->Int×(List z0b)->Option (z00×Bool)
 |0,_=>none
 |mv2_2+1,v2_2 =>
  cnd (decide (v2_2.1<((a3.fOpens.map aI).length:Int)))
   (idx a3.fOpens v2_2.1 fun x222 =>
   bnd (z96 n v2_2.2 x222 a4.fTime) fun x223 =>
   (z4g n a4 a3 a2 a1 k2_2_0 mv2_2) ((IntKind.wrap .i64 (v2_2.1+1)),x223))
  <| k2_2_0 v2_2.2
def z11 (n:Nat)(a4:z01)(a3:z0h)(a2:z00)(a1:(List z01))(w3_1:Bool):Option (z00×Bool) :=
 cnd (w3_1)
  (some (⟨0,[],[]⟩,false))
 <| z4g n a4 a3 a2 a1
  (fun k2_2_0y=>z4f n a4 a3 a2 a1 k2_2_0y
  (app ([]:List z0u) a2.fBindings 32 fun x127 =>
 bnd (z1p n a4) fun x128 =>
 bldS ([⟨a3.fVar,⟨x128.fTime,x128.fSource,x128.fSeq⟩⟩]:List z0u) fun x129 =>
 app x127 x129 32 fun x130 =>
 frz 125 <| reg <| bld ([a4]:List z01) fun x131 =>
 app x131 a1 56 fun x132 =>
 bnd (z81 n x132 (⟨a3.fTo,x130,k2_2_0y⟩:z00)) fun x133 =>
 z4e n a3 k2_2_0y x130 x133
  (fun k4_4_0y=>z4d n a3 k4_4_0y
  (fun k5_5_0y=>some (⟨a3.fTo,k4_4_0y,k5_5_0y⟩,true)) n (0,k2_2_0y)) n 0) n 0) n (0,a2.fStarts)
attribute [irreducible] z11
def z2s (n:Nat)(a4:z01)(a3:z0h)(a2:z00)(a1:(List z01))(x1:z0i)(x2:z2r)(v1_0:Int)(cv1_0:Int->Option (z00×Bool))(w4_6:Bool):Option (z00×Bool) :=
 cnd (w4_6)
  (some (⟨0,[],[]⟩,false))
 <| cv1_0 (IntKind.wrap .i64 (v1_0+1))
attribute [irreducible] z2s
def z20 (n:Nat)(a4:z01)(a3:z0h)(a2:z00)(a1:(List z01))(x1:z0i)(x2:z2r)(k1_0_0:(List (List z01))->Option (z00×Bool)):Nat->Int->Option (z00×Bool)
 |0,_=>none
 |mv1_0+1,v1_0 =>
  cnd (decide (v1_0<((x2.fGuards.map z0q).length:Int)))
   (jon (z2s n a4 a3 a2 a1 x1 x2 v1_0 (z20 n a4 a3 a2 a1 x1 x2 k1_0_0 mv1_0)) <|
   reg <| idx x2.fGuards v1_0 fun x230 =>
   bnd (zar n a3.fInside x230.fScope) fun x231 =>
   cnd (!(x231))
    (idx x2.fGuards v1_0 fun x232 =>
    bnd (z60 n x232 (⟨x1.fVars⟩:z0i) a4) fun x233 =>
    z2s n a4 a3 a2 a1 x1 x2 v1_0 (z20 n a4 a3 a2 a1 x1 x2 k1_0_0 mv1_0) x233)
   <| z2s n a4 a3 a2 a1 x1 x2 v1_0 (z20 n a4 a3 a2 a1 x1 x2 k1_0_0 mv1_0) false)
  <| k1_0_0 x1.fVars
def z4r (n:Nat)(a0:z05)(a1:(List z01))(a2:z00)(a3:z0h)(a4:z01):Option (z00×Bool) :=
 bnd (z81 n a1 a2) fun x1 =>
 idx a0.fStates a2.fState fun x2 =>
 z20 n a4 a3 a2 a1 x1 x2
  (fun k1_0_0y=>jon (z11 n a4 a3 a2 a1) <|
 reg <| cnd (!decide (a3.fType=a4.fType))
  (z11 n a4 a3 a2 a1 true)
 <| bnd (z2f n a3.fCond (⟨k1_0_0y⟩:z0i) a3.fVar a4) fun x224 =>
 z11 n a4 a3 a2 a1 !(x224)) n 0
def z5q (n:Nat)(a1:z03)(a0:(List z03))(k1_0_0y:Int)(w3_1:Bool):Option ((List z03)) :=
 cnd (w3_1)
  (some a0)
 <| sls a0 0 k1_0_0y fun x45 =>
 app ([]:List z03) x45 24 fun x46 =>
 app x46 [⟨a1.fBindings⟩] 24 fun x47 =>
 sls a0 k1_0_0y ((a0.map z0g).length:Int) fun x48 =>
 app x47 x48 24 fun x49 =>
 some x49
attribute [irreducible] z5q
def z5p (n:Nat)(a1:z03)(a0:(List z03))(v1_0:Int)(k1_0_0:Int->Option ((List z03)))(cv1_0:Int->Option ((List z03)))(w4_2:Bool):Option ((List z03)) :=
 cnd (w4_2)
  (cv1_0 (IntKind.wrap .i64 (v1_0+1)))
 <| k1_0_0 v1_0
attribute [irreducible] z5p
def z3s (n:Nat)(a1:z03)(a0:(List z03))(k1_0_0:Int->Option ((List z03))):Nat->Int->Option ((List z03))
 |0,_=>none
 |mv1_0+1,v1_0 =>
  jon (z5p n a1 a0 v1_0 k1_0_0 (z3s n a1 a0 k1_0_0 mv1_0)) <|
  reg <| cnd (decide (v1_0<((a0.map z0g).length:Int)))
   (idx a0 v1_0 fun x55 =>
   bnd (z2x n (⟨x55.fBindings⟩:z03) (⟨a1.fBindings⟩:z03)) fun x56 =>
   z5p n a1 a0 v1_0 k1_0_0 (z3s n a1 a0 k1_0_0 mv1_0) (decide (x56<0)))
  <| z5p n a1 a0 v1_0 k1_0_0 (z3s n a1 a0 k1_0_0 mv1_0) false
def z82 (n:Nat)(a0:(List z03))(a1:z03):Option ((List z03)) :=
 z3s n a1 a0
  (fun k1_0_0y=>jon (z5q n a1 a0 k1_0_0y) <|
 reg <| cnd (decide (k1_0_0y<((a0.map z0g).length:Int)))
  (idx a0 k1_0_0y fun x50 =>
  bnd (z2x n (⟨x50.fBindings⟩:z03) (⟨a1.fBindings⟩:z03)) fun x51 =>
  z5q n a1 a0 k1_0_0y (decide (x51=0)))
 <| z5q n a1 a0 k1_0_0y false) n 0
def z3p (n:Nat)(a3:z01)(a2:z00)(a1:(List z01))(a0:z05)(x4:(List z0h))(k1_1_0:(List z00)->(List z03)->Option ((List z00)×(List z03))):Nat->(List z00)×(List z03)×Int->Option ((List z00)×(List z03))
 |0,_=>none
 |mv1_1+1,v1_1 =>
  cnd (decide (v1_1.2.2<((x4.map z0d).length:Int)))
   (idx x4 v1_1.2.2 fun x47 =>
   bnd (z4r n a0 a1 a2 x47 a3) fun x48 =>
   cnd (!(x48.2))
    ((z3p n a3 a2 a1 a0 x4 k1_1_0 mv1_1) (v1_1.1,v1_1.2.1,(IntKind.wrap .i64 (v1_1.2.2+1))))
   <| reg <| cnd (decide (x48.1.fState<0))
    (bnd (z82 n v1_1.2.1 (⟨x48.1.fBindings⟩:z03)) fun x49 =>
    (z3p n a3 a2 a1 a0 x4 k1_1_0 mv1_1) (v1_1.1,x49,(IntKind.wrap .i64 (v1_1.2.2+1))))
   <| bnd (z80 n v1_1.1 x48.1) fun x50 =>
   (z3p n a3 a2 a1 a0 x4 k1_1_0 mv1_1) (x50,v1_1.2.1,(IntKind.wrap .i64 (v1_1.2.2+1))))
  <| k1_1_0 v1_1.1 v1_1.2.1
def z5m (n:Nat)(a3:z01)(a2:z00)(a1:(List z01))(a0:z05)(w1_0:(List z00)):Option ((List z00)×(List z03)) :=
 bnd (za3 n a0 a2.fState) fun x4 =>
 z3p n a3 a2 a1 a0 x4
  (fun k1_1_0y0 k1_1_0y1=>some (k1_1_0y0,k1_1_0y1)) n (w1_0,[],0)
attribute [irreducible] z5m
def zas (n:Nat)(a0:z05)(a1:(List z01))(a2:z00)(a3:z01):Option ((List z00)×(List z03)) :=
 jon (z5m n a3 a2 a1 a0) <|
 reg <| bnd (z9m n a0 a1 a2 a3) fun x51 =>
 cnd (x51)
  (bnd (z80 n [] a2) fun x52 =>
  z5m n a3 a2 a1 a0 x52)
 <| z5m n a3 a2 a1 a0 []
def z7i (n:Nat)(a3:z01)(a2:(List z00))(a1:(List z01))(a0:z05)(v1_0:(List z00)×(List z03)×Int)(k2_1_0y0:(List z00))(k2_1_0y1:(List z03))(k3_2_0:(List z03)->Option ((List z00)×(List z03))):Nat->(List z03)×Int->Option ((List z00)×(List z03))
 |0,_=>none
 |mv3_2+1,v3_2 =>
  cnd (decide (v3_2.2<((k2_1_0y1.map z0g).length:Int)))
   (idx k2_1_0y1 v3_2.2 fun x128 =>
   bnd (z82 n v3_2.1 (⟨x128.fBindings⟩:z03)) fun x129 =>
   (z7i n a3 a2 a1 a0 v1_0 k2_1_0y0 k2_1_0y1 k3_2_0 mv3_2) (x129,(IntKind.wrap .i64 (v3_2.2+1))))
  <| k3_2_0 v3_2.1
def z7j (n:Nat)(a3:z01)(a2:(List z00))(a1:(List z01))(a0:z05)(v1_0:(List z00)×(List z03)×Int)(x44:(List z00)×(List z03))(k2_1_0:(List z00)->(List z03)->Option ((List z00)×(List z03))):Nat->(List z00)×Int->Option ((List z00)×(List z03))
 |0,_=>none
 |mv2_1+1,v2_1 =>
  cnd (decide (v2_1.2<((x44.1.map z0e).length:Int)))
   (idx x44.1 v2_1.2 fun x130 =>
   bnd (z80 n v2_1.1 x130) fun x131 =>
   (z7j n a3 a2 a1 a0 v1_0 x44 k2_1_0 mv2_1) (x131,(IntKind.wrap .i64 (v2_1.2+1))))
  <| k2_1_0 v2_1.1 x44.2
def z7k (n:Nat)(a3:z01)(a2:(List z00))(a1:(List z01))(a0:z05)(k1_0_0:(List z00)->(List z03)->Option ((List z00)×(List z03))):Nat->(List z00)×(List z03)×Int->Option ((List z00)×(List z03))
 |0,_=>none
 |mv1_0+1,v1_0 =>
  cnd (decide (v1_0.2.2<((a2.map z0e).length:Int)))
   (idx a2 v1_0.2.2 fun x43 =>
   bnd (zas n a0 a1 x43 a3) fun x44 =>
   z7j n a3 a2 a1 a0 v1_0 x44
    (fun k2_1_0y0 k2_1_0y1=>z7i n a3 a2 a1 a0 v1_0 k2_1_0y0 k2_1_0y1
    (fun k3_2_0y=>(z7k n a3 a2 a1 a0 k1_0_0 mv1_0) (k2_1_0y0,k3_2_0y,(IntKind.wrap .i64 (v1_0.2.2+1)))) n (v1_0.2.1,0)) n (v1_0.1,0))
  <| k1_0_0 v1_0.1 v1_0.2.1
def zat (n:Nat)(a0:z05)(a1:(List z01))(a2:(List z00))(a3:z01):Option ((List z00)×(List z03)) :=
 z7k n a3 a2 a1 a0
  (fun k1_0_0y0 k1_0_0y1=>some (k1_0_0y0,k1_0_0y1)) n ([],[],0)
def z3b (n:Nat)(a2:Int)(a1:(List z01))(a0:z05)(v1_0:(List z00)×(List z03)×Int)(cv1_0:((List z00)×(List z03)×Int)->Option ((List z00)×(List z03)×Bool))(k2_1_0y0:(List z03))(k2_1_0y1:(List z00))(w3_2:Bool):Option ((List z00)×(List z03)×Bool) :=
 cnd (w3_2)
  (some ([],[],false))
 <| cv1_0 (k2_1_0y1,k2_1_0y0,(IntKind.wrap .i64 (v1_0.2.2+1)))
attribute [irreducible] z3b
def z58 (n:Nat)(a2:Int)(a1:(List z01))(a0:z05)(v1_0:(List z00)×(List z03)×Int)(x45:(List z00)×(List z03))(k2_1_0:(List z03)->(List z00)->Option ((List z00)×(List z03)×Bool)):Nat->(List z03)×Int->Option ((List z00)×(List z03)×Bool)
 |0,_=>none
 |mv2_1+1,v2_1 =>
  cnd (decide (v2_1.2<((x45.2.map z0g).length:Int)))
   (idx x45.2 v2_1.2 fun x89 =>
   bnd (z82 n v2_1.1 (⟨x89.fBindings⟩:z03)) fun x90 =>
   (z58 n a2 a1 a0 v1_0 x45 k2_1_0 mv2_1) (x90,(IntKind.wrap .i64 (v2_1.2+1))))
  <| k2_1_0 v2_1.1 x45.1
def z2d (n:Nat)(a2:Int)(a1:(List z01))(a0:z05)(k1_0_0:(List z00)->(List z03)->Option ((List z00)×(List z03)×Bool)):Nat->(List z00)×(List z03)×Int->Option ((List z00)×(List z03)×Bool)
 |0,_=>none
 |mv1_0+1,v1_0 =>
  cnd (decide (v1_0.2.2<((a1.map z04).length:Int)))
   (idx a1 v1_0.2.2 fun x44 =>
   bnd (zat n a0 a1 v1_0.1 x44) fun x45 =>
   z58 n a2 a1 a0 v1_0 x45
    (fun k2_1_0y0 k2_1_0y1=>jon (z3b n a2 a1 a0 v1_0 (z2d n a2 a1 a0 k1_0_0 mv1_0) k2_1_0y0 k2_1_0y1) <|
   reg <| cnd (decide (a2<((k2_1_0y1.map z0e).length:Int)))
    (z3b n a2 a1 a0 v1_0 (z2d n a2 a1 a0 k1_0_0 mv1_0) k2_1_0y0 k2_1_0y1 true)
   <| z3b n a2 a1 a0 v1_0 (z2d n a2 a1 a0 k1_0_0 mv1_0) k2_1_0y0 k2_1_0y1 (decide (a2<((k2_1_0y0.map z0g).length:Int)))) n (v1_0.2.1,0))
  <| k1_0_0 v1_0.1 v1_0.2.1
def z7h (n:Nat)(a0:z05)(a1:(List z01))(a2:Int):Option ((List z00)×(List z03)×Bool) :=
 bnd (zbv n) fun x1 =>
 z2d n a2 a1 a0
  (fun k1_0_0y0 k1_0_0y1=>some (k1_0_0y0,k1_0_0y1,true)) n ([x1],[],0)
def z2n (n:Nat)(a1:(List z01))(a0:z05)(w1_0:Bool):Option (Bool) :=
 cnd (w1_0)
  (some false)
 <| bnd (z1k n a0 a1) fun x4 =>
 cnd (!decide (x4=0))
  (some true)
 <| bnd (z7h n a0 a1 150) fun x5 =>
 some x5.2.2
attribute [irreducible] z2n
def z6h (n:Nat)(a0:z05)(a1:(List z01)):Option (Bool) :=
 jon (z2n n a1 a0) <|
 reg <| bnd (zav n a0) fun x6 =>
 cnd (!(x6))
  (z2n n a1 a0 true)
 <| bnd (zaz n a1) fun x7 =>
 z2n n a1 a0 !(x7)
def zlo (n:Nat)(a0:z05)(a1:(List z01)):Option ((List z00)×(List z03)×Int) :=
 bnd (z1k n a0 a1) fun x1 =>
 cnd (!decide (x1=0))
  (some ([],[],x1))
 <| bnd (z7h n a0 a1 4096) fun x2 =>
 cnd (!(x2.2.2))
  (some ([],[],17))
 <| some (x2.1,x2.2.1,0)
def z3i (n:Nat)(a0:z0h):Option (Bool) :=
 some (decide (a0.fType=13))
def z4j (n:Nat)(a0:(List z0h))(k1_0_0:Option (Int)):Nat->Int->Option (Int)
 |0,_=>none
 |mv1_0+1,v1_0 =>
  cnd (decide (v1_0<((a0.map z0d).length:Int)))
   (idx a0 v1_0 fun x41 =>
   bnd (z3i n x41) fun x42 =>
   cnd (x42)
    (some v1_0)
   <| (z4j n a0 k1_0_0 mv1_0) (IntKind.wrap .i64 (v1_0+1)))
  <| k1_0_0
def z8r (n:Nat)(a0:(List z0h)):Option (Int) :=
 z4j n a0
  (some (-1)) n 0
def z4p (n:Nat)(a0:(List z0h)):Option (Bool) :=
 bnd (z8r n a0) fun x1 =>
 some (decide (0<=x1))
def z2p (n:Nat)(a0:z0j):Option (Bool) :=
 some (decide (a0.fType=13))
def z4h (n:Nat)(a0:(List z0j))(k1_0_0:Option (Int)):Nat->Int->Option (Int)
 |0,_=>none
 |mv1_0+1,v1_0 =>
  cnd (decide (v1_0<((a0.map z0q).length:Int)))
   (idx a0 v1_0 fun x41 =>
   bnd (z2p n x41) fun x42 =>
   cnd (x42)
    (some v1_0)
   <| (z4h n a0 k1_0_0 mv1_0) (IntKind.wrap .i64 (v1_0+1)))
  <| k1_0_0
def z8p (n:Nat)(a0:(List z0j)):Option (Int) :=
 z4h n a0
  (some (-1)) n 0
def z75 (n:Nat)(a0:(List z0j)):Option (Bool) :=
 bnd (z8p n a0) fun x1 =>
 some (decide (0<=x1))
def z29 (n:Nat)(a0:z2r):Option (Bool) :=
 bnd (z75 n a0.fGuards) fun x1 =>
 some x1
def z4i (n:Nat)(a0:(List z2r))(k1_0_0:Option (Int)):Nat->Int->Option (Int)
 |0,_=>none
 |mv1_0+1,v1_0 =>
  cnd (decide (v1_0<((a0.map z0c).length:Int)))
   (idx a0 v1_0 fun x41 =>
   bnd (z29 n x41) fun x42 =>
   cnd (x42)
    (some v1_0)
   <| (z4i n a0 k1_0_0 mv1_0) (IntKind.wrap .i64 (v1_0+1)))
  <| k1_0_0
def z8q (n:Nat)(a0:(List z2r)):Option (Int) :=
 z4i n a0
  (some (-1)) n 0
def z4o (n:Nat)(a0:(List z2r)):Option (Bool) :=
 bnd (z8q n a0) fun x1 =>
 some (decide (0<=x1))
def z71 (n:Nat)(a1:(List z02))(a0:(List z02))(k1_0_0:Option (Bool)):Nat->Int->Option (Bool)
 |0,_=>none
 |mv1_0+1,v1_0 =>
  cnd (decide (v1_0<((a0.map z06).length:Int)))
   (idx a0 v1_0 fun x41 =>
   idx a1 v1_0 fun x42 =>
   cnd (!(decide (x41.fKind=x42.fKind) && (decide (x41.fNum=x42.fNum) && ((x41.fText.toList == x42.fText.toList) && true))))
    (some false)
   <| (z71 n a1 a0 k1_0_0 mv1_0) (IntKind.wrap .i64 (v1_0+1)))
  <| k1_0_0
def za7 (n:Nat)(a0:(List z02))(a1:(List z02)):Option (Bool) :=
 cnd (!decide (((a0.map z06).length:Int)=((a1.map z06).length:Int)))
  (some false)
 <| z71 n a1 a0
  (some true) n 0
def z8c (n:Nat)(a0:z01)(a1:z01):Option (Bool) :=
 bnd (z1p n a0) fun x1 =>
 bnd (z1p n a1) fun x2 =>
 cnd ((decide (x1.fTime=x2.fTime) && (decide (x1.fSource=x2.fSource) && (decide (x1.fSeq=x2.fSeq) && true))))
  (cnd (decide (a0.fType=a1.fType))
    (bnd (za7 n a0.fValues a1.fValues) fun x3 =>
    some x3)
  <| some false)
 <| some false
def z2k (n:Nat)(a1:z01)(a0:(List z01))(k1_0_0:Option (Bool)):Nat->Int->Option (Bool)
 |0,_=>none
 |mv1_0+1,v1_0 =>
  cnd (decide (v1_0<((a0.map z04).length:Int)))
   (idx a0 v1_0 fun x41 =>
   bnd (z7b n x41 a1) fun x42 =>
   cnd (x42)
    (idx a0 v1_0 fun x43 =>
    bnd (z8c n x43 a1) fun x44 =>
    cnd (!(x44))
     (some true)
    <| (z2k n a1 a0 k1_0_0 mv1_0) (IntKind.wrap .i64 (v1_0+1)))
   <| (z2k n a1 a0 k1_0_0 mv1_0) (IntKind.wrap .i64 (v1_0+1)))
  <| k1_0_0
def z8b (n:Nat)(a0:(List z01))(a1:z01):Option (Bool) :=
 z2k n a1 a0
  (some false) n 0
def z7r (n:Nat)(a1:z01)(a0:(List z01))(k1_0_0:Option (Bool)):Nat->Int->Option (Bool)
 |0,_=>none
 |mv1_0+1,v1_0 =>
  cnd (decide (v1_0<((a0.map z04).length:Int)))
   (idx a0 v1_0 fun x41 =>
   bnd (z8c n x41 a1) fun x42 =>
   cnd (x42)
    (some true)
   <| (z7r n a1 a0 k1_0_0 mv1_0) (IntKind.wrap .i64 (v1_0+1)))
  <| k1_0_0
def zay (n:Nat)(a0:(List z01))(a1:z01):Option (Bool) :=
 z7r n a1 a0
  (some false) n 0
def z7p (n:Nat)(a1:z01)(a0:(List z01))(k1_0_0:Int->(List z01)->Option ((List z01))):Nat->Int×(List z01)->Option ((List z01))
 |0,_=>none
 |mv1_0+1,v1_0 =>
  cnd (decide (v1_0.1<((a0.map z04).length:Int)))
   (idx a0 v1_0.1 fun x46 =>
   bnd (z1p n x46) fun x47 =>
   bnd (z1p n a1) fun x48 =>
   bnd (z6l n (⟨x47.fTime,x47.fSource,x47.fSeq⟩:z1g) (⟨x48.fTime,x48.fSource,x48.fSeq⟩:z1g)) fun x49 =>
   cnd (decide (x49<0))
    (idx a0 v1_0.1 fun x50 =>
    app v1_0.2 [x50] 56 fun x51 =>
    (z7p n a1 a0 k1_0_0 mv1_0) ((IntKind.wrap .i64 (v1_0.1+1)),x51))
   <| k1_0_0 v1_0.1 v1_0.2)
  <| k1_0_0 v1_0.1 v1_0.2
def zax (n:Nat)(a0:(List z01))(a1:z01):Option ((List z01)) :=
 z7p n a1 a0
  (fun k1_0_0y0 k1_0_0y1=>app k1_0_0y1 [a1] 56 fun x43 =>
 sls a0 k1_0_0y0 ((a0.map z04).length:Int) fun x44 =>
 app x43 x44 56 fun x45 =>
 some x45) n (0,[])
def z98 (n:Nat)(a0:(List z01))(a1:z01):Option ((List z01)×Int) :=
 bnd (z6m n a0) fun x1 =>
 cnd (!decide (x1=0))
  (some ([],x1))
 <| bnd (z7q n a1) fun x2 =>
 cnd (!(x2))
  (some ([],2))
 <| bnd (z8b n a0 a1) fun x3 =>
 cnd (x3)
  (some ([],22))
 <| bnd (zay n a0 a1) fun x4 =>
 cnd (x4)
  (some (a0,0))
 <| cnd (decide (((a0.map z04).length:Int)=4096))
  (some ([],5))
 <| bnd (zax n a0 a1) fun x5 =>
 some (x5,0)
def z14 (n:Nat)(w3_2:Bool):Option (Bool) :=
 some w3_2
attribute [irreducible] z14
def z1c (n:Nat)(a2:Int)(a1:(List z01))(a0:z05)(w2_1:Bool):Option (Bool) :=
 cnd (w2_1)
  (bnd (z4a n) fun x9 =>
  some x9)
 <| nzx ((12:Int)) <| bnd (z98 n a1 (⟨7,99,13,(IntKind.wrap .i64 ((a2).tmod 12)),[]⟩:z01)) fun x10 =>
 cnd (!decide (x10.2=0))
  (bnd (z4a n) fun x11 =>
  some x11)
 <| bnd (zh5 n a0 a1) fun x12 =>
 bnd (zh5 n a0 x10.1) fun x13 =>
 jon (z14 n) <|
 reg <| cnd (decide (x12.2.2=0))
  (cnd (decide (x13.2.2=0))
    (bnd (za1 n x12.1 x13.1) fun x18 =>
    cnd (x18)
     (bnd (z7a n x12.2.1 x13.2.1) fun x19 =>
     cnd (x19)
      (bnd (z4a n) fun x20 =>
      z14 n x20)
     <| z14 n false)
    <| z14 n false)
  <| z14 n false)
 <| z14 n false
attribute [irreducible] z1c
def z15 (n:Nat)(a2:Int)(a1:(List z01))(a0:z05)(w1_0:Bool):Option (Bool) :=
 cnd (w1_0)
  (bnd (z4a n) fun x5 =>
  some x5)
 <| jon (z1c n a2 a1 a0) <|
 reg <| bnd (z4p n a0.fEdges) fun x21 =>
 cnd (x21)
  (z1c n a2 a1 a0 true)
 <| bnd (z4o n a0.fStates) fun x22 =>
 z1c n a2 a1 a0 x22
attribute [irreducible] z15
def z94 (n:Nat)(a0:z05)(a1:(List z01))(a2:Int):Option (Bool) :=
 jon (z15 n a2 a1 a0) <|
 reg <| bnd (z6h n a0 a1) fun x23 =>
 cnd (!(x23))
  (z15 n a2 a1 a0 true)
 <| bnd (z6i n a0) fun x24 =>
 cnd (!decide (x24=0))
  (z15 n a2 a1 a0 true)
 <| bnd (z6m n a1) fun x25 =>
 z15 n a2 a1 a0 (!decide (x25=0))
end Go.Proofs.YtjpknpjjcddnnaaGreat
