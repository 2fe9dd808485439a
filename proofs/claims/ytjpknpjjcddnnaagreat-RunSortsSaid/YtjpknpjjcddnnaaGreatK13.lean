/- What some functions compute, over plain values. Printed by a program of mine (gen_fun.lean). -/
import Derived.Test.YtjpknpjjcddnnaaGreatK12
import Derived.Test.YtjpknpjjcddnnaaGreatK10
set_option linter.unusedVariables false
set_option linter.unusedSimpArgs false
set_option maxRecDepth 100000
set_option maxHeartbeats 8000000
namespace Go.Proofs.YtjpknpjjcddnnaaGreat
open Go.RowKit
def z7v (n : Nat) (a0 : z00) (a1 : z00) : Option (Bool) :=
 bnd (zfe n a0 a1) fun x1 =>
 some (decide (x1 = 0))
def z21 (n : Nat) (x46 : Nat) (k2_1_0 : Int → (List z00) → Option ((List z00))) : Nat → Int × Int × (List z00) → Option ((List z00))
 | 0, _ => none
 | mv2_1 + 1, v2_1 =>
   gle x46 (List.map z08 (v2_1.2.2)).length <|
   cnd (decide (v2_1.2.1 < ((((List.map z08 (v2_1.2.2)).length - x46 : Nat)) : Int)))
    (nat v2_1.2.1 ((List.map z08 (v2_1.2.2)).length - x46) fun x92 =>
    elt v2_1.2.2 (x46 + x92) fun x93 =>
    nat (IntKind.wrap .i64 (v2_1.2.1 - 1)) ((List.map z08 (v2_1.2.2)).length - x46) fun x94 =>
    elt v2_1.2.2 (x46 + x94) fun x95 =>
    bnd (z7v n x93 x95) fun x96 =>
    cnd (!(x96))
     (nat v2_1.2.1 ((List.map z08 (v2_1.2.2)).length - x46) fun x97 =>
     elt v2_1.2.2 (x46 + x97) fun x98 =>
     nat v2_1.1 (List.map z08 (v2_1.2.2)).length fun x99 =>
     stx v2_1.2.2 x99 (fun x100 => x98) fun x101 =>
     (z21 n x46 k2_1_0 mv2_1) ((IntKind.wrap .i64 (v2_1.1 + 1)), (IntKind.wrap .i64 (v2_1.2.1 + 1)), x101))
    <| (z21 n x46 k2_1_0 mv2_1) (v2_1.1, (IntKind.wrap .i64 (v2_1.2.1 + 1)), v2_1.2.2))
   <| k2_1_0 v2_1.1 v2_1.2.2
def z2p (n : Nat) (m0 : (List z00)) (k1_0_0 : Option ((List z00))) : Nat → Int → Option ((List z00))
 | 0, _ => none
 | mv1_0 + 1, v1_0 =>
   cnd (decide (v1_0 < (((List.map z08 (m0)).length : Nat) : Int)))
    (nat v1_0 (List.map z08 (m0)).length fun x41 =>
    elt m0 x41 fun x42 =>
    nat (IntKind.wrap .i64 (v1_0 - 1)) (List.map z08 (m0)).length fun x43 =>
    elt m0 x43 fun x44 =>
    bnd (z7v n x42 x44) fun x45 =>
    cnd (x45)
     (nle v1_0 (List.map z08 (m0)).length fun x46 =>
     z21 n x46
      (fun k2_1_0y0 k2_1_0y1 => nle k2_1_0y0 (List.map z08 (k2_1_0y1)).length fun x89 =>
     clr k2_1_0y1 x89 (⟨0, [], []⟩ : z00) fun x90 =>
     sls x90 0 k2_1_0y0 fun x91 =>
     some x91) n (v1_0, 1, m0))
    <| (z2p n m0 k1_0_0 mv1_0) (IntKind.wrap .i64 (v1_0 + 1)))
   <| k1_0_0
def z7a (n : Nat) (m0 : (List z00)) : Option ((List z00)) :=
 cnd (decide ((((List.map z08 (m0)).length : Nat) : Int) < 2))
  (some m0)
 <| z2p n m0
  (some m0) n 1
def zef (n : Nat) (m0 : (List z00)) : Option ((List z00)) :=
 bndC (zpq cfOk zck n m0) fun x1 =>
 frb 3 <| reg <| bndM 10 (z7a n x1) fun x2 =>
 some x2
def zik (n : Nat) (a0 : (List z00)) : Option ((List z00) × Int) :=
 bndR (zcs n a0) fun x1 =>
 bndM 7 (zef n x1) fun x2 =>
 cnd (decide (4096 < (((List.map z08 (x2)).length : Nat) : Int)))
  (some ([], 5))
 <| some (x2, 0)
def z1r (n : Nat) (a0 : (List z00)) (v1_0 : Int) (cv1_0 : Int → Option (Bool)) (w6_2 : Bool) : Option (Bool) :=
 cnd (w6_2)
  (some false)
 <| cv1_0 (IntKind.wrap .i64 (v1_0 + 1))
attribute [irreducible] z1r
def z1s (n : Nat) (a0 : (List z00)) (v1_0 : Int) (k1_0_0 : Option (Bool)) (cv1_0 : Int → Option (Bool)) (w5_1 : Bool) : Option (Bool) :=
 cnd (w5_1)
  (jon (z1r n a0 v1_0 cv1_0) <|
  reg <| idx a0 v1_0 fun x45 =>
  cnd (decide (12 < (((List.map z09 (x45.fBindings)).length : Nat) : Int)))
   (z1r n a0 v1_0 cv1_0 true)
  <| idx a0 v1_0 fun x46 =>
  z1r n a0 v1_0 cv1_0 (decide (12 < (((List.map z07 (x46.fStarts)).length : Nat) : Int))))
 <| k1_0_0
attribute [irreducible] z1s
def z1q (n : Nat) (a0 : (List z00)) (k1_0_0 : Option (Bool)) : Nat → Int → Option (Bool)
 | 0, _ => none
 | mv1_0 + 1, v1_0 =>
   jon (z1s n a0 v1_0 k1_0_0 (z1q n a0 k1_0_0 mv1_0)) <|
   reg <| cnd (decide (v1_0 < (((List.map z08 (a0)).length : Nat) : Int)))
    (z1s n a0 v1_0 k1_0_0 (z1q n a0 k1_0_0 mv1_0) (decide (v1_0 < 80)))
   <| z1s n a0 v1_0 k1_0_0 (z1q n a0 k1_0_0 mv1_0) false
def z80 (n : Nat) (a0 : (List z00)) : Option (Bool) :=
 z1q n a0
  (some (decide ((((List.map z08 (a0)).length : Nat) : Int) ≤ 60))) n 0
def z26 (n : Nat) (a0 : Int) (a1 : Int) : Option (z02) :=
 some (⟨0, a0, a1, a0, []⟩)
def zab (n : Nat) : Option (z05) :=
 bnd (z1a n true) fun x1 =>
 mak 2 24 (⟨[]⟩ : z74) fun x2 =>
 some (⟨3, 1, x2, [⟨0, 1, 0, 0, ⟨0, [], 0, 0, 0, x1⟩, [], [], [], [], []⟩, ⟨1, (-1), 1, 0, ⟨0, [], 0, 0, 0, x1⟩, [], [], [], [], []⟩]⟩)
structure z0h where
 fa : z05
 fheld : (List (z0q × z02))
deriving Inhabited
structure z4h where
 fsource : Int
 fseq : Int
deriving DecidableEq, Inhabited
def z7r (x : z4h) : AV := .agg [aI (x.fsource), aI (x.fseq)]
def zjn (n : Nat) (a0 : z02) : Option (Bool) :=
 cnd (decide (0 ≤ a0.fTime))
  (cnd (decide (a0.fTime ≤ 1099511627776))
    (cnd (decide (0 ≤ a0.fSource))
      (cnd (decide (a0.fSource < 8))
        (cnd (decide (0 ≤ a0.fSeq))
          (some (decide (a0.fSeq ≤ 1099511627776)))
        <| some false)
      <| some false)
    <| some false)
  <| some false)
 <| some false
def zn4 (n : Nat) (a0 : z02) : Option (z0q) :=
 some (⟨a0.fTime, a0.fSource, a0.fSeq⟩)
def zjr (n : Nat) (a0 : z02) (a1 : z02) : Option (Int) :=
 bnd (zn4 n a0) fun x1 =>
 bnd (zn4 n a1) fun x2 =>
 cnd ((decide (x1.fTime = x2.fTime) && (decide (x1.fSource = x2.fSource) && (decide (x1.fSeq = x2.fSeq) && true))))
  (some 0)
 <| bnd (z2g n a0.fTime a1.fTime) fun x3 =>
 bnd (z2g n a0.fSource a1.fSource) fun x4 =>
 bnd (z2g n a0.fSeq a1.fSeq) fun x5 =>
 bnd (zdg n ([x3, x4, x5])) fun x6 =>
 some x6
def zgk (n : Nat) (a0 : z02) : Option (z4h) :=
 some (⟨a0.fSource, a0.fSeq⟩)
def z5w (n : Nat) (a0 : (List z02)) (k1_0_0 : Option (Int)) : Nat → Int × (List (z4h × Bool)) → Option (Int)
 | 0, _ => none
 | mv1_0 + 1, v1_0 =>
   cnd (decide (v1_0.1 < (((List.map z0a (a0)).length : Nat) : Int)))
    (idx a0 v1_0.1 fun x41 =>
    bnd (zjn n x41) fun x42 =>
    cnd (!(x42))
     (some 2)
    <| cnd (decide (0 < v1_0.1))
     (idx a0 (IntKind.wrap .i64 (v1_0.1 - 1)) fun x43 =>
     bnd (zjr n x43 x41) fun x44 =>
     cnd (decide (0 ≤ x44))
      (some 14)
     <| bnd (zgk n x41) fun x45 =>
     mgt v1_0.2 x45 (false : Bool) fun x46 x47 =>
     cnd (x46)
      (some 7)
     <| bnd (zgk n x41) fun x48 =>
     mst v1_0.2 x48 true fun x49 =>
     (z5w n a0 k1_0_0 mv1_0) ((IntKind.wrap .i64 (v1_0.1 + 1)), x49))
    <| bnd (zgk n x41) fun x50 =>
    mgt v1_0.2 x50 (false : Bool) fun x51 x52 =>
    cnd (x51)
     (some 7)
    <| bnd (zgk n x41) fun x53 =>
    mst v1_0.2 x53 true fun x54 =>
    (z5w n a0 k1_0_0 mv1_0) ((IntKind.wrap .i64 (v1_0.1 + 1)), x54))
   <| k1_0_0
def zla (n : Nat) (a0 : (List z02)) : Option (Int) :=
 cnd (decide (4096 < (((List.map z0a (a0)).length : Nat) : Int)))
  (some 5)
 <| z5w n a0
  (some 0) n (0, [])
def zal (n : Nat) (a1 : (List z02)) (a0 : z05) (k1_0_0 : (List (z0q × z02)) → Option ((Option z0h) × Int)) : Nat → Int × (List (z0q × z02)) → Option ((Option z0h) × Int)
 | 0, _ => none
 | mv1_0 + 1, v1_0 =>
   cnd (decide (v1_0.1 < (((List.map z0a (a1)).length : Nat) : Int)))
    (idx a1 v1_0.1 fun x44 =>
    bnd (zpr n x44) fun x45 =>
    mst v1_0.2 (⟨x45.fTime, x45.fSource, x45.fSeq⟩ : z0q) x44 fun x46 =>
    (zal n a1 a0 k1_0_0 mv1_0) ((IntKind.wrap .i64 (v1_0.1 + 1)), x46))
   <| k1_0_0 v1_0.2
def zjp (n : Nat) (a0 : z05) (a1 : (List z02)) : Option ((Option z0h) × Int) :=
 bnd (zgm n a0) fun x1 =>
 cnd (!decide (x1 = 0))
  (some (none, x1))
 <| bnd (zla n a1) fun x2 =>
 cnd (!decide (x2 = 0))
  (some (none, x2))
 <| zal n a1 a0
  (fun k1_0_0y => some ((some ⟨a0, k1_0_0y⟩), 0)) n (0, [])
def zn2 (n : Nat) : Option (z00) :=
 some (⟨0, [], []⟩)
def zbk (n : Nat) (a0 : z0h) (a1 : z00) (a2 : z02) : Option (z0h × z00 × z02) :=
 some (a0, a1, a2)
def z72 (n : Nat) (a0 : z00) (m0 : (List z00)) (m1 : (List z03)) : Option ((List z00) × (List z03)) :=
 cnd (decide (a0.fState < 0))
  (app m1 [⟨a0.fBindings⟩] 24 fun x3 =>
  some (m0, x3))
 <| app m0 [a0] 56 fun x4 =>
 some (x4, m1)
def z5c (n : Nat) (a1 : (List z0g)) (a0 : z0h) (x1 : Nat) (k1_0_0 : (List (List z02)) → Option (z0d)) : Nat → Int × (List (List z02)) → Option (z0d)
 | 0, _ => none
 | mv1_0 + 1, v1_0 =>
   cnd (decide (v1_0.1 < (((List.map z09 (a1)).length : Nat) : Int)))
    (idx a1 v1_0.1 fun x43 =>
    ncx x43.fVar x1 <|
    ntk v1_0.2 (Int.toNat x43.fVar) fun x44 =>
    mgv a0.fheld (⟨x43.fRef.fTime, x43.fRef.fSource, x43.fRef.fSeq⟩ : z0q) (⟨0, 0, 0, 0, []⟩ : z02) fun x45 x46 =>
    app x44 [x45] 56 fun x47 =>
    ncx x43.fVar x1 <|
    npt v1_0.2 (Int.toNat x43.fVar) x47 fun x48 =>
    (z5c n a1 a0 x1 k1_0_0 mv1_0) ((IntKind.wrap .i64 (v1_0.1 + 1)), x48))
   <| k1_0_0 v1_0.2
def zgl (n : Nat) (a0 : z0h) (a1 : (List z0g)) : Option (z0d) :=
 mkn a0.fa.fVars 24 fun x1 =>
 nst 13 <| reg <| z5c n a1 a0 x1
  (fun k1_0_0y => frr 13 <| reg <| some ⟨k1_0_0y⟩) n (0, (List.replicate (x1) ([] : List z02)))
def z19 (n : Nat) (a1 : Int) (a0f2 : z02) (a0f1 : Int) (a0f0 : z0d) (w1_0 : Bool) : Option ((List z02)) :=
 cnd (w1_0)
  (some [])
 <| idx a0f0.fVars a1 fun x2 =>
 some x2
attribute [irreducible] z19
def z73 (n : Nat) (a0f0 : z0d) (a0f1 : Int) (a0f2 : z02) (a1 : Int) : Option ((List z02)) :=
 jon (z19 n a1 a0f2 a0f1 a0f0) <|
 reg <| cnd (decide (a1 < 0))
  (z19 n a1 a0f2 a0f1 a0f0 true)
 <| z19 n a1 a0f2 a0f1 a0f0 (decide ((((List.map (fun q => AV.sl 5 (List.map z0a q)) (a0f0.fVars)).length : Nat) : Int) ≤ a1))
def zkl (n : Nat) (a0 : z02) (a1 : Int) : Option (z01 × Int) :=
 cnd (decide ((((List.map z0c (a0.fValues)).length : Nat) : Int) ≤ a1))
  (some (⟨0, 0, ByteArray.empty⟩, 6))
 <| idx a0.fValues a1 fun x1 =>
 some (x1, 0)
def z3c (n : Nat) (a1 : z0f) (x1 : (List z02)) (k1_0_0 : (List z01) → Option (z01 × Int)) : Nat → Int × (List z01) → Option (z01 × Int)
 | 0, _ => none
 | mv1_0 + 1, v1_0 =>
   cnd (decide (v1_0.1 < (((List.map z0a (x1)).length : Nat) : Int)))
    (idx x1 v1_0.1 fun x44 =>
    bnd (zkl n x44 a1.fField) fun x45 =>
    cnd (!decide (x45.2 = 0))
     (some (⟨0, 0, ByteArray.empty⟩, x45.2))
    <| app v1_0.2 [x45.1] 32 fun x46 =>
    (z3c n a1 x1 k1_0_0 mv1_0) ((IntKind.wrap .i64 (v1_0.1 + 1)), x46))
   <| k1_0_0 v1_0.2
def zaj (n : Nat) (a0f0 : z0d) (a0f1 : Int) (a0f2 : z02) (a1 : z0f) : Option (z01 × Int) :=
 bnd (z73 n (⟨a0f0.fVars⟩ : z0d) a0f1 a0f2 a1.fVar) fun x1 =>
 z3c n a1 x1
  (fun k1_0_0y => bnd (zlf n a1.fKind k1_0_0y a1.fValue) fun x43 =>
 some (x43.1, x43.2)) n (0, [])
def z1h (n : Nat) (x9 : z01 × Int) (w2_1 : Int) : Option (z01 × Int) :=
 cnd (!decide (w2_1 = 0))
  (some (⟨0, 0, ByteArray.empty⟩, w2_1))
 <| some (x9.1, 0)
attribute [irreducible] z1h
def z1i (n : Nat) (a1 : z0f) (w1_0 : Int × Int × Int × Int × (List z01)) : Option (z01 × Int) :=
 cnd (decide (a1.fOp = 2))
  (some (⟨0, w1_0.2.2.2.1, ByteArray.empty⟩, 0))
 <| bnd (zkl n (⟨w1_0.1, w1_0.2.1, w1_0.2.2.1, w1_0.2.2.2.1, w1_0.2.2.2.2⟩ : z02) a1.fField) fun x9 =>
 jon (z1h n x9) <|
 reg <| cnd (decide (x9.2 = 0))
  (bnd (zby n x9.1) fun x12 =>
  z1h n x9 x12)
 <| z1h n x9 x9.2
attribute [irreducible] z1i
def zax (n : Nat) (a0f0 : z0d) (a0f1 : Int) (a0f2 : z02) (a1 : z0f) : Option (z01 × Int) :=
 bnd (z73 n (⟨a0f0.fVars⟩ : z0d) a0f1 a0f2 a1.fVar) fun x1 =>
 cnd (decide (a1.fOp = 0))
  (some (a1.fValue, 0))
 <| cnd (decide (a1.fOp = 3))
  (some (⟨0, (((List.map z0a (x1)).length : Nat) : Int), ByteArray.empty⟩, 0))
 <| cnd (decide (a1.fOp = 4))
  (bnd (zaj n (⟨a0f0.fVars⟩ : z0d) a0f1 a0f2 a1) fun x2 =>
  some (x2.1, x2.2))
 <| jon (z1i n a1) <|
 reg <| cnd (!decide (a1.fVar = a0f1))
  (cnd (decide ((((List.map z0a (x1)).length : Nat) : Int) = 0))
    (some (⟨0, 0, ByteArray.empty⟩, 10))
  <| idx x1 (IntKind.wrap .i64 ((((List.map z0a (x1)).length : Nat) : Int) - 1)) fun x13 =>
  z1i n a1 (x13.fSource, x13.fSeq, x13.fType, x13.fTime, x13.fValues))
 <| z1i n a1 (a0f2.fSource, a0f2.fSeq, a0f2.fType, a0f2.fTime, a0f2.fValues)
def z36 (n : Nat) (a1 : (List Int)) (a0 : Int) (v1_0 : Int) (cv1_0 : Int → Option (Int)) (x41 : Int) (w6_2 : Bool) : Option (Int) :=
 cnd (w6_2)
  (cnd (!(decide (x41 = 1)))
    (some 9)
  <| cv1_0 (IntKind.wrap .i64 (v1_0 + 1)))
 <| reg <| cnd (decide (a0 = 9))
  (idx a1 0 fun x44 =>
  cnd (!(decide (x41 = x44)))
   (some 9)
  <| cv1_0 (IntKind.wrap .i64 (v1_0 + 1)))
 <| cv1_0 (IntKind.wrap .i64 (v1_0 + 1))
attribute [irreducible] z36
def z2q (n : Nat) (a1 : (List Int)) (a0 : Int) (v1_0 : Int) (cv1_0 : Int → Option (Int)) (x41 : Int) (w5_1 : Bool) : Option (Int) :=
 cnd (w5_1)
  (cnd (!(decide (x41 = 0)))
    (some 9)
  <| cv1_0 (IntKind.wrap .i64 (v1_0 + 1)))
 <| jon (z36 n a1 a0 v1_0 cv1_0 x41) <|
 reg <| cnd (decide (a0 = 10))
  (z36 n a1 a0 v1_0 cv1_0 x41 (decide (a0 = 10)))
 <| reg <| cnd (decide (a0 = 11))
  (z36 n a1 a0 v1_0 cv1_0 x41 (decide (a0 = 11)))
 <| z36 n a1 a0 v1_0 cv1_0 x41 (decide (a0 = 12))
attribute [irreducible] z2q
def z35 (n : Nat) (a1 : (List Int)) (a0 : Int) (k1_0_0 : Option (Int)) : Nat → Int → Option (Int)
 | 0, _ => none
 | mv1_0 + 1, v1_0 =>
   cnd (decide (v1_0 < (((List.map aI (a1)).length : Nat) : Int)))
    (idx a1 v1_0 fun x41 =>
    jon (z2q n a1 a0 v1_0 (z35 n a1 a0 k1_0_0 mv1_0) x41) <|
    reg <| cnd (decide (a0 = 5))
     (z2q n a1 a0 v1_0 (z35 n a1 a0 k1_0_0 mv1_0) x41 (decide (a0 = 5)))
    <| reg <| cnd (decide (a0 = 6))
     (z2q n a1 a0 v1_0 (z35 n a1 a0 k1_0_0 mv1_0) x41 (decide (a0 = 6)))
    <| reg <| cnd (decide (a0 = 7))
     (z2q n a1 a0 v1_0 (z35 n a1 a0 k1_0_0 mv1_0) x41 (decide (a0 = 7)))
    <| z2q n a1 a0 v1_0 (z35 n a1 a0 k1_0_0 mv1_0) x41 (decide (a0 = 8)))
   <| k1_0_0
def zjq (n : Nat) (a0 : Int) (a1 : (List Int)) : Option (Int) :=
 z35 n a1 a0
  (some 0) n 0
def zph (n : Nat) (a0 : Bool) : Option (z01) :=
 cnd (a0)
  (some (⟨1, 1, ByteArray.empty⟩))
 <| some (⟨1, 0, ByteArray.empty⟩)
def z83 (n : Nat) (a0 : Bool) : Option (z01) :=
 bnd (zph n a0) fun x1 =>
 some x1
def zai (n : Nat) (a0 : Int) : Option (z01) :=
 some (⟨0, a0, ByteArray.empty⟩)
def zdt (n : Nat) (a0 : Int) (a1 : Int) : Option (z01) :=
 bnd (zai n (IntKind.wrap .i64 (a0 + a1))) fun x1 =>
 some x1
def zds (n : Nat) (a0 : Int) (a1 : Int) : Option (z01) :=
 bnd (zai n (IntKind.wrap .i64 (a0 - a1))) fun x1 =>
 some x1
def zdr (n : Nat) (a0 : Int) (a1 : Int) : Option (z01) :=
 bnd (z83 n (decide (a0 < a1))) fun x1 =>
 some x1
def zdq (n : Nat) (a0 : Int) (a1 : Int) : Option (z01) :=
 bnd (z83 n (decide (a0 ≤ a1))) fun x1 =>
 some x1
def z2f (n : Nat) (w1_0 : Int × Int × ByteArray) : Option (z01) :=
 some (⟨w1_0.1, w1_0.2.1, w1_0.2.2⟩)
attribute [irreducible] z2f
def zdp (n : Nat) (a0 : Int) (a1 : Int) : Option (z01) :=
 jon (z2f n) <|
 reg <| cnd (decide (a0 = 1))
  (bnd (z83 n (decide (a1 = 1))) fun x6 =>
  z2f n (x6.fKind, x6.fNum, x6.fText))
 <| bnd (z83 n false) fun x7 =>
 z2f n (x7.fKind, x7.fNum, x7.fText)
def z2e (n : Nat) (w1_0 : Int × Int × ByteArray) : Option (z01) :=
 some (⟨w1_0.1, w1_0.2.1, w1_0.2.2⟩)
attribute [irreducible] z2e
def zdo (n : Nat) (a0 : Int) (a1 : Int) : Option (z01) :=
 jon (z2e n) <|
 reg <| cnd (decide (a0 = 1))
  (bnd (z83 n true) fun x6 =>
  z2e n (x6.fKind, x6.fNum, x6.fText))
 <| bnd (z83 n (decide (a1 = 1))) fun x7 =>
 z2e n (x7.fKind, x7.fNum, x7.fText)
def zdn (n : Nat) (a0 : Int) (a1 : Int) : Option (z01) :=
 bnd (z83 n (!decide (a0 = 1))) fun x1 =>
 some x1
def z3g (n : Nat) (rF_expr_evaluator__eval : z0d → Int → z02 → z0f → Option (z01 × Int)) (a1 : z0f) (a0f2 : z02) (a0f1 : Int) (a0f0 : z0d) (k1_0_0 : (List z01) → (List Int) → Option (z01 × Int)) : Nat → Int × (List z01) × (List Int) → Option (z01 × Int)
 | 0, _ => none
 | mv1_0 + 1, v1_0 =>
   cnd (decide (v1_0.1 < (((List.map idA (a1.fArgs)).length : Nat) : Int)))
    (idxD z4y a1.fArgs v1_0.1 fun x85 =>
    bnd (rF_expr_evaluator__eval (⟨a0f0.fVars⟩ : z0d) a0f1 a0f2 x85) fun x86 =>
    cnd (!decide (x86.2 = 0))
     (some (⟨0, 0, ByteArray.empty⟩, x86.2))
    <| app v1_0.2.1 [x86.1] 32 fun x87 =>
    app v1_0.2.2 [x86.1.fKind] 8 fun x88 =>
    (z3g n rF_expr_evaluator__eval a1 a0f2 a0f1 a0f0 k1_0_0 mv1_0) ((IntKind.wrap .i64 (v1_0.1 + 1)), x87, x88))
   <| k1_0_0 v1_0.2.1 v1_0.2.2
def z8h : Nat → z0d → Int → z02 → z0f → Option (z01 × Int)
 | 0, _, _, _, _ => none
 | n + 1, a0f0, a0f1, a0f2, a1 =>
 cnd (decide ((((List.map idA (a1.fArgs)).length : Nat) : Int) = 0))
  (bnd (zax n (⟨a0f0.fVars⟩ : z0d) a0f1 a0f2 a1) fun x1 =>
  some (x1.1, x1.2))
 <| z3g n (z8h n) a1 a0f2 a0f1 a0f0
  (fun k1_0_0y0 k1_0_0y1 => bnd (zjq n a1.fOp k1_0_0y1) fun x44 =>
 cnd (!decide (x44 = 0))
  (some (⟨0, 0, ByteArray.empty⟩, x44))
 <| cnd (decide (a1.fOp = 9))
  (nat 0 (List.map z0c (k1_0_0y0)).length fun x45 =>
  elt k1_0_0y0 x45 fun x46 =>
  nat 1 (List.map z0c (k1_0_0y0)).length fun x47 =>
  elt k1_0_0y0 x47 fun x48 =>
  bnd (z83 n (decide (x46.fKind = x48.fKind) && (decide (x46.fNum = x48.fNum) && ((x46.fText.toList == x48.fText.toList) && true)))) fun x49 =>
  some (x49, 0))
 <| natc a1.fOp 5
  (nat 0 (List.map z0c (k1_0_0y0)).length fun x50 =>
 ltx x50 (List.map z0c (k1_0_0y0)).length <| elt k1_0_0y0 x50 fun x51 =>
 nat (IntKind.wrap .i64 ((((List.map z0c (k1_0_0y0)).length : Nat) : Int) - 1)) (List.map z0c (k1_0_0y0)).length fun x52 =>
 ltx x52 (List.map z0c (k1_0_0y0)).length <| elt k1_0_0y0 x52 fun x53 =>
 bnd (zdt n x51.fNum x53.fNum) fun x54 =>
 some (x54, 0))
 <| natc a1.fOp 6
  (nat 0 (List.map z0c (k1_0_0y0)).length fun x55 =>
 ltx x55 (List.map z0c (k1_0_0y0)).length <| elt k1_0_0y0 x55 fun x56 =>
 nat (IntKind.wrap .i64 ((((List.map z0c (k1_0_0y0)).length : Nat) : Int) - 1)) (List.map z0c (k1_0_0y0)).length fun x57 =>
 ltx x57 (List.map z0c (k1_0_0y0)).length <| elt k1_0_0y0 x57 fun x58 =>
 bnd (zds n x56.fNum x58.fNum) fun x59 =>
 some (x59, 0))
 <| natc a1.fOp 7
  (nat 0 (List.map z0c (k1_0_0y0)).length fun x60 =>
 ltx x60 (List.map z0c (k1_0_0y0)).length <| elt k1_0_0y0 x60 fun x61 =>
 nat (IntKind.wrap .i64 ((((List.map z0c (k1_0_0y0)).length : Nat) : Int) - 1)) (List.map z0c (k1_0_0y0)).length fun x62 =>
 ltx x62 (List.map z0c (k1_0_0y0)).length <| elt k1_0_0y0 x62 fun x63 =>
 bnd (zdr n x61.fNum x63.fNum) fun x64 =>
 some (x64, 0))
 <| natc a1.fOp 8
  (nat 0 (List.map z0c (k1_0_0y0)).length fun x65 =>
 ltx x65 (List.map z0c (k1_0_0y0)).length <| elt k1_0_0y0 x65 fun x66 =>
 nat (IntKind.wrap .i64 ((((List.map z0c (k1_0_0y0)).length : Nat) : Int) - 1)) (List.map z0c (k1_0_0y0)).length fun x67 =>
 ltx x67 (List.map z0c (k1_0_0y0)).length <| elt k1_0_0y0 x67 fun x68 =>
 bnd (zdq n x66.fNum x68.fNum) fun x69 =>
 some (x69, 0))
 <| natc a1.fOp 10
  (nat 0 (List.map z0c (k1_0_0y0)).length fun x70 =>
 ltx x70 (List.map z0c (k1_0_0y0)).length <| elt k1_0_0y0 x70 fun x71 =>
 nat (IntKind.wrap .i64 ((((List.map z0c (k1_0_0y0)).length : Nat) : Int) - 1)) (List.map z0c (k1_0_0y0)).length fun x72 =>
 ltx x72 (List.map z0c (k1_0_0y0)).length <| elt k1_0_0y0 x72 fun x73 =>
 bnd (zdp n x71.fNum x73.fNum) fun x74 =>
 some (x74, 0))
 <| natc a1.fOp 11
  (nat 0 (List.map z0c (k1_0_0y0)).length fun x75 =>
 ltx x75 (List.map z0c (k1_0_0y0)).length <| elt k1_0_0y0 x75 fun x76 =>
 nat (IntKind.wrap .i64 ((((List.map z0c (k1_0_0y0)).length : Nat) : Int) - 1)) (List.map z0c (k1_0_0y0)).length fun x77 =>
 ltx x77 (List.map z0c (k1_0_0y0)).length <| elt k1_0_0y0 x77 fun x78 =>
 bnd (zdo n x76.fNum x78.fNum) fun x79 =>
 some (x79, 0))
 <| natc a1.fOp 12
  (nat 0 (List.map z0c (k1_0_0y0)).length fun x80 =>
 ltx x80 (List.map z0c (k1_0_0y0)).length <| elt k1_0_0y0 x80 fun x81 =>
 nat (IntKind.wrap .i64 ((((List.map z0c (k1_0_0y0)).length : Nat) : Int) - 1)) (List.map z0c (k1_0_0y0)).length fun x82 =>
 ltx x82 (List.map z0c (k1_0_0y0)).length <| elt k1_0_0y0 x82 fun x83 =>
 bnd (zdn n x81.fNum x83.fNum) fun x84 =>
 some (x84, 0))
 <| none) n (0, [], [])
def zs1 (n : Nat) (a0 : z0f) (a1 : z0d) (a2 : Int) (a3 : z02) : Option (z01 × Int) :=
 bnd (zeg n a0) fun x1 =>
 cnd (!decide (x1 = 0))
  (some (⟨0, 0, ByteArray.empty⟩, x1))
 <| bnd (z8h n (⟨a1.fVars⟩ : z0d) a2 a3 a0) fun x2 =>
 some (x2.1, x2.2)
def z59 (n : Nat) (w1_0 : Bool) : Option (Bool) :=
 some w1_0
attribute [irreducible] z59
def zhl (n : Nat) (a0 : z0f) (a1 : z0d) (a2 : Int) (a3 : z02) : Option (Bool) :=
 bnd (zs1 n a0 (⟨a1.fVars⟩ : z0d) a2 a3) fun x1 =>
 jon (z59 n) <|
 reg <| cnd (decide (x1.2 = 0))
  (bnd (z83 n true) fun x4 =>
  z59 n (decide (x1.1.fKind = x4.fKind) && (decide (x1.1.fNum = x4.fNum) && ((x1.1.fText.toList == x4.fText.toList) && true))))
 <| z59 n false
def z41 (n : Nat) (w1_0 : Bool) : Option (Bool) :=
 some w1_0
attribute [irreducible] z41
def zgs (n : Nat) (a0 : z0l) (a1 : z0d) (a2 : z02) : Option (Bool) :=
 jon (z41 n) <|
 reg <| cnd (decide (a0.fType = a2.fType))
  (bnd (zhl n a0.fCond (⟨a1.fVars⟩ : z0d) a0.fVar a2) fun x3 =>
  z41 n x3)
 <| z41 n false
def z9c (n : Nat) (a0 : z0l) (a1 : z0d) (a2 : z02) : Option (Bool) :=
 bnd (zgs n a0 (⟨a1.fVars⟩ : z0d) a2) fun x1 =>
 some x1
def z3b (n : Nat) (a1c1 : z02) (a1c0 : z0d) (a0 : (List z0l)) (k1_0_0 : Option (Int)) : Nat → Int → Option (Int)
 | 0, _ => none
 | mv1_0 + 1, v1_0 =>
   cnd (decide (v1_0 < (((List.map z0t (a0)).length : Nat) : Int)))
    (idx a0 v1_0 fun x41 =>
    bnd (z9c n x41 (⟨a1c0.fVars⟩ : z0d) a1c1) fun x42 =>
    cnd (x42)
     (some v1_0)
    <| (z3b n a1c1 a1c0 a0 k1_0_0 mv1_0) (IntKind.wrap .i64 (v1_0 + 1)))
   <| k1_0_0
def zaf (n : Nat) (a0 : (List z0l)) (a1c0 : z0d) (a1c1 : z02) : Option (Int) :=
 z3b n a1c1 a1c0 a0
  (some (-1)) n 0
def z8n (n : Nat) (a0 : (List z0l)) (a1c0 : z0d) (a1c1 : z02) : Option (Bool) :=
 bnd (zaf n a0 (⟨a1c0.fVars⟩ : z0d) a1c1) fun x1 =>
 some (decide (0 ≤ x1))
def z1c (n : Nat) (w1_0 : Bool) : Option (Bool) :=
 some w1_0
attribute [irreducible] z1c
def zah (n : Nat) (a0 : z0l) (a1 : z0i) (a2 : z0d) (a3 : z02) : Option (Bool) :=
 jon (z1c n) <|
 reg <| bnd (z7u n a1.fInside a0.fScope) fun x4 =>
 cnd (!(x4))
  (bnd (zgs n a0 (⟨a2.fVars⟩ : z0d) a3) fun x5 =>
  z1c n x5)
 <| z1c n false
def z3a (n : Nat) (a1c2 : z02) (a1c1 : z0d) (a1c0 : z0i) (a0 : (List z0l)) (k1_0_0 : Option (Int)) : Nat → Int → Option (Int)
 | 0, _ => none
 | mv1_0 + 1, v1_0 =>
   cnd (decide (v1_0 < (((List.map z0t (a0)).length : Nat) : Int)))
    (idx a0 v1_0 fun x41 =>
    bnd (zah n x41 a1c0 (⟨a1c1.fVars⟩ : z0d) a1c2) fun x42 =>
    cnd (x42)
     (some v1_0)
    <| (z3a n a1c2 a1c1 a1c0 a0 k1_0_0 mv1_0) (IntKind.wrap .i64 (v1_0 + 1)))
   <| k1_0_0
def zae (n : Nat) (a0 : (List z0l)) (a1c0 : z0i) (a1c1 : z0d) (a1c2 : z02) : Option (Int) :=
 z3a n a1c2 a1c1 a1c0 a0
  (some (-1)) n 0
def z8m (n : Nat) (a0 : (List z0l)) (a1c0 : z0i) (a1c1 : z0d) (a1c2 : z02) : Option (Bool) :=
 bnd (zae n a0 a1c0 (⟨a1c1.fVars⟩ : z0d) a1c2) fun x1 =>
 some (decide (0 ≤ x1))
def zgt (n : Nat) (a0 : z04) (a1 : Int) : Option (Int) :=
 bnd (z2g n a0.fScope a1) fun x1 =>
 some x1
def z23 (n : Nat) (a1 : Int) (a0 : (List z04)) (k1_0_0 : Int → Option (Int × Bool)) : Nat → Int × Int → Option (Int × Bool)
 | 0, _ => none
 | mv1_0 + 1, v1_0 =>
   cnd (decide (v1_0.1 < v1_0.2))
    (shx (1 : Int) <| idx a0 (IntKind.wrap .i64 (Int.fdiv (IntKind.wrap .u64 (IntKind.wrap .i64 (v1_0.1 + v1_0.2))) (2 ^ min (Int.toNat (1 : Int)) (IntKind.bits .u64)))) fun x44 =>
    bnd (zgt n x44 a1) fun x45 =>
    cnd (decide (x45 < 0))
     ((z23 n a1 a0 k1_0_0 mv1_0) ((IntKind.wrap .i64 ((IntKind.wrap .i64 (Int.fdiv (IntKind.wrap .u64 (IntKind.wrap .i64 (v1_0.1 + v1_0.2))) (2 ^ min (Int.toNat (1 : Int)) (IntKind.bits .u64)))) + 1)), v1_0.2))
    <| (z23 n a1 a0 k1_0_0 mv1_0) (v1_0.1, (IntKind.wrap .i64 (Int.fdiv (IntKind.wrap .u64 (IntKind.wrap .i64 (v1_0.1 + v1_0.2))) (2 ^ min (Int.toNat (1 : Int)) (IntKind.bits .u64))))))
   <| k1_0_0 v1_0.1
def z9b (n : Nat) (a0 : (List z04)) (a1 : Int) : Option (Int × Bool) :=
 z23 n a1 a0
  (fun k1_0_0y => cnd (decide (k1_0_0y < (((List.map z07 (a0)).length : Nat) : Int)))
  (idx a0 k1_0_0y fun x42 =>
  bnd (zgt n x42 a1) fun x43 =>
  some (k1_0_0y, decide (x43 = 0)))
 <| some (k1_0_0y, false)) n (0, (((List.map z07 (a0)).length : Nat) : Int))
def z56 (n : Nat) (a2 : Int) (a1 : (List Int)) (v1_0 : Int × (List z04)) (cv1_0 : (Int × (List z04)) → Option ((List z04))) (x44 : Int × Bool) (w3_1 : (List z04)) : Option ((List z04)) :=
 nat x44.1 (List.map z07 (w3_1)).length fun x47 =>
 ltx x47 (List.map z07 (w3_1)).length <| stx w3_1 x47 (fun x48 => ⟨x48.fScope, a2⟩) fun x49 =>
 cv1_0 ((IntKind.wrap .i64 (v1_0.1 + 1)), x49)
attribute [irreducible] z56
def z6m (n : Nat) (a2 : Int) (a1 : (List Int)) (k1_0_0 : (List z04) → Option ((List z04))) : Nat → Int × (List z04) → Option ((List z04))
 | 0, _ => none
 | mv1_0 + 1, v1_0 =>
   cnd (decide (v1_0.1 < (((List.map aI (a1)).length : Nat) : Int)))
    (idx a1 v1_0.1 fun x43 =>
    bnd (z9b n v1_0.2 x43) fun x44 =>
    jon (z56 n a2 a1 v1_0 (z6m n a2 a1 k1_0_0 mv1_0) x44) <|
    reg <| cnd (!(x44.2))
     (bndC (F_insert n v1_0.2 x44.1 ([⟨x43, 0⟩])) fun x50 =>
     z56 n a2 a1 v1_0 (z6m n a2 a1 k1_0_0 mv1_0) x44 x50)
    <| z56 n a2 a1 v1_0 (z6m n a2 a1 k1_0_0 mv1_0) x44 v1_0.2)
   <| k1_0_0 v1_0.2
def zps (n : Nat) (a0 : (List z04)) (a1 : (List Int)) (a2 : Int) : Option ((List z04)) :=
 bndR (zcs n a0) fun x1 =>
 z6m n a2 a1
  (fun k1_0_0y => some k1_0_0y) n (0, x1)
def zle (n : Nat) (a0 : z04) (a1 : z0x) : Option (Bool) :=
 some (decide (a0.fScope = a1.fScope))
def z38 (n : Nat) (a1c0 : z0x) (a0 : (List z04)) (k1_0_0 : Option (Int)) : Nat → Int → Option (Int)
 | 0, _ => none
 | mv1_0 + 1, v1_0 =>
   cnd (decide (v1_0 < (((List.map z07 (a0)).length : Nat) : Int)))
    (idx a0 v1_0 fun x41 =>
    bnd (zle n x41 a1c0) fun x42 =>
    cnd (x42)
     (some v1_0)
    <| (z38 n a1c0 a0 k1_0_0 mv1_0) (IntKind.wrap .i64 (v1_0 + 1)))
   <| k1_0_0
def zad (n : Nat) (a0 : (List z04)) (a1c0 : z0x) : Option (Int) :=
 z38 n a1c0 a0
  (some (-1)) n 0
def z57 (n : Nat) (a2 : Int) (a1 : (List z0x)) (a0 : (List z04)) (v1_0 : Int) (cv1_0 : Int → Option (Bool)) (w3_1 : Bool) : Option (Bool) :=
 cnd (w3_1)
  (some false)
 <| cv1_0 (IntKind.wrap .i64 (v1_0 + 1))
attribute [irreducible] z57
def z6n (n : Nat) (a2 : Int) (a1 : (List z0x)) (a0 : (List z04)) (k1_0_0 : Option (Bool)) : Nat → Int → Option (Bool)
 | 0, _ => none
 | mv1_0 + 1, v1_0 =>
   cnd (decide (v1_0 < (((List.map z0s (a1)).length : Nat) : Int)))
    (idx a1 v1_0 fun x41 =>
    bnd (zad n a0 x41) fun x42 =>
    jon (z57 n a2 a1 a0 v1_0 (z6n n a2 a1 a0 k1_0_0 mv1_0)) <|
    reg <| cnd (decide (x42 < 0))
     (z57 n a2 a1 a0 v1_0 (z6n n a2 a1 a0 k1_0_0 mv1_0) true)
    <| idx a0 x42 fun x45 =>
    z57 n a2 a1 a0 v1_0 (z6n n a2 a1 a0 k1_0_0 mv1_0) (decide (x41.fSpan < (IntKind.wrap .i64 (a2 - x45.fTime)))))
   <| k1_0_0
def zpt (n : Nat) (a0 : (List z04)) (a1 : (List z0x)) (a2 : Int) : Option (Bool) :=
 z6n n a2 a1 a0
  (some true) n 0
def zag (n : Nat) (a0 : z04) (a1 : z0i) : Option (Bool) :=
 bnd (z7u n a1.fCloses a0.fScope) fun x1 =>
 some x1
def z37 (n : Nat) (a1c0 : z0i) (a0 : (List z04)) (k1_0_0 : Option (Int)) : Nat → Int → Option (Int)
 | 0, _ => none
 | mv1_0 + 1, v1_0 =>
   cnd (decide (v1_0 < (((List.map z07 (a0)).length : Nat) : Int)))
    (idx a0 v1_0 fun x41 =>
    bnd (zag n x41 a1c0) fun x42 =>
    cnd (x42)
     (some v1_0)
    <| (z37 n a1c0 a0 k1_0_0 mv1_0) (IntKind.wrap .i64 (v1_0 + 1)))
   <| k1_0_0
def zac (n : Nat) (a0 : (List z04)) (a1c0 : z0i) : Option (Int) :=
 z37 n a1c0 a0
  (some (-1)) n 0
def z7l (n : Nat) (a0 : z04) (m0 : z0i) : Option (Bool × z0i) :=
 bnd (z7u n m0.fCloses a0.fScope) fun x1 =>
 some (x1, m0)
def z3j (n : Nat) (k1_0_0 : Int → Int → Int → Int → Int → Int → (List AV) → Int → Int → Int → Int → Int → ByteArray → (List Int) → (List Int) → (List AV) → (List z0x) → (List Int) → (List z04) → Option ((List z04) × z0i)) : Nat → Int × Int × Int × Int × Int × Int × Int × (List AV) × Int × Int × Int × Int × Int × ByteArray × (List Int) × (List Int) × (List AV) × (List z0x) × (List Int) × (List z04) → Option ((List z04) × z0i)
 | 0, _ => none
 | mv1_0 + 1, v1_0 =>
   cnd (decide (v1_0.2.1 < (((List.map z07 (v1_0.2.2.2.2.2.2.2.2.2.2.2.2.2.2.2.2.2.2.2)).length : Nat) : Int)))
    (nat v1_0.2.1 (List.map z07 (v1_0.2.2.2.2.2.2.2.2.2.2.2.2.2.2.2.2.2.2.2)).length fun x64 =>
    elt v1_0.2.2.2.2.2.2.2.2.2.2.2.2.2.2.2.2.2.2.2 x64 fun x65 =>
    bndM 28 (z7l n x65 (⟨v1_0.2.2.1, v1_0.2.2.2.1, v1_0.2.2.2.2.1, v1_0.2.2.2.2.2.1, ⟨v1_0.2.2.2.2.2.2.1, v1_0.2.2.2.2.2.2.2.1, v1_0.2.2.2.2.2.2.2.2.1, v1_0.2.2.2.2.2.2.2.2.2.1, v1_0.2.2.2.2.2.2.2.2.2.2.1, ⟨v1_0.2.2.2.2.2.2.2.2.2.2.2.1, v1_0.2.2.2.2.2.2.2.2.2.2.2.2.1, v1_0.2.2.2.2.2.2.2.2.2.2.2.2.2.1⟩⟩, v1_0.2.2.2.2.2.2.2.2.2.2.2.2.2.2.1, v1_0.2.2.2.2.2.2.2.2.2.2.2.2.2.2.2.1, v1_0.2.2.2.2.2.2.2.2.2.2.2.2.2.2.2.2.1, v1_0.2.2.2.2.2.2.2.2.2.2.2.2.2.2.2.2.2.1, v1_0.2.2.2.2.2.2.2.2.2.2.2.2.2.2.2.2.2.2.1⟩ : z0i)) fun x66 =>
    cnd (!(x66.1))
     (nat v1_0.1 (List.map z07 (v1_0.2.2.2.2.2.2.2.2.2.2.2.2.2.2.2.2.2.2.2)).length fun x67 =>
     stx v1_0.2.2.2.2.2.2.2.2.2.2.2.2.2.2.2.2.2.2.2 x67 (fun x68 => x65) fun x69 =>
     (z3j n k1_0_0 mv1_0) ((IntKind.wrap .i64 (v1_0.1 + 1)), (IntKind.wrap .i64 (v1_0.2.1 + 1)), x66.2.fFrom, x66.2.fTo, x66.2.fVar, x66.2.fType, x66.2.fCond.fOp, x66.2.fCond.fArgs, x66.2.fCond.fVar, x66.2.fCond.fField, x66.2.fCond.fKind, x66.2.fCond.fValue.fKind, x66.2.fCond.fValue.fNum, x66.2.fCond.fValue.fText, x66.2.fOpens, x66.2.fCloses, x66.2.fChecks, x66.2.fLimits, x66.2.fInside, x69))
    <| (z3j n k1_0_0 mv1_0) (v1_0.1, (IntKind.wrap .i64 (v1_0.2.1 + 1)), x66.2.fFrom, x66.2.fTo, x66.2.fVar, x66.2.fType, x66.2.fCond.fOp, x66.2.fCond.fArgs, x66.2.fCond.fVar, x66.2.fCond.fField, x66.2.fCond.fKind, x66.2.fCond.fValue.fKind, x66.2.fCond.fValue.fNum, x66.2.fCond.fValue.fText, x66.2.fOpens, x66.2.fCloses, x66.2.fChecks, x66.2.fLimits, x66.2.fInside, v1_0.2.2.2.2.2.2.2.2.2.2.2.2.2.2.2.2.2.2.2))
   <| k1_0_0 v1_0.1 v1_0.2.2.1 v1_0.2.2.2.1 v1_0.2.2.2.2.1 v1_0.2.2.2.2.2.1 v1_0.2.2.2.2.2.2.1 v1_0.2.2.2.2.2.2.2.1 v1_0.2.2.2.2.2.2.2.2.1 v1_0.2.2.2.2.2.2.2.2.2.1 v1_0.2.2.2.2.2.2.2.2.2.2.1 v1_0.2.2.2.2.2.2.2.2.2.2.2.1 v1_0.2.2.2.2.2.2.2.2.2.2.2.2.1 v1_0.2.2.2.2.2.2.2.2.2.2.2.2.2.1 v1_0.2.2.2.2.2.2.2.2.2.2.2.2.2.2.1 v1_0.2.2.2.2.2.2.2.2.2.2.2.2.2.2.2.1 v1_0.2.2.2.2.2.2.2.2.2.2.2.2.2.2.2.2.1 v1_0.2.2.2.2.2.2.2.2.2.2.2.2.2.2.2.2.2.1 v1_0.2.2.2.2.2.2.2.2.2.2.2.2.2.2.2.2.2.2.1 v1_0.2.2.2.2.2.2.2.2.2.2.2.2.2.2.2.2.2.2.2
def zdm (n : Nat) (m0 : z0i) (m1 : (List z04)) : Option ((List z04) × z0i) :=
 bnd (zac n m1 m0) fun x1 =>
 cnd (decide (x1 = (-1)))
  (some (m1, m0))
 <| z3j n
  (fun k1_0_0y0 k1_0_0y1 k1_0_0y2 k1_0_0y3 k1_0_0y4 k1_0_0y5 k1_0_0y6 k1_0_0y7 k1_0_0y8 k1_0_0y9 k1_0_0y10 k1_0_0y11 k1_0_0y12 k1_0_0y13 k1_0_0y14 k1_0_0y15 k1_0_0y16 k1_0_0y17 k1_0_0y18 => nle k1_0_0y0 (List.map z07 (k1_0_0y18)).length fun x61 =>
 clr k1_0_0y18 x61 (⟨0, 0⟩ : z04) fun x62 =>
 sls x62 0 k1_0_0y0 fun x63 =>
 some (x63, ⟨k1_0_0y1, k1_0_0y2, k1_0_0y3, k1_0_0y4, ⟨k1_0_0y5, k1_0_0y6, k1_0_0y7, k1_0_0y8, k1_0_0y9, ⟨k1_0_0y10, k1_0_0y11, k1_0_0y12⟩⟩, k1_0_0y13, k1_0_0y14, k1_0_0y15, k1_0_0y16, k1_0_0y17⟩)) n (x1, (IntKind.wrap .i64 (x1 + 1)), m0.fFrom, m0.fTo, m0.fVar, m0.fType, m0.fCond.fOp, m0.fCond.fArgs, m0.fCond.fVar, m0.fCond.fField, m0.fCond.fKind, m0.fCond.fValue.fKind, m0.fCond.fValue.fNum, m0.fCond.fValue.fText, m0.fOpens, m0.fCloses, m0.fChecks, m0.fLimits, m0.fInside, m1)
def z3q (n : Nat) (a4 : z02) (a2 : z0i) (a1 : z00) (x5 : (List z04)) (x12 : (List (List z02))) (k1_1_0 : (List z04) → Option (z00 × Bool)) : Nat → Int → Option (z00 × Bool)
 | 0, _ => none
 | mv1_1 + 1, v1_1 =>
   cnd (decide (v1_1 < (((List.map idA (a2.fChecks)).length : Nat) : Int)))
    (idxD z4y a2.fChecks v1_1 fun x58 =>
    bnd (zhl n x58 (⟨x12⟩ : z0d) (-1) (⟨0, 0, 0, 0, []⟩ : z02)) fun x59 =>
    cnd (!(x59))
     (some (⟨0, [], []⟩, false))
    <| (z3q n a4 a2 a1 x5 x12 k1_1_0 mv1_1) (IntKind.wrap .i64 (v1_1 + 1)))
   <| k1_1_0 x5
def z1b (n : Nat) (a4 : z02) (a3 : z0d) (a2 : z0i) (a1 : z00) (w1_0 : Bool) : Option (z00 × Bool) :=
 cnd (w1_0)
  (some (⟨0, [], []⟩, false))
 <| bndR (zps n a1.fStarts a2.fOpens a4.fTime) fun x5 =>
 bnd (zpt n x5 a2.fLimits a4.fTime) fun x6 =>
 cnd (!(x6))
  (some (⟨0, [], []⟩, false))
 <| bndR (zcs n a3.fVars) fun x7 =>
 idx a3.fVars a2.fVar fun x8 =>
 bndR (zcs n x8) fun x9 =>
 app x9 [a4] 56 fun x10 =>
 nat a2.fVar (List.map (fun q => AV.sl 5 (List.map z0a q)) (x7)).length fun x11 =>
 stx x7 x11 (fun _ => x10) fun x12 =>
 z3q n a4 a2 a1 x5 x12
  (fun k1_1_0y => bndM 96 (zdm n a2 k1_1_0y) fun x54 =>
 bndR (zcs n a1.fBindings) fun x55 =>
 bnd (zpr n a4) fun x56 =>
 app x55 ([⟨x54.2.fVar, ⟨x56.fTime, x56.fSource, x56.fSeq⟩⟩]) 32 fun x57 =>
 some (⟨x54.2.fTo, x57, x54.1⟩, true)) n 0
attribute [irreducible] z1b
def z92 (n : Nat) (a0 : z0h) (a1 : z00) (a2 : z0i) (a3 : z0d) (a4 : z02) : Option (z00 × Bool) :=
 jon (z1b n a4 a3 a2 a1) <|
 reg <| cnd (!decide (a4.fType = a2.fType))
  (z1b n a4 a3 a2 a1 true)
 <| idx a0.fa.fStates a1.fState fun x60 =>
 bnd (z8m n x60.fGuards a2 (⟨a3.fVars⟩ : z0d) a4) fun x61 =>
 cnd (x61)
  (z1b n a4 a3 a2 a1 true)
 <| bnd (zhl n a2.fCond (⟨a3.fVars⟩ : z0d) a2.fVar a4) fun x62 =>
 z1b n a4 a3 a2 a1 !(x62)
def z18 (n : Nat) (m4 : z02) (m3 : z00) (m2 : z0h) (x1 : z0d) (k1_0_0 : (List z00) → (List z03) → Option ((List z00) × (List z03) × z0h × z00 × z02)) : Nat → Int × (List z00) × (List z03) → Option ((List z00) × (List z03) × z0h × z00 × z02)
 | 0, _ => none
 | mv1_0 + 1, v1_0 =>
   cnd (decide (v1_0.1 < (((List.map z0n (m2.fa.fEdges)).length : Nat) : Int)))
    (idx m2.fa.fEdges v1_0.1 fun x47 =>
    cnd (!decide (x47.fFrom = m3.fState))
     ((z18 n m4 m3 m2 x1 k1_0_0 mv1_0) ((IntKind.wrap .i64 (v1_0.1 + 1)), v1_0.2.1, v1_0.2.2))
    <| bnd (z92 n m2 m3 x47 (⟨x1.fVars⟩ : z0d) m4) fun x48 =>
    cnd (x48.2)
     (bndM 63 (z72 n x48.1 v1_0.2.1 v1_0.2.2) fun x49 =>
     (z18 n m4 m3 m2 x1 k1_0_0 mv1_0) ((IntKind.wrap .i64 (v1_0.1 + 1)), x49.1, x49.2))
    <| (z18 n m4 m3 m2 x1 k1_0_0 mv1_0) ((IntKind.wrap .i64 (v1_0.1 + 1)), v1_0.2.1, v1_0.2.2))
   <| k1_0_0 v1_0.2.1 v1_0.2.2
def z17 (n : Nat) (m4 : z02) (m3 : z00) (m2 : z0h) (x1 : z0d) (k2_1_0 : (List z00) → (List z03) → Option ((List z00) × (List z03) × z0h × z00 × z02)) : Nat → Int × (List z00) × (List z03) → Option ((List z00) × (List z03) × z0h × z00 × z02)
 | 0, _ => none
 | mv2_1 + 1, v2_1 =>
   cnd (decide (v2_1.1 < (((List.map z0n (m2.fa.fEdges)).length : Nat) : Int)))
    (idx m2.fa.fEdges v2_1.1 fun x92 =>
    cnd (!decide (x92.fFrom = m3.fState))
     ((z17 n m4 m3 m2 x1 k2_1_0 mv2_1) ((IntKind.wrap .i64 (v2_1.1 + 1)), v2_1.2.1, v2_1.2.2))
    <| bnd (z92 n m2 m3 x92 (⟨x1.fVars⟩ : z0d) m4) fun x93 =>
    cnd (x93.2)
     (bndM 63 (z72 n x93.1 v2_1.2.1 v2_1.2.2) fun x94 =>
     (z17 n m4 m3 m2 x1 k2_1_0 mv2_1) ((IntKind.wrap .i64 (v2_1.1 + 1)), x94.1, x94.2))
    <| (z17 n m4 m3 m2 x1 k2_1_0 mv2_1) ((IntKind.wrap .i64 (v2_1.1 + 1)), v2_1.2.1, v2_1.2.2))
   <| k2_1_0 v2_1.2.1 v2_1.2.2
def z7p (n : Nat) (m0 : (List z00)) (m1 : (List z03)) (m2 : z0h) (m3 : z00) (m4 : z02) : Option ((List z00) × (List z03) × z0h × z00 × z02) :=
 bnd (zgl n m2 m3.fBindings) fun x1 =>
 idx m2.fa.fStates m3.fState fun x2 =>
 bnd (z8n n x2.fGuards (⟨x1.fVars⟩ : z0d) m4) fun x3 =>
 cnd (!(x3))
  (bndM 32 (z72 n m3 m0 m1) fun x4 =>
  z18 n m4 m3 m2 x1
   (fun k1_0_0y0 k1_0_0y1 => some (k1_0_0y0, k1_0_0y1, m2, m3, m4)) n (0, x4.1, x4.2))
 <| z17 n m4 m3 m2 x1
  (fun k2_1_0y0 k2_1_0y1 => some (k2_1_0y0, k2_1_0y1, m2, m3, m4)) n (0, m0, m1)
def zbz (n : Nat) (a0 : z03) (a1 : z03) : Option (Bool) :=
 bnd (z9s n (⟨a0.fBindings⟩ : z03) (⟨a1.fBindings⟩ : z03)) fun x1 =>
 some (decide (x1 = 0))
def z20 (n : Nat) (x46 : Nat) (k2_1_0 : Int → (List z03) → Option ((List z03))) : Nat → Int × Int × (List z03) → Option ((List z03))
 | 0, _ => none
 | mv2_1 + 1, v2_1 =>
   gle x46 (List.map z0j (v2_1.2.2)).length <|
   cnd (decide (v2_1.2.1 < ((((List.map z0j (v2_1.2.2)).length - x46 : Nat)) : Int)))
    (nat v2_1.2.1 ((List.map z0j (v2_1.2.2)).length - x46) fun x92 =>
    elt v2_1.2.2 (x46 + x92) fun x93 =>
    nat (IntKind.wrap .i64 (v2_1.2.1 - 1)) ((List.map z0j (v2_1.2.2)).length - x46) fun x94 =>
    elt v2_1.2.2 (x46 + x94) fun x95 =>
    bnd (zbz n (⟨x93.fBindings⟩ : z03) (⟨x95.fBindings⟩ : z03)) fun x96 =>
    cnd (!(x96))
     (nat v2_1.2.1 ((List.map z0j (v2_1.2.2)).length - x46) fun x97 =>
     elt v2_1.2.2 (x46 + x97) fun x98 =>
     nat v2_1.1 (List.map z0j (v2_1.2.2)).length fun x99 =>
     stx v2_1.2.2 x99 (fun x100 => ⟨x98.fBindings⟩) fun x101 =>
     (z20 n x46 k2_1_0 mv2_1) ((IntKind.wrap .i64 (v2_1.1 + 1)), (IntKind.wrap .i64 (v2_1.2.1 + 1)), x101))
    <| (z20 n x46 k2_1_0 mv2_1) (v2_1.1, (IntKind.wrap .i64 (v2_1.2.1 + 1)), v2_1.2.2))
   <| k2_1_0 v2_1.1 v2_1.2.2
def z2x (n : Nat) (m0 : (List z03)) (k1_0_0 : Option ((List z03))) : Nat → Int → Option ((List z03))
 | 0, _ => none
 | mv1_0 + 1, v1_0 =>
   cnd (decide (v1_0 < (((List.map z0j (m0)).length : Nat) : Int)))
    (nat v1_0 (List.map z0j (m0)).length fun x41 =>
    elt m0 x41 fun x42 =>
    nat (IntKind.wrap .i64 (v1_0 - 1)) (List.map z0j (m0)).length fun x43 =>
    elt m0 x43 fun x44 =>
    bnd (zbz n (⟨x42.fBindings⟩ : z03) (⟨x44.fBindings⟩ : z03)) fun x45 =>
    cnd (x45)
     (nle v1_0 (List.map z0j (m0)).length fun x46 =>
     z20 n x46
      (fun k2_1_0y0 k2_1_0y1 => nle k2_1_0y0 (List.map z0j (k2_1_0y1)).length fun x89 =>
     clr k2_1_0y1 x89 (⟨[]⟩ : z03) fun x90 =>
     sls x90 0 k2_1_0y0 fun x91 =>
     some x91) n (v1_0, 1, m0))
    <| (z2x n m0 k1_0_0 mv1_0) (IntKind.wrap .i64 (v1_0 + 1)))
   <| k1_0_0
def z9a (n : Nat) (m0 : (List z03)) : Option ((List z03)) :=
 cnd (decide ((((List.map z0j (m0)).length : Nat) : Int) < 2))
  (some m0)
 <| z2x n m0
  (some m0) n 1
def zc0 (n : Nat) (m0 : (List z03)) : Option ((List z03)) :=
 bndC (zpq maOk maCmp n m0) fun x1 =>
 frb 3 <| reg <| bndM 10 (z9a n x1) fun x2 =>
 some x2
def z3r (n : Nat) (a2 : z02) (a1 : (List z00)) (a0 : z0h) (k1_0_0 : (List z00) → (List z03) → Option ((List z00) × (List z03))) : Nat → Int × (List z00) × (List z03) → Option ((List z00) × (List z03))
 | 0, _ => none
 | mv1_0 + 1, v1_0 =>
   cnd (decide (v1_0.1 < (((List.map z08 (a1)).length : Nat) : Int)))
    (idx a1 v1_0.1 fun x45 =>
    bndM 22 (zbk n a0 x45 a2) fun x46 =>
    bndM 810 (z7p n v1_0.2.1 v1_0.2.2 x46.1 x46.2.1 x46.2.2) fun x49 =>
    (z3r n a2 a1 a0 k1_0_0 mv1_0) ((IntKind.wrap .i64 (v1_0.1 + 1)), x49.1, x49.2.1))
   <| k1_0_0 v1_0.2.1 v1_0.2.2
def z93 (n : Nat) (a0 : z0h) (a1 : (List z00)) (a2 : z02) : Option ((List z00) × (List z03)) :=
 z3r n a2 a1 a0
  (fun k1_0_0y0 k1_0_0y1 => bndM 39 (zef n k1_0_0y0) fun x43 =>
 bndM 41 (zc0 n k1_0_0y1) fun x44 =>
 some (x43, x44)) n (0, [], [])
def z7q (n : Nat) (a1 : (List z02)) (x2 : z0h) (v2_1 : (List z00) × Int × (List z03)) (cv2_1 : (List z00) × Int × (List z03) → Option ((List z00) × (List z03) × Int)) (x49 : (List z00) × (List z03)) (w3_2 : Bool) : Option ((List z00) × (List z03) × Int) :=
 cnd (w3_2)
  (some ([], [], 17))
 <| app v2_1.2.2 x49.2 24 fun x51 =>
 cv2_1 (x49.1, (IntKind.wrap .i64 (v2_1.2.1 + 1)), x51)
attribute [irreducible] z7q
def z94 (n : Nat) (a1 : (List z02)) (x2 : z0h) (k2_1_0 : (List z00) → (List z03) → Option ((List z00) × (List z03) × Int)) : Nat → (List z00) × Int × (List z03) → Option ((List z00) × (List z03) × Int)
 | 0, _ => none
 | mv2_1 + 1, v2_1 =>
   cnd (decide (v2_1.2.1 < (((List.map z0a (a1)).length : Nat) : Int)))
    (idx a1 v2_1.2.1 fun x48 =>
    bnd (z93 n x2 v2_1.1 x48) fun x49 =>
    jon (z7q n a1 x2 v2_1 (z94 n a1 x2 k2_1_0 mv2_1) x49) <|
    reg <| cnd (decide (4096 < (((List.map z08 (x49.1)).length : Nat) : Int)))
     (z7q n a1 x2 v2_1 (z94 n a1 x2 k2_1_0 mv2_1) x49 true)
    <| cnd (decide (4096 < (((List.map z0j (x49.2)).length : Nat) : Int)))
     (z7q n a1 x2 v2_1 (z94 n a1 x2 k2_1_0 mv2_1) x49 true)
    <| z7q n a1 x2 v2_1 (z94 n a1 x2 k2_1_0 mv2_1) x49 (decide (4096 < (IntKind.wrap .i64 ((((List.map z0j (v2_1.2.2)).length : Nat) : Int) + (((List.map z0j (x49.2)).length : Nat) : Int))))))
   <| k2_1_0 v2_1.1 v2_1.2.2
def zhj (n : Nat) (a0 : z05) (a1 : (List z02)) : Option ((List z00) × (List z03) × Int) :=
 bndP (zjp n a0 a1) (fun r => r.1)
  (fun x1 =>
 cnd (!decide (x1.2 = 0))
  (some ([], [], x1.2))
 <| bnd (zn2 n) fun x3 =>
 none) fun x1 x2 =>
 cnd (!decide (x1.2 = 0))
  (some ([], [], x1.2))
 <| bnd (zn2 n) fun x4 =>
 z94 n a1 x2
  (fun k2_1_0y0 k2_1_0y1 => bndM 62 (zc0 n k2_1_0y1) fun x47 =>
 some (k2_1_0y0, x47, 0)) n ([x4], 0, [])
def z4v (n : Nat) : Option (z05) :=
 bnd (z1a n true) fun x1 =>
 mak 2 24 (⟨[]⟩ : z74) fun x2 =>
 bld ([⟨0, 1, 0, 0, ⟨0, [], 0, 0, 0, x1⟩, [], [], [], [], []⟩, ⟨1, (-1), 1, 0, ⟨0, [], 0, 0, 0, x1⟩, [], [], [], [], []⟩] : List z0i) fun x3 =>
 some (⟨3, 1, x2, x3⟩)
def zii (n : Nat) (a0 : z05) (a1 : (List z02)) : Option ((List z03) × Int) :=
 bnd (zhj n a0 a1) fun x1 =>
 some (x1.2.1, x1.2.2)
def z1t (n : Nat) (a0 : z02) : Option (z0q) :=
 some (⟨a0.fTime, a0.fSource, a0.fSeq⟩)
def z44 (n : Nat) (a0 : Int) (a1 : Int) : Option (z03) :=
 bnd (z26 n a0 0) fun x1 =>
 bnd (z1t n x1) fun x2 =>
 bnd (z26 n a1 0) fun x3 =>
 bnd (z1t n x3) fun x4 =>
 some (⟨[⟨0, ⟨x2.fTime, x2.fSource, x2.fSeq⟩⟩, ⟨1, ⟨x4.fTime, x4.fSource, x4.fSeq⟩⟩]⟩)
def z3z (n : Nat) (a1 : (List z03)) (a0 : (List z03)) (k1_0_0 : Option (Bool)) : Nat → Int → Option (Bool)
 | 0, _ => none
 | mv1_0 + 1, v1_0 =>
   cnd (decide (v1_0 < (((List.map z0j (a0)).length : Nat) : Int)))
    (idx a0 v1_0 fun x41 =>
    idx a1 v1_0 fun x42 =>
    bnd (z2n n (⟨x41.fBindings⟩ : z03) (⟨x42.fBindings⟩ : z03)) fun x43 =>
    cnd (!decide (x43 = 0))
     (some false)
    <| (z3z n a1 a0 k1_0_0 mv1_0) (IntKind.wrap .i64 (v1_0 + 1)))
   <| k1_0_0
def z5b (n : Nat) (a0 : (List z03)) (a1 : (List z03)) : Option (Bool) :=
 cnd (!decide ((((List.map z0j (a0)).length : Nat) : Int) = (((List.map z0j (a1)).length : Nat) : Int)))
  (some false)
 <| z3z n a1 a0
  (some true) n 0
def z1m (n : Nat) (w2_1 : Bool) : Option (Bool) :=
 some w2_1
attribute [irreducible] z1m
def z0w (n : Nat) (x5 : (List z00) × (List z03) × Int) (x23 : (List z03) × Int) (w1_0 : Bool) : Option (Bool) :=
 cnd (w1_0)
  (some false)
 <| jon (z1m n) <|
 reg <| bnd (z44 n 1 2) fun x35 =>
 bnd (z44 n 1 3) fun x36 =>
 bnd (z44 n 2 3) fun x37 =>
 bnd (z5b n x5.2.1 ([⟨x35.fBindings⟩, ⟨x36.fBindings⟩, ⟨x37.fBindings⟩])) fun x38 =>
 cnd (x38)
  (bnd (z44 n 1 2) fun x39 =>
  bnd (z44 n 2 3) fun x40 =>
  bnd (z5b n x23.1 ([⟨x39.fBindings⟩, ⟨x40.fBindings⟩])) fun x41 =>
  z1m n x41)
 <| z1m n false
attribute [irreducible] z0w
def z1j (n : Nat) : Option (Bool) :=
 bnd (z26 n 1 0) fun x1 =>
 bnd (z26 n 2 0) fun x2 =>
 bnd (z26 n 3 0) fun x3 =>
 bnd (zab n) fun x4 =>
 bnd (zhj n x4 ([x1, x2, x3])) fun x5 =>
 bndM 22 (z4v n) fun x6 =>
 nat 0 (List.map z0n (x6.fEdges)).length fun x7 =>
 ltx x7 (List.map z0n (x6.fEdges)).length <| elt x6.fEdges x7 fun x8 =>
 nat 1 (List.map z0m (x6.fStates)).length fun x9 =>
 ltx x9 (List.map z0m (x6.fStates)).length <| stx x6.fStates x9 (fun x10 => ⟨[⟨0, 1, 2, x8.fCond⟩]⟩) fun x11 =>
 frz 23000000 <| frz 23000001 <| reg <| bnd (z26 n 1 0) fun x12 =>
 bnd (z26 n 2 1) fun x13 =>
 bnd (z26 n 3 0) fun x14 =>
 bnd (zii n (⟨x6.fVars, x6.fScopes, x11, x6.fEdges⟩ : z05) ([x12, x13, x14])) fun x15 =>
 bndM 43 (z4v n) fun x16 =>
 nat 0 (List.map z0n (x16.fEdges)).length fun x17 =>
 ltx x17 (List.map z0n (x16.fEdges)).length <| stx x16.fEdges x17 (fun x18 => ⟨x18.fFrom, x18.fTo, x18.fVar, x18.fType, x18.fCond, [0], x18.fCloses, x18.fChecks, x18.fLimits, x18.fInside⟩) fun x19 =>
 nat 1 (List.map z0n (x19)).length fun x20 =>
 ltx x20 (List.map z0n (x19)).length <| stx x19 x20 (fun x21 => ⟨x21.fFrom, x21.fTo, x21.fVar, x21.fType, x21.fCond, x21.fOpens, x21.fCloses, x21.fChecks, [⟨0, 1⟩], x21.fInside⟩) fun x22 =>
 frz 44000000 <| frz 44000001 <| reg <| bnd (zii n (⟨x16.fVars, x16.fScopes, x16.fStates, x22⟩ : z05) ([x1, x2, x3])) fun x23 =>
 jon (z0w n x5 x23) <|
 reg <| cnd (!decide (x5.2.2 = 0))
  (z0w n x5 x23 true)
 <| cnd (!decide (x15.2 = 0))
  (z0w n x5 x23 true)
 <| cnd (!decide (x23.2 = 0))
  (z0w n x5 x23 true)
 <| cnd (!decide ((((List.map z08 (x5.1)).length : Nat) : Int) = 4))
  (z0w n x5 x23 true)
 <| cnd (!decide ((((List.map z0j (x15.1)).length : Nat) : Int) = 0))
  (z0w n x5 x23 true)
 <| idx x5.1 0 fun x42 =>
 cnd (!decide (x42.fState = 0))
  (z0w n x5 x23 true)
 <| idx x5.1 3 fun x43 =>
 z0w n x5 x23 (!decide (x43.fState = 1))
def z24 (n : Nat) (a0 : (List z00)) (k1_0_0 : (List z00) → Option ((List z00))) : Nat → (List z00) × Int → Option ((List z00))
 | 0, _ => none
 | mv1_0 + 1, v1_0 =>
   cnd (decide (v1_0.2 < (((List.map z08 (a0)).length : Nat) : Int)))
    (idx a0 v1_0.2 fun x42 =>
    bnd (z3s n v1_0.1 x42) fun x43 =>
    (z24 n a0 k1_0_0 mv1_0) (x43, (IntKind.wrap .i64 (v1_0.2 + 1))))
   <| k1_0_0 v1_0.1
def z5q (n : Nat) (a0 : (List z00)) : Option ((List z00)) :=
 z24 n a0
  (fun k1_0_0y => some k1_0_0y) n ([], 0)
def z78 (n : Nat) (a0 : (List z00)) : Option ((List z00) × Int) :=
 bnd (z5q n a0) fun x1 =>
 cnd (decide (4096 < (((List.map z08 (x1)).length : Nat) : Int)))
  (some ([], 5))
 <| some (x1, 0)
def z2j (n : Nat) (a1 : (List z00)) (a0 : (List z00)) (k1_0_0 : Option (Bool)) : Nat → Int → Option (Bool)
 | 0, _ => none
 | mv1_0 + 1, v1_0 =>
   cnd (decide (v1_0 < (((List.map z08 (a0)).length : Nat) : Int)))
    (idx a0 v1_0 fun x41 =>
    idx a1 v1_0 fun x42 =>
    bnd (z2k n x41 x42) fun x43 =>
    cnd (!decide (x43 = 0))
     (some false)
    <| (z2j n a1 a0 k1_0_0 mv1_0) (IntKind.wrap .i64 (v1_0 + 1)))
   <| k1_0_0
def z3h (n : Nat) (a0 : (List z00)) (a1 : (List z00)) : Option (Bool) :=
 cnd (!decide ((((List.map z08 (a0)).length : Nat) : Int) = (((List.map z08 (a1)).length : Nat) : Int)))
  (some false)
 <| z2j n a1 a0
  (some true) n 0
def z10 (n : Nat) (w1_0 : Bool) : Option (Bool) :=
 some w1_0
attribute [irreducible] z10
def z71 (n : Nat) (a0 : (List z00)) : Option (Bool) :=
 bnd (z80 n a0) fun x1 =>
 cnd (!(x1))
  (bnd (z1j n) fun x2 =>
  some x2)
 <| bnd (zik n a0) fun x3 =>
 bnd (z78 n a0) fun x4 =>
 jon (z10 n) <|
 reg <| bnd (z3h n x3.1 x4.1) fun x8 =>
 cnd (x8)
  (cnd (decide (x3.2 = x4.2))
    (bnd (z1j n) fun x9 =>
    z10 n x9)
  <| z10 n false)
 <| z10 n false
def z8e (n : Nat) (w1_0 : Bool) : Option (Bool) :=
 some w1_0
attribute [irreducible] z8e
def zdl (n : Nat) (a0 : z0f) : Option (Bool) :=
 jon (z8e n) <|
 reg <| bnd (zbh n a0 200) fun x4 =>
 cnd (decide (x4 ≤ 200))
  (bnd (zbg n a0) fun x5 =>
  z8e n (decide (x5 ≤ 100)))
 <| z8e n false
def zg6 (n : Nat) (a0 : (List z0l)) (k1_0_0 : Option (Bool)) : Nat → Int → Option (Bool)
 | 0, _ => none
 | mv1_0 + 1, v1_0 =>
   cnd (decide (v1_0 < (((List.map z0t (a0)).length : Nat) : Int)))
    (idx a0 v1_0 fun x41 =>
    bnd (zdl n x41.fCond) fun x42 =>
    cnd (!(x42))
     (some false)
    <| (zg6 n a0 k1_0_0 mv1_0) (IntKind.wrap .i64 (v1_0 + 1)))
   <| k1_0_0
def zjm (n : Nat) (a0 : (List z0l)) : Option (Bool) :=
 zg6 n a0
  (some true) n 0
def znr (n : Nat) (w9_2 : Bool) : Option (Bool) :=
 some w9_2
attribute [irreducible] znr
def zg7 (n : Nat) (a0 : z05) (v2_1 : Int) (x83 : z0i) (k3_5_0 : Option (Bool)) : Nat → Int → Option (Bool)
 | 0, _ => none
 | mv3_5 + 1, v3_5 =>
   cnd (decide (v3_5 < (((List.map idA (x83.fChecks)).length : Nat) : Int)))
    (idxD z4y x83.fChecks v3_5 fun x126 =>
    bnd (zdl n x126) fun x127 =>
    cnd (!(x127))
     (some false)
    <| (zg7 n a0 v2_1 x83 k3_5_0 mv3_5) (IntKind.wrap .i64 (v3_5 + 1)))
   <| k3_5_0
def z2m (n : Nat) (a0 : z05) (v2_1 : Int) (cv2_1 : Int → Option (Bool)) (x83 : z0i) (w11_4 : Bool) : Option (Bool) :=
 cnd (w11_4)
  (some false)
 <| zg7 n a0 v2_1 x83
  (cv2_1 (IntKind.wrap .i64 (v2_1 + 1))) n 0
attribute [irreducible] z2m
def zmx (n : Nat) (a0 : z05) (v2_1 : Int) (k2_1_0 : Option (Bool)) (cv2_1 : Int → Option (Bool)) (w10_3 : Bool) : Option (Bool) :=
 cnd (w10_3)
  (idx a0.fEdges v2_1 fun x83 =>
  jon (z2m n a0 v2_1 cv2_1 x83) <|
  reg <| bnd (zdl n x83.fCond) fun x128 =>
  cnd (!(x128))
   (z2m n a0 v2_1 cv2_1 x83 true)
  <| cnd (decide (8 < (((List.map idA (x83.fChecks)).length : Nat) : Int)))
   (z2m n a0 v2_1 cv2_1 x83 true)
  <| cnd (decide (12 < (((List.map aI (x83.fOpens)).length : Nat) : Int)))
   (z2m n a0 v2_1 cv2_1 x83 true)
  <| cnd (decide (12 < (((List.map aI (x83.fCloses)).length : Nat) : Int)))
   (z2m n a0 v2_1 cv2_1 x83 true)
  <| cnd (decide (12 < (((List.map aI (x83.fInside)).length : Nat) : Int)))
   (z2m n a0 v2_1 cv2_1 x83 true)
  <| z2m n a0 v2_1 cv2_1 x83 (decide (12 < (((List.map z0s (x83.fLimits)).length : Nat) : Int))))
 <| k2_1_0
attribute [irreducible] zmx
def z3d (n : Nat) (a0 : z05) (v1_0 : Int) (cv1_0 : Int → Option (Bool)) (w13_7 : Bool) : Option (Bool) :=
 cnd (w13_7)
  (some false)
 <| cv1_0 (IntKind.wrap .i64 (v1_0 + 1))
attribute [irreducible] z3d
def zmw (n : Nat) (a0 : z05) (v1_0 : Int) (k1_0_0 : Option (Bool)) (cv1_0 : Int → Option (Bool)) (w12_6 : Bool) : Option (Bool) :=
 cnd (w12_6)
  (jon (z3d n a0 v1_0 cv1_0) <|
  reg <| idx a0.fStates v1_0 fun x139 =>
  cnd (decide (12 < (((List.map z0t (x139.fGuards)).length : Nat) : Int)))
   (idx a0.fStates v1_0 fun x140 =>
   cnd (decide ((((List.map z0t (x140.fGuards)).length : Nat) : Int) ≤ 64))
    (z3d n a0 v1_0 cv1_0 true)
   <| idx a0.fStates v1_0 fun x141 =>
   cnd (decide (70 < (((List.map z0t (x141.fGuards)).length : Nat) : Int)))
    (z3d n a0 v1_0 cv1_0 true)
   <| idx a0.fStates v1_0 fun x142 =>
   bnd (zjm n x142.fGuards) fun x143 =>
   z3d n a0 v1_0 cv1_0 !(x143))
  <| idx a0.fStates v1_0 fun x144 =>
  cnd (decide (70 < (((List.map z0t (x144.fGuards)).length : Nat) : Int)))
   (z3d n a0 v1_0 cv1_0 true)
  <| idx a0.fStates v1_0 fun x145 =>
  bnd (zjm n x145.fGuards) fun x146 =>
  z3d n a0 v1_0 cv1_0 !(x146))
 <| k1_0_0
attribute [irreducible] zmw
def zg9 (n : Nat) (a0 : z02) : Option (Bool) :=
 cnd (decide (0 ≤ a0.fTime))
  (cnd (decide (a0.fTime ≤ 1099511627776))
    (cnd (decide (0 ≤ a0.fSource))
      (cnd (decide (a0.fSource < 8))
        (cnd (decide (0 ≤ a0.fSeq))
          (some (decide (a0.fSeq ≤ 1099511627776)))
        <| some false)
      <| some false)
    <| some false)
  <| some false)
 <| some false
def zcr (n : Nat) (a0 : z02) (a1 : z02) : Option (Bool) :=
 cnd (decide (a0.fSource = a1.fSource))
  (some (decide (a0.fSeq = a1.fSeq)))
 <| some false
def zee (n : Nat) (a0 : (List z02)) (v1_0 : Int) (k2_1_0 : Option (Int)) : Nat → Int → Option (Int)
 | 0, _ => none
 | mv2_1 + 1, v2_1 =>
   cnd (decide (v2_1 < v1_0))
    (idx a0 v2_1 fun x88 =>
    idx a0 v1_0 fun x89 =>
    bnd (zcr n x88 x89) fun x90 =>
    cnd (x90)
     (some 7)
    <| (zee n a0 v1_0 k2_1_0 mv2_1) (IntKind.wrap .i64 (v2_1 + 1)))
   <| k2_1_0
def zed (n : Nat) (a0 : (List z02)) (v1_0 : Int) (k3_2_0 : Option (Int)) : Nat → Int → Option (Int)
 | 0, _ => none
 | mv3_2 + 1, v3_2 =>
   cnd (decide (v3_2 < v1_0))
    (idx a0 v3_2 fun x131 =>
    idx a0 v1_0 fun x132 =>
    bnd (zcr n x131 x132) fun x133 =>
    cnd (x133)
     (some 7)
    <| (zed n a0 v1_0 k3_2_0 mv3_2) (IntKind.wrap .i64 (v3_2 + 1)))
   <| k3_2_0
def z9o (n : Nat) (a0 : (List z02)) (k1_0_0 : Option (Int)) : Nat → Int → Option (Int)
 | 0, _ => none
 | mv1_0 + 1, v1_0 =>
   cnd (decide (v1_0 < (((List.map z0a (a0)).length : Nat) : Int)))
    (idx a0 v1_0 fun x41 =>
    bnd (zg9 n x41) fun x42 =>
    cnd (!(x42))
     (some 2)
    <| cnd (decide (0 < v1_0))
     (idx a0 (IntKind.wrap .i64 (v1_0 - 1)) fun x43 =>
     bnd (z1t n x43) fun x44 =>
     idx a0 v1_0 fun x45 =>
     bnd (z1t n x45) fun x46 =>
     bnd (z3u n (⟨x44.fTime, x44.fSource, x44.fSeq⟩ : z0q) (⟨x46.fTime, x46.fSource, x46.fSeq⟩ : z0q)) fun x47 =>
     cnd (decide (0 ≤ x47))
      (some 14)
     <| zee n a0 v1_0
      ((z9o n a0 k1_0_0 mv1_0) (IntKind.wrap .i64 (v1_0 + 1))) n 0)
    <| zed n a0 v1_0
     ((z9o n a0 k1_0_0 mv1_0) (IntKind.wrap .i64 (v1_0 + 1))) n 0)
   <| k1_0_0
def zhh (n : Nat) (a0 : (List z02)) : Option (Int) :=
 cnd (decide (4096 < (((List.map z0a (a0)).length : Nat) : Int)))
  (some 5)
 <| z9o n a0
  (some 0) n 0
def zql (n : Nat) (a0 : z05) (a1 : (List z02)) : Option (Int) :=
 bnd (zpl n a0) fun x1 =>
 cnd (!decide (x1 = 0))
  (some x1)
 <| bnd (zhh n a1) fun x2 =>
 some x2
def zpj (n : Nat) : Option (z00) :=
 some (⟨0, [], []⟩)
def zea (n : Nat) (a1 : z0q) (a0 : (List z02)) (k1_0_0 : Option (z02 × Bool)) : Nat → Int → Option (z02 × Bool)
 | 0, _ => none
 | mv1_0 + 1, v1_0 =>
   cnd (decide (v1_0 < (((List.map z0a (a0)).length : Nat) : Int)))
    (idx a0 v1_0 fun x41 =>
    bnd (z1t n x41) fun x42 =>
    cnd ((decide (x42.fTime = a1.fTime) && (decide (x42.fSource = a1.fSource) && (decide (x42.fSeq = a1.fSeq) && true))))
     (idx a0 v1_0 fun x43 =>
     some (x43, true))
    <| (zea n a1 a0 k1_0_0 mv1_0) (IntKind.wrap .i64 (v1_0 + 1)))
   <| k1_0_0
def zpm (n : Nat) (a0 : (List z02)) (a1 : z0q) : Option (z02 × Bool) :=
 zea n a1 a0
  (some (⟨0, 0, 0, 0, []⟩, false)) n 0
def z4j (n : Nat) (a2 : (List z0g)) (a1 : Int) (a0 : (List z02)) (x1 : Nat) (k1_0_0 : (List (List z02)) → Option (z0d)) : Nat → Int × (List (List z02)) → Option (z0d)
 | 0, _ => none
 | mv1_0 + 1, v1_0 =>
   cnd (decide (v1_0.1 < (((List.map z09 (a2)).length : Nat) : Int)))
    (idx a2 v1_0.1 fun x43 =>
    bnd (zpm n a0 (⟨x43.fRef.fTime, x43.fRef.fSource, x43.fRef.fSeq⟩ : z0q)) fun x44 =>
    reg <| cnd (x44.2)
     (cnd (decide (0 ≤ x43.fVar))
       (cnd (decide (x43.fVar < a1))
         (ncx x43.fVar x1 <|
         ntk v1_0.2 (Int.toNat x43.fVar) fun x45 =>
         app x45 [x44.1] 56 fun x46 =>
         ncx x43.fVar x1 <|
         npt v1_0.2 (Int.toNat x43.fVar) x46 fun x47 =>
         (z4j n a2 a1 a0 x1 k1_0_0 mv1_0) ((IntKind.wrap .i64 (v1_0.1 + 1)), x47))
       <| (z4j n a2 a1 a0 x1 k1_0_0 mv1_0) ((IntKind.wrap .i64 (v1_0.1 + 1)), v1_0.2))
     <| (z4j n a2 a1 a0 x1 k1_0_0 mv1_0) ((IntKind.wrap .i64 (v1_0.1 + 1)), v1_0.2))
    <| (z4j n a2 a1 a0 x1 k1_0_0 mv1_0) ((IntKind.wrap .i64 (v1_0.1 + 1)), v1_0.2))
   <| k1_0_0 v1_0.2
def zpn (n : Nat) (a0 : (List z02)) (a1 : Int) (a2 : (List z0g)) : Option (z0d) :=
 mkn a1 24 fun x1 =>
 nst 13 <| reg <| z4j n a2 a1 a0 x1
  (fun k1_0_0y => frr 13 <| reg <| some ⟨k1_0_0y⟩) n (0, (List.replicate (x1) ([] : List z02)))
def zdk (n : Nat) (a0 : (List z02)) (a1 : z00) : Option (z0d) :=
 bnd (zpn n a0 16 a1.fBindings) fun x1 =>
 some ⟨x1.fVars⟩
def z51 (n : Nat) (w1_0 : Bool) : Option (Bool) :=
 some w1_0
attribute [irreducible] z51
def ze3 (n : Nat) (a0 : z0l) (a1 : z0d) (a2 : z02) : Option (Bool) :=
 jon (z51 n) <|
 reg <| cnd (decide (a0.fType = a2.fType))
  (bnd (zbf n a0.fCond (⟨a1.fVars⟩ : z0d) a0.fVar a2) fun x3 =>
  z51 n x3)
 <| z51 n false
def ze4 (n : Nat) (a3 : z02) (x1 : z0d) (x2 : z74) (k1_0_0 : Option (Bool)) : Nat → Int → Option (Bool)
 | 0, _ => none
 | mv1_0 + 1, v1_0 =>
   cnd (decide (v1_0 < (((List.map z0t (x2.fGuards)).length : Nat) : Int)))
    (idx x2.fGuards v1_0 fun x43 =>
    bnd (ze3 n x43 (⟨x1.fVars⟩ : z0d) a3) fun x44 =>
    cnd (x44)
     (some false)
    <| (ze4 n a3 x1 x2 k1_0_0 mv1_0) (IntKind.wrap .i64 (v1_0 + 1)))
   <| k1_0_0
def zpi (n : Nat) (a0 : z05) (a1 : (List z02)) (a2 : z00) (a3 : z02) : Option (Bool) :=
 bnd (zdk n a1 a2) fun x1 =>
 idx a0.fStates a2.fState fun x2 =>
 ze4 n a3 x1 x2
  (some true) n 0
def za9 (n : Nat) (a1 : Int) (a0 : z05) (k1_0_0 : (List z0i) → Option ((List z0i))) : Nat → Int × (List z0i) → Option ((List z0i))
 | 0, _ => none
 | mv1_0 + 1, v1_0 =>
   cnd (decide (v1_0.1 < (((List.map z0n (a0.fEdges)).length : Nat) : Int)))
    (reg <| idx a0.fEdges v1_0.1 fun x42 =>
    cnd (decide (x42.fFrom = a1))
     (idx a0.fEdges v1_0.1 fun x43 =>
     app v1_0.2 [x43] 240 fun x44 =>
     (za9 n a1 a0 k1_0_0 mv1_0) ((IntKind.wrap .i64 (v1_0.1 + 1)), x44))
    <| (za9 n a1 a0 k1_0_0 mv1_0) ((IntKind.wrap .i64 (v1_0.1 + 1)), v1_0.2))
   <| k1_0_0 v1_0.2
def zqn (n : Nat) (a0 : z05) (a1 : Int) : Option ((List z0i)) :=
 za9 n a1 a0
  (fun k1_0_0y => some k1_0_0y) n (0, [])
def zg1 (n : Nat) (a1 : Int) (a0 : (List Int)) (k1_0_0 : Option (Bool)) : Nat → Int → Option (Bool)
 | 0, _ => none
 | mv1_0 + 1, v1_0 =>
   cnd (decide (v1_0 < (((List.map aI (a0)).length : Nat) : Int)))
    (idx a0 v1_0 fun x41 =>
    cnd (decide (x41 = a1))
     (some true)
    <| (zg1 n a1 a0 k1_0_0 mv1_0) (IntKind.wrap .i64 (v1_0 + 1)))
   <| k1_0_0
def zrt (n : Nat) (a0 : (List Int)) (a1 : Int) : Option (Bool) :=
 zg1 n a1 a0
  (some false) n 0
def z98 (n : Nat) (a1 : Int) (a0 : (List z04)) (k1_0_0 : (List z04) → Option ((List z04))) : Nat → Int × (List z04) → Option ((List z04))
 | 0, _ => none
 | mv1_0 + 1, v1_0 =>
   cnd (decide (v1_0.1 < (((List.map z07 (a0)).length : Nat) : Int)))
    (reg <| idx a0 v1_0.1 fun x42 =>
    cnd (!decide (x42.fScope = a1))
     (idx a0 v1_0.1 fun x43 =>
     app v1_0.2 [x43] 16 fun x44 =>
     (z98 n a1 a0 k1_0_0 mv1_0) ((IntKind.wrap .i64 (v1_0.1 + 1)), x44))
    <| (z98 n a1 a0 k1_0_0 mv1_0) ((IntKind.wrap .i64 (v1_0.1 + 1)), v1_0.2))
   <| k1_0_0 v1_0.2
def zg2 (n : Nat) (a0 : (List z04)) (a1 : Int) : Option ((List z04)) :=
 z98 n a1 a0
  (fun k1_0_0y => some k1_0_0y) n (0, [])
def z64 (n : Nat) (a2 : Int) (a1 : Int) (x1 : (List z04)) (v1_0 : Int × (List z04)) (k1_0_0 : (List z04) → Int → (List z04) → Option ((List z04))) (cv1_0 : (Int × (List z04)) → Option ((List z04))) (w3_1 : Bool) : Option ((List z04)) :=
 cnd (w3_1)
  (idx x1 v1_0.1 fun x50 =>
  app v1_0.2 [x50] 16 fun x51 =>
  cv1_0 ((IntKind.wrap .i64 (v1_0.1 + 1)), x51))
 <| k1_0_0 x1 v1_0.1 v1_0.2
attribute [irreducible] z64
def z63 (n : Nat) (a2 : Int) (a1 : Int) (x1 : (List z04)) (k1_0_0 : (List z04) → Int → (List z04) → Option ((List z04))) : Nat → Int × (List z04) → Option ((List z04))
 | 0, _ => none
 | mv1_0 + 1, v1_0 =>
   jon (z64 n a2 a1 x1 v1_0 k1_0_0 (z63 n a2 a1 x1 k1_0_0 mv1_0)) <|
   reg <| cnd (decide (v1_0.1 < (((List.map z07 (x1)).length : Nat) : Int)))
    (idx x1 v1_0.1 fun x52 =>
    z64 n a2 a1 x1 v1_0 k1_0_0 (z63 n a2 a1 x1 k1_0_0 mv1_0) (decide (x52.fScope < a1)))
   <| z64 n a2 a1 x1 v1_0 k1_0_0 (z63 n a2 a1 x1 k1_0_0 mv1_0) false
def znn (n : Nat) (a0 : (List z04)) (a1 : Int) (a2 : Int) : Option ((List z04)) :=
 bnd (zg2 n a0 a1) fun x1 =>
 z63 n a2 a1 x1
  (fun k1_0_0y0 k1_0_0y1 k1_0_0y2 => app k1_0_0y2 ([⟨a1, a2⟩]) 16 fun x45 =>
 sls k1_0_0y0 k1_0_0y1 (((List.map z07 (k1_0_0y0)).length : Nat) : Int) fun x46 =>
 app x45 x46 16 fun x47 =>
 some x47) n (0, [])
def zf7 (n : Nat) (a2 : Int) (a1 : z0x) (a0 : (List z04)) (k1_0_0 : Option (Bool)) : Nat → Int → Option (Bool)
 | 0, _ => none
 | mv1_0 + 1, v1_0 =>
   cnd (decide (v1_0 < (((List.map z07 (a0)).length : Nat) : Int)))
    (idx a0 v1_0 fun x41 =>
    cnd (decide (x41.fScope = a1.fScope))
     (idx a0 v1_0 fun x42 =>
     some (decide ((IntKind.wrap .i64 (a2 - x42.fTime)) ≤ a1.fSpan)))
    <| (zf7 n a2 a1 a0 k1_0_0 mv1_0) (IntKind.wrap .i64 (v1_0 + 1)))
   <| k1_0_0
def zqk (n : Nat) (a0 : (List z04)) (a1 : z0x) (a2 : Int) : Option (Bool) :=
 zf7 n a2 a1 a0
  (some false) n 0
def zcb (n : Nat) (a3 : z0i) (k4_4_0y : (List z0g)) (k5_5_0 : (List z04) → Option (z00 × Bool)) : Nat → Int × (List z04) → Option (z00 × Bool)
 | 0, _ => none
 | mv5_5 + 1, v5_5 =>
   cnd (decide (v5_5.1 < (((List.map aI (a3.fCloses)).length : Nat) : Int)))
    (idx a3.fCloses v5_5.1 fun x216 =>
    bnd (zg2 n v5_5.2 x216) fun x217 =>
    (zcb n a3 k4_4_0y k5_5_0 mv5_5) ((IntKind.wrap .i64 (v5_5.1 + 1)), x217))
   <| k5_5_0 v5_5.2
def zcc (n : Nat) (a3 : z0i) (k2_2_0y : (List z04)) (x130 : (List z0g)) (x133 : z0d) (k4_4_0 : (List z0g) → Option (z00 × Bool)) : Nat → Int → Option (z00 × Bool)
 | 0, _ => none
 | mv4_4 + 1, v4_4 =>
   cnd (decide (v4_4 < (((List.map idA (a3.fChecks)).length : Nat) : Int)))
    (idxD z4y a3.fChecks v4_4 fun x218 =>
    bnd (zbf n x218 (⟨x133.fVars⟩ : z0d) (-1) (⟨0, 0, 0, 0, []⟩ : z02)) fun x219 =>
    cnd (!(x219))
     (some (⟨0, [], []⟩, false))
    <| (zcc n a3 k2_2_0y x130 x133 k4_4_0 mv4_4) (IntKind.wrap .i64 (v4_4 + 1)))
   <| k4_4_0 x130
def zcd (n : Nat) (a4 : z02) (a3 : z0i) (a2 : z00) (a1 : (List z02)) (k2_2_0y : (List z04)) (k3_3_0 : Option (z00 × Bool)) : Nat → Int → Option (z00 × Bool)
 | 0, _ => none
 | mv3_3 + 1, v3_3 =>
   cnd (decide (v3_3 < (((List.map z0s (a3.fLimits)).length : Nat) : Int)))
    (idx a3.fLimits v3_3 fun x220 =>
    bnd (zqk n k2_2_0y x220 a4.fTime) fun x221 =>
    cnd (!(x221))
     (some (⟨0, [], []⟩, false))
    <| (zcd n a4 a3 a2 a1 k2_2_0y k3_3_0 mv3_3) (IntKind.wrap .i64 (v3_3 + 1)))
   <| k3_3_0
def zce (n : Nat) (a4 : z02) (a3 : z0i) (a2 : z00) (a1 : (List z02)) (k2_2_0 : (List z04) → Option (z00 × Bool)) : Nat → Int × (List z04) → Option (z00 × Bool)
 | 0, _ => none
 | mv2_2 + 1, v2_2 =>
   cnd (decide (v2_2.1 < (((List.map aI (a3.fOpens)).length : Nat) : Int)))
    (idx a3.fOpens v2_2.1 fun x222 =>
    bnd (znn n v2_2.2 x222 a4.fTime) fun x223 =>
    (zce n a4 a3 a2 a1 k2_2_0 mv2_2) ((IntKind.wrap .i64 (v2_2.1 + 1)), x223))
   <| k2_2_0 v2_2.2
def z5o (n : Nat) (a4 : z02) (a3 : z0i) (a2 : z00) (a1 : (List z02)) (w3_1 : Bool) : Option (z00 × Bool) :=
 cnd (w3_1)
  (some (⟨0, [], []⟩, false))
 <| zce n a4 a3 a2 a1
  (fun k2_2_0y => zcd n a4 a3 a2 a1 k2_2_0y
  (app ([] : List z0g) a2.fBindings 32 fun x127 =>
 bnd (z1t n a4) fun x128 =>
 bldS ([⟨a3.fVar, ⟨x128.fTime, x128.fSource, x128.fSeq⟩⟩] : List z0g) fun x129 =>
 app x127 x129 32 fun x130 =>
 frz 125 <| reg <| bld ([a4] : List z02) fun x131 =>
 app x131 a1 56 fun x132 =>
 bnd (zdk n x132 (⟨a3.fTo, x130, k2_2_0y⟩ : z00)) fun x133 =>
 zcc n a3 k2_2_0y x130 x133
  (fun k4_4_0y => zcb n a3 k4_4_0y
  (fun k5_5_0y => some (⟨a3.fTo, k4_4_0y, k5_5_0y⟩, true)) n (0, k2_2_0y)) n 0) n 0) n (0, a2.fStarts)
attribute [irreducible] z5o
def z5n (n : Nat) (a4 : z02) (a3 : z0i) (a2 : z00) (a1 : (List z02)) (x1 : z0d) (x2 : z74) (v1_0 : Int) (cv1_0 : Int → Option (z00 × Bool)) (w4_6 : Bool) : Option (z00 × Bool) :=
 cnd (w4_6)
  (some (⟨0, [], []⟩, false))
 <| cv1_0 (IntKind.wrap .i64 (v1_0 + 1))
attribute [irreducible] z5n
def z5m (n : Nat) (a4 : z02) (a3 : z0i) (a2 : z00) (a1 : (List z02)) (x1 : z0d) (x2 : z74) (k1_0_0 : (List (List z02)) → Option (z00 × Bool)) : Nat → Int → Option (z00 × Bool)
 | 0, _ => none
 | mv1_0 + 1, v1_0 =>
   cnd (decide (v1_0 < (((List.map z0t (x2.fGuards)).length : Nat) : Int)))
    (jon (z5n n a4 a3 a2 a1 x1 x2 v1_0 (z5m n a4 a3 a2 a1 x1 x2 k1_0_0 mv1_0)) <|
    reg <| idx x2.fGuards v1_0 fun x230 =>
    bnd (zrt n a3.fInside x230.fScope) fun x231 =>
    cnd (!(x231))
     (idx x2.fGuards v1_0 fun x232 =>
     bnd (ze3 n x232 (⟨x1.fVars⟩ : z0d) a4) fun x233 =>
     z5n n a4 a3 a2 a1 x1 x2 v1_0 (z5m n a4 a3 a2 a1 x1 x2 k1_0_0 mv1_0) x233)
    <| z5n n a4 a3 a2 a1 x1 x2 v1_0 (z5m n a4 a3 a2 a1 x1 x2 k1_0_0 mv1_0) false)
   <| k1_0_0 x1.fVars
def zmv (n : Nat) (a0 : z05) (a1 : (List z02)) (a2 : z00) (a3 : z0i) (a4 : z02) : Option (z00 × Bool) :=
 bnd (zdk n a1 a2) fun x1 =>
 idx a0.fStates a2.fState fun x2 =>
 z5m n a4 a3 a2 a1 x1 x2
  (fun k1_0_0y => jon (z5o n a4 a3 a2 a1) <|
 reg <| cnd (!decide (a3.fType = a4.fType))
  (z5o n a4 a3 a2 a1 true)
 <| bnd (zbf n a3.fCond (⟨k1_0_0y⟩ : z0d) a3.fVar a4) fun x224 =>
 z5o n a4 a3 a2 a1 !(x224)) n 0
def z8d (n : Nat) (a1 : z03) (a0 : (List z03)) (k1_0_0y : Int) (w3_1 : Bool) : Option ((List z03)) :=
 cnd (w3_1)
  (some a0)
 <| sls a0 0 k1_0_0y fun x45 =>
 app ([] : List z03) x45 24 fun x46 =>
 app x46 [⟨a1.fBindings⟩] 24 fun x47 =>
 sls a0 k1_0_0y (((List.map z0j (a0)).length : Nat) : Int) fun x48 =>
 app x47 x48 24 fun x49 =>
 some x49
attribute [irreducible] z8d
def z8c (n : Nat) (a1 : z03) (a0 : (List z03)) (v1_0 : Int) (k1_0_0 : Int → Option ((List z03))) (cv1_0 : Int → Option ((List z03))) (w4_2 : Bool) : Option ((List z03)) :=
 cnd (w4_2)
  (cv1_0 (IntKind.wrap .i64 (v1_0 + 1)))
 <| k1_0_0 v1_0
attribute [irreducible] z8c
def z8b (n : Nat) (a1 : z03) (a0 : (List z03)) (k1_0_0 : Int → Option ((List z03))) : Nat → Int → Option ((List z03))
 | 0, _ => none
 | mv1_0 + 1, v1_0 =>
   jon (z8c n a1 a0 v1_0 k1_0_0 (z8b n a1 a0 k1_0_0 mv1_0)) <|
   reg <| cnd (decide (v1_0 < (((List.map z0j (a0)).length : Nat) : Int)))
    (idx a0 v1_0 fun x55 =>
    bnd (z2n n (⟨x55.fBindings⟩ : z03) (⟨a1.fBindings⟩ : z03)) fun x56 =>
    z8c n a1 a0 v1_0 k1_0_0 (z8b n a1 a0 k1_0_0 mv1_0) (decide (x56 < 0)))
   <| z8c n a1 a0 v1_0 k1_0_0 (z8b n a1 a0 k1_0_0 mv1_0) false
def zaa (n : Nat) (a0 : (List z03)) (a1 : z03) : Option ((List z03)) :=
 z8b n a1 a0
  (fun k1_0_0y => jon (z8d n a1 a0 k1_0_0y) <|
 reg <| cnd (decide (k1_0_0y < (((List.map z0j (a0)).length : Nat) : Int)))
  (idx a0 k1_0_0y fun x50 =>
  bnd (z2n n (⟨x50.fBindings⟩ : z03) (⟨a1.fBindings⟩ : z03)) fun x51 =>
  z8d n a1 a0 k1_0_0y (decide (x51 = 0)))
 <| z8d n a1 a0 k1_0_0y false) n 0
def z88 (n : Nat) (a3 : z02) (a2 : z00) (a1 : (List z02)) (a0 : z05) (x4 : (List z0i)) (k1_1_0 : (List z00) → (List z03) → Option ((List z00) × (List z03))) : Nat → (List z00) × (List z03) × Int → Option ((List z00) × (List z03))
 | 0, _ => none
 | mv1_1 + 1, v1_1 =>
   cnd (decide (v1_1.2.2 < (((List.map z0n (x4)).length : Nat) : Int)))
    (idx x4 v1_1.2.2 fun x47 =>
    bnd (zmv n a0 a1 a2 x47 a3) fun x48 =>
    cnd (!(x48.2))
     ((z88 n a3 a2 a1 a0 x4 k1_1_0 mv1_1) (v1_1.1, v1_1.2.1, (IntKind.wrap .i64 (v1_1.2.2 + 1))))
    <| reg <| cnd (decide (x48.1.fState < 0))
     (bnd (zaa n v1_1.2.1 (⟨x48.1.fBindings⟩ : z03)) fun x49 =>
     (z88 n a3 a2 a1 a0 x4 k1_1_0 mv1_1) (v1_1.1, x49, (IntKind.wrap .i64 (v1_1.2.2 + 1))))
    <| bnd (z3s n v1_1.1 x48.1) fun x50 =>
    (z88 n a3 a2 a1 a0 x4 k1_1_0 mv1_1) (x50, v1_1.2.1, (IntKind.wrap .i64 (v1_1.2.2 + 1))))
   <| k1_1_0 v1_1.1 v1_1.2.1
def z89 (n : Nat) (a3 : z02) (a2 : z00) (a1 : (List z02)) (a0 : z05) (w1_0 : (List z00)) : Option ((List z00) × (List z03)) :=
 bnd (zqn n a0 a2.fState) fun x4 =>
 z88 n a3 a2 a1 a0 x4
  (fun k1_1_0y0 k1_1_0y1 => some (k1_1_0y0, k1_1_0y1)) n (w1_0, [], 0)
attribute [irreducible] z89
def zru (n : Nat) (a0 : z05) (a1 : (List z02)) (a2 : z00) (a3 : z02) : Option ((List z00) × (List z03)) :=
 jon (z89 n a3 a2 a1 a0) <|
 reg <| bnd (zpi n a0 a1 a2 a3) fun x51 =>
 cnd (x51)
  (bnd (z3s n [] a2) fun x52 =>
  z89 n a3 a2 a1 a0 x52)
 <| z89 n a3 a2 a1 a0 []
def zg3 (n : Nat) (a3 : z02) (a2 : (List z00)) (a1 : (List z02)) (a0 : z05) (v1_0 : (List z00) × (List z03) × Int) (k2_1_0y0 : (List z00)) (k2_1_0y1 : (List z03)) (k3_2_0 : (List z03) → Option ((List z00) × (List z03))) : Nat → (List z03) × Int → Option ((List z00) × (List z03))
 | 0, _ => none
 | mv3_2 + 1, v3_2 =>
   cnd (decide (v3_2.2 < (((List.map z0j (k2_1_0y1)).length : Nat) : Int)))
    (idx k2_1_0y1 v3_2.2 fun x128 =>
    bnd (zaa n v3_2.1 (⟨x128.fBindings⟩ : z03)) fun x129 =>
    (zg3 n a3 a2 a1 a0 v1_0 k2_1_0y0 k2_1_0y1 k3_2_0 mv3_2) (x129, (IntKind.wrap .i64 (v3_2.2 + 1))))
   <| k3_2_0 v3_2.1
def zg4 (n : Nat) (a3 : z02) (a2 : (List z00)) (a1 : (List z02)) (a0 : z05) (v1_0 : (List z00) × (List z03) × Int) (x44 : (List z00) × (List z03)) (k2_1_0 : (List z00) → (List z03) → Option ((List z00) × (List z03))) : Nat → (List z00) × Int → Option ((List z00) × (List z03))
 | 0, _ => none
 | mv2_1 + 1, v2_1 =>
   cnd (decide (v2_1.2 < (((List.map z08 (x44.1)).length : Nat) : Int)))
    (idx x44.1 v2_1.2 fun x130 =>
    bnd (z3s n v2_1.1 x130) fun x131 =>
    (zg4 n a3 a2 a1 a0 v1_0 x44 k2_1_0 mv2_1) (x131, (IntKind.wrap .i64 (v2_1.2 + 1))))
   <| k2_1_0 v2_1.1 x44.2
def zg5 (n : Nat) (a3 : z02) (a2 : (List z00)) (a1 : (List z02)) (a0 : z05) (k1_0_0 : (List z00) → (List z03) → Option ((List z00) × (List z03))) : Nat → (List z00) × (List z03) × Int → Option ((List z00) × (List z03))
 | 0, _ => none
 | mv1_0 + 1, v1_0 =>
   cnd (decide (v1_0.2.2 < (((List.map z08 (a2)).length : Nat) : Int)))
    (idx a2 v1_0.2.2 fun x43 =>
    bnd (zru n a0 a1 x43 a3) fun x44 =>
    zg4 n a3 a2 a1 a0 v1_0 x44
     (fun k2_1_0y0 k2_1_0y1 => zg3 n a3 a2 a1 a0 v1_0 k2_1_0y0 k2_1_0y1
     (fun k3_2_0y => (zg5 n a3 a2 a1 a0 k1_0_0 mv1_0) (k2_1_0y0, k3_2_0y, (IntKind.wrap .i64 (v1_0.2.2 + 1)))) n (v1_0.2.1, 0)) n (v1_0.1, 0))
   <| k1_0_0 v1_0.1 v1_0.2.1
def zrv (n : Nat) (a0 : z05) (a1 : (List z02)) (a2 : (List z00)) (a3 : z02) : Option ((List z00) × (List z03)) :=
 zg5 n a3 a2 a1 a0
  (fun k1_0_0y0 k1_0_0y1 => some (k1_0_0y0, k1_0_0y1)) n ([], [], 0)
def z67 (n : Nat) (a2 : Int) (a1 : (List z02)) (a0 : z05) (v1_0 : (List z00) × (List z03) × Int) (cv1_0 : ((List z00) × (List z03) × Int) → Option ((List z00) × (List z03) × Bool)) (k2_1_0y0 : (List z03)) (k2_1_0y1 : (List z00)) (w3_2 : Bool) : Option ((List z00) × (List z03) × Bool) :=
 cnd (w3_2)
  (some ([], [], false))
 <| cv1_0 (k2_1_0y1, k2_1_0y0, (IntKind.wrap .i64 (v1_0.2.2 + 1)))
attribute [irreducible] z67
def zd6 (n : Nat) (a2 : Int) (a1 : (List z02)) (a0 : z05) (v1_0 : (List z00) × (List z03) × Int) (x45 : (List z00) × (List z03)) (k2_1_0 : (List z03) → (List z00) → Option ((List z00) × (List z03) × Bool)) : Nat → (List z03) × Int → Option ((List z00) × (List z03) × Bool)
 | 0, _ => none
 | mv2_1 + 1, v2_1 =>
   cnd (decide (v2_1.2 < (((List.map z0j (x45.2)).length : Nat) : Int)))
    (idx x45.2 v2_1.2 fun x89 =>
    bnd (zaa n v2_1.1 (⟨x89.fBindings⟩ : z03)) fun x90 =>
    (zd6 n a2 a1 a0 v1_0 x45 k2_1_0 mv2_1) (x90, (IntKind.wrap .i64 (v2_1.2 + 1))))
   <| k2_1_0 v2_1.1 x45.1
def z65 (n : Nat) (a2 : Int) (a1 : (List z02)) (a0 : z05) (k1_0_0 : (List z00) → (List z03) → Option ((List z00) × (List z03) × Bool)) : Nat → (List z00) × (List z03) × Int → Option ((List z00) × (List z03) × Bool)
 | 0, _ => none
 | mv1_0 + 1, v1_0 =>
   cnd (decide (v1_0.2.2 < (((List.map z0a (a1)).length : Nat) : Int)))
    (idx a1 v1_0.2.2 fun x44 =>
    bnd (zrv n a0 a1 v1_0.1 x44) fun x45 =>
    zd6 n a2 a1 a0 v1_0 x45
     (fun k2_1_0y0 k2_1_0y1 => jon (z67 n a2 a1 a0 v1_0 (z65 n a2 a1 a0 k1_0_0 mv1_0) k2_1_0y0 k2_1_0y1) <|
    reg <| cnd (decide (a2 < (((List.map z08 (k2_1_0y1)).length : Nat) : Int)))
     (z67 n a2 a1 a0 v1_0 (z65 n a2 a1 a0 k1_0_0 mv1_0) k2_1_0y0 k2_1_0y1 true)
    <| z67 n a2 a1 a0 v1_0 (z65 n a2 a1 a0 k1_0_0 mv1_0) k2_1_0y0 k2_1_0y1 (decide (a2 < (((List.map z0j (k2_1_0y0)).length : Nat) : Int)))) n (v1_0.2.1, 0))
   <| k1_0_0 v1_0.1 v1_0.2.1
def zno (n : Nat) (a0 : z05) (a1 : (List z02)) (a2 : Int) : Option ((List z00) × (List z03) × Bool) :=
 bnd (zpj n) fun x1 =>
 z65 n a2 a1 a0
  (fun k1_0_0y0 k1_0_0y1 => some (k1_0_0y0, k1_0_0y1, true)) n ([x1], [], 0)
def zm7 (n : Nat) (a1 : (List z02)) (a0 : z05) (w1_0 : Bool) : Option (Bool) :=
 cnd (w1_0)
  (some false)
 <| bnd (zql n a0 a1) fun x4 =>
 cnd (!decide (x4 = 0))
  (some true)
 <| bnd (zno n a0 a1 150) fun x5 =>
 some x5.2.2
attribute [irreducible] zm7
def zk2 (n : Nat) (w1_0 : Bool) : Option (Bool) :=
 some w1_0
attribute [irreducible] zk2
def zih (n : Nat) (a0 : z0i) : Option (Bool) :=
 some (decide (a0.fType = 13))
def zch (n : Nat) (a0 : (List z0i)) (k1_0_0 : Option (Int)) : Nat → Int → Option (Int)
 | 0, _ => none
 | mv1_0 + 1, v1_0 =>
   cnd (decide (v1_0 < (((List.map z0n (a0)).length : Nat) : Int)))
    (idx a0 v1_0 fun x41 =>
    bnd (zih n x41) fun x42 =>
    cnd (x42)
     (some v1_0)
    <| (zch n a0 k1_0_0 mv1_0) (IntKind.wrap .i64 (v1_0 + 1)))
   <| k1_0_0
def zn1 (n : Nat) (a0 : (List z0i)) : Option (Int) :=
 zch n a0
  (some (-1)) n 0
def zk5 (n : Nat) (a0 : (List z0i)) : Option (Bool) :=
 bnd (zn1 n a0) fun x1 =>
 some (decide (0 ≤ x1))
def zhi (n : Nat) (a0 : z0l) : Option (Bool) :=
 some (decide (a0.fType = 13))
def zcf (n : Nat) (a0 : (List z0l)) (k1_0_0 : Option (Int)) : Nat → Int → Option (Int)
 | 0, _ => none
 | mv1_0 + 1, v1_0 =>
   cnd (decide (v1_0 < (((List.map z0t (a0)).length : Nat) : Int)))
    (idx a0 v1_0 fun x41 =>
    bnd (zhi n x41) fun x42 =>
    cnd (x42)
     (some v1_0)
    <| (zcf n a0 k1_0_0 mv1_0) (IntKind.wrap .i64 (v1_0 + 1)))
   <| k1_0_0
def zmz (n : Nat) (a0 : (List z0l)) : Option (Int) :=
 zcf n a0
  (some (-1)) n 0
def zk3 (n : Nat) (a0 : (List z0l)) : Option (Bool) :=
 bnd (zmz n a0) fun x1 =>
 some (decide (0 ≤ x1))
def zig (n : Nat) (a0 : z74) : Option (Bool) :=
 bnd (zk3 n a0.fGuards) fun x1 =>
 some x1
def zcg (n : Nat) (a0 : (List z74)) (k1_0_0 : Option (Int)) : Nat → Int → Option (Int)
 | 0, _ => none
 | mv1_0 + 1, v1_0 =>
   cnd (decide (v1_0 < (((List.map z0m (a0)).length : Nat) : Int)))
    (idx a0 v1_0 fun x41 =>
    bnd (zig n x41) fun x42 =>
    cnd (x42)
     (some v1_0)
    <| (zcg n a0 k1_0_0 mv1_0) (IntKind.wrap .i64 (v1_0 + 1)))
   <| k1_0_0
def zn0 (n : Nat) (a0 : (List z74)) : Option (Int) :=
 zcg n a0
  (some (-1)) n 0
def zk4 (n : Nat) (a0 : (List z74)) : Option (Bool) :=
 bnd (zn0 n a0) fun x1 =>
 some (decide (0 ≤ x1))
def zfb (n : Nat) (a1 : (List z01)) (a0 : (List z01)) (k1_0_0 : Option (Bool)) : Nat → Int → Option (Bool)
 | 0, _ => none
 | mv1_0 + 1, v1_0 =>
   cnd (decide (v1_0 < (((List.map z0c (a0)).length : Nat) : Int)))
    (idx a0 v1_0 fun x41 =>
    idx a1 v1_0 fun x42 =>
    cnd (!(decide (x41.fKind = x42.fKind) && (decide (x41.fNum = x42.fNum) && ((x41.fText.toList == x42.fText.toList) && true))))
     (some false)
    <| (zfb n a1 a0 k1_0_0 mv1_0) (IntKind.wrap .i64 (v1_0 + 1)))
   <| k1_0_0
def zqt (n : Nat) (a0 : (List z01)) (a1 : (List z01)) : Option (Bool) :=
 cnd (!decide ((((List.map z0c (a0)).length : Nat) : Int) = (((List.map z0c (a1)).length : Nat) : Int)))
  (some false)
 <| zfb n a1 a0
  (some true) n 0
def zhg (n : Nat) (a0 : z02) (a1 : z02) : Option (Bool) :=
 bnd (z1t n a0) fun x1 =>
 bnd (z1t n a1) fun x2 =>
 cnd ((decide (x1.fTime = x2.fTime) && (decide (x1.fSource = x2.fSource) && (decide (x1.fSeq = x2.fSeq) && true))))
  (cnd (decide (a0.fType = a1.fType))
    (bnd (zqt n a0.fValues a1.fValues) fun x3 =>
    some x3)
  <| some false)
 <| some false
def z81 (n : Nat) (a1 : z02) (a0 : (List z02)) (k1_0_0 : Option (Bool)) : Nat → Int → Option (Bool)
 | 0, _ => none
 | mv1_0 + 1, v1_0 =>
   cnd (decide (v1_0 < (((List.map z0a (a0)).length : Nat) : Int)))
    (idx a0 v1_0 fun x41 =>
    bnd (zcr n x41 a1) fun x42 =>
    cnd (x42)
     (idx a0 v1_0 fun x43 =>
     bnd (zhg n x43 a1) fun x44 =>
     cnd (!(x44))
      (some true)
     <| (z81 n a1 a0 k1_0_0 mv1_0) (IntKind.wrap .i64 (v1_0 + 1)))
    <| (z81 n a1 a0 k1_0_0 mv1_0) (IntKind.wrap .i64 (v1_0 + 1)))
   <| k1_0_0
def zma (n : Nat) (a0 : (List z02)) (a1 : z02) : Option (Bool) :=
 z81 n a1 a0
  (some false) n 0
def zga (n : Nat) (a1 : z02) (a0 : (List z02)) (k1_0_0 : Option (Bool)) : Nat → Int → Option (Bool)
 | 0, _ => none
 | mv1_0 + 1, v1_0 =>
   cnd (decide (v1_0 < (((List.map z0a (a0)).length : Nat) : Int)))
    (idx a0 v1_0 fun x41 =>
    bnd (zhg n x41 a1) fun x42 =>
    cnd (x42)
     (some true)
    <| (zga n a1 a0 k1_0_0 mv1_0) (IntKind.wrap .i64 (v1_0 + 1)))
   <| k1_0_0
def zry (n : Nat) (a0 : (List z02)) (a1 : z02) : Option (Bool) :=
 zga n a1 a0
  (some false) n 0
def zg8 (n : Nat) (a1 : z02) (a0 : (List z02)) (k1_0_0 : Int → (List z02) → Option ((List z02))) : Nat → Int × (List z02) → Option ((List z02))
 | 0, _ => none
 | mv1_0 + 1, v1_0 =>
   cnd (decide (v1_0.1 < (((List.map z0a (a0)).length : Nat) : Int)))
    (idx a0 v1_0.1 fun x46 =>
    bnd (z1t n x46) fun x47 =>
    bnd (z1t n a1) fun x48 =>
    bnd (z3u n (⟨x47.fTime, x47.fSource, x47.fSeq⟩ : z0q) (⟨x48.fTime, x48.fSource, x48.fSeq⟩ : z0q)) fun x49 =>
    cnd (decide (x49 < 0))
     (idx a0 v1_0.1 fun x50 =>
     app v1_0.2 [x50] 56 fun x51 =>
     (zg8 n a1 a0 k1_0_0 mv1_0) ((IntKind.wrap .i64 (v1_0.1 + 1)), x51))
    <| k1_0_0 v1_0.1 v1_0.2)
   <| k1_0_0 v1_0.1 v1_0.2
def zrx (n : Nat) (a0 : (List z02)) (a1 : z02) : Option ((List z02)) :=
 zg8 n a1 a0
  (fun k1_0_0y0 k1_0_0y1 => app k1_0_0y1 [a1] 56 fun x43 =>
 sls a0 k1_0_0y0 (((List.map z0a (a0)).length : Nat) : Int) fun x44 =>
 app x43 x44 56 fun x45 =>
 some x45) n (0, [])
def znu (n : Nat) (a0 : (List z02)) (a1 : z02) : Option ((List z02) × Int) :=
 bnd (zhh n a0) fun x1 =>
 cnd (!decide (x1 = 0))
  (some ([], x1))
 <| bnd (zg9 n a1) fun x2 =>
 cnd (!(x2))
  (some ([], 2))
 <| bnd (zma n a0 a1) fun x3 =>
 cnd (x3)
  (some ([], 22))
 <| bnd (zry n a0 a1) fun x4 =>
 cnd (x4)
  (some (a0, 0))
 <| cnd (decide ((((List.map z0a (a0)).length : Nat) : Int) = 4096))
  (some ([], 5))
 <| bnd (zrx n a0 a1) fun x5 =>
 some (x5, 0)
def z1u (n : Nat) (w3_2 : Bool) : Option (Bool) :=
 some w3_2
attribute [irreducible] z1u
def z4g (n : Nat) (a2 : Int) (a1 : (List z02)) (a0 : z05) (w2_1 : Bool) : Option (Bool) :=
 cnd (w2_1)
  (bnd (z1j n) fun x9 =>
  some x9)
 <| nzx ((12 : Int)) <| bnd (znu n a1 (⟨7, 99, 13, (IntKind.wrap .i64 ((a2).tmod 12)), []⟩ : z02)) fun x10 =>
 cnd (!decide (x10.2 = 0))
  (bnd (z1j n) fun x11 =>
  some x11)
 <| bnd (zhj n a0 a1) fun x12 =>
 bnd (zhj n a0 x10.1) fun x13 =>
 jon (z1u n) <|
 reg <| cnd (decide (x12.2.2 = 0))
  (cnd (decide (x13.2.2 = 0))
    (bnd (z3h n x12.1 x13.1) fun x18 =>
    cnd (x18)
     (bnd (z5b n x12.2.1 x13.2.1) fun x19 =>
     cnd (x19)
      (bnd (z1j n) fun x20 =>
      z1u n x20)
     <| z1u n false)
    <| z1u n false)
  <| z1u n false)
 <| z1u n false
attribute [irreducible] z4g
def zhm (n : Nat) (a2 : Int) (a1 : (List z02)) (a0 : z05) (w1_0 : Bool) : Option (Bool) :=
 cnd (w1_0)
  (bnd (z1j n) fun x5 =>
  some x5)
 <| jon (z4g n a2 a1 a0) <|
 reg <| bnd (zk5 n a0.fEdges) fun x21 =>
 cnd (x21)
  (z4g n a2 a1 a0 true)
 <| bnd (zk4 n a0.fStates) fun x22 =>
 z4g n a2 a1 a0 x22
attribute [irreducible] zhm
def z7o (n : Nat) (a1 : z00) (a0 : z0h) (v2_2 : Int) (cv2_2 : Int → Option (Int)) (w11_4 : Bool) : Option (Int) :=
 cnd (w11_4)
  (some 14)
 <| cv2_2 (IntKind.wrap .i64 (v2_2 + 1))
attribute [irreducible] z7o
def z42 (n : Nat) (a1 : z00) (a0 : z0h) (v2_2 : Int) (cv2_2 : Int → Option (Int)) (x82 : z04) (w10_3 : Bool) : Option (Int) :=
 cnd (w10_3)
  (some 2)
 <| jon (z7o n a1 a0 v2_2 cv2_2) <|
 reg <| cnd (decide (0 < v2_2))
  (idx a1.fStarts (IntKind.wrap .i64 (v2_2 - 1)) fun x86 =>
  z7o n a1 a0 v2_2 cv2_2 (decide (x82.fScope ≤ x86.fScope)))
 <| z7o n a1 a0 v2_2 cv2_2 false
attribute [irreducible] z42
def z49 (n : Nat) (a1 : z00) (a0 : z0h) (k2_2_0 : Option (Int)) : Nat → Int → Option (Int)
 | 0, _ => none
 | mv2_2 + 1, v2_2 =>
   cnd (decide (v2_2 < (((List.map z07 (a1.fStarts)).length : Nat) : Int)))
    (idx a1.fStarts v2_2 fun x82 =>
    jon (z42 n a1 a0 v2_2 (z49 n a1 a0 k2_2_0 mv2_2) x82) <|
    reg <| cnd (decide (x82.fScope < 0))
     (z42 n a1 a0 v2_2 (z49 n a1 a0 k2_2_0 mv2_2) x82 true)
    <| cnd (decide (a0.fa.fScopes ≤ x82.fScope))
     (z42 n a1 a0 v2_2 (z49 n a1 a0 k2_2_0 mv2_2) x82 true)
    <| cnd (decide (x82.fTime < 0))
     (z42 n a1 a0 v2_2 (z49 n a1 a0 k2_2_0 mv2_2) x82 true)
    <| z42 n a1 a0 v2_2 (z49 n a1 a0 k2_2_0 mv2_2) x82 (decide (1099511627776 < x82.fTime)))
   <| k2_2_0
def z7m (n : Nat) (a1 : z00) (a0 : z0h) (v1_1 : Int) (cv1_1 : Int → Option (Int)) (x89 : Bool) (w13_6 : Bool) : Option (Int) :=
 cnd (w13_6)
  (some 14)
 <| cnd (!(x89))
  (some 6)
 <| cv1_1 (IntKind.wrap .i64 (v1_1 + 1))
attribute [irreducible] z7m
def z7n (n : Nat) (a1 : z00) (a0 : z0h) (v1_1 : Int) (cv1_1 : Int → Option (Int)) (x87 : z0g) (x89 : Bool) (w12_5 : Bool) : Option (Int) :=
 cnd (w12_5)
  (some 2)
 <| jon (z7m n a1 a0 v1_1 cv1_1 x89) <|
 reg <| cnd (decide (0 < v1_1))
  (idx a1.fBindings (IntKind.wrap .i64 (v1_1 - 1)) fun x94 =>
  bnd (F_run_refs n (⟨x94.fRef.fTime, x94.fRef.fSource, x94.fRef.fSeq⟩ : z0q) (⟨x87.fRef.fTime, x87.fRef.fSource, x87.fRef.fSeq⟩ : z0q)) fun x95 =>
  z7m n a1 a0 v1_1 cv1_1 x89 (decide (0 ≤ x95)))
 <| z7m n a1 a0 v1_1 cv1_1 x89 false
attribute [irreducible] z7n
def z8f (n : Nat) (a1 : z00) (a0 : z0h) (k1_1_0 : Option (Int)) : Nat → Int → Option (Int)
 | 0, _ => none
 | mv1_1 + 1, v1_1 =>
   cnd (decide (v1_1 < (((List.map z09 (a1.fBindings)).length : Nat) : Int)))
    (idx a1.fBindings v1_1 fun x87 =>
    mgv a0.fheld (⟨x87.fRef.fTime, x87.fRef.fSource, x87.fRef.fSeq⟩ : z0q) (⟨0, 0, 0, 0, []⟩ : z02) fun x88 x89 =>
    jon (z7n n a1 a0 v1_1 (z8f n a1 a0 k1_1_0 mv1_1) x87 x89) <|
    reg <| cnd (decide (x87.fVar < 0))
     (z7n n a1 a0 v1_1 (z8f n a1 a0 k1_1_0 mv1_1) x87 x89 true)
    <| z7n n a1 a0 v1_1 (z8f n a1 a0 k1_1_0 mv1_1) x87 x89 (decide (a0.fa.fVars ≤ x87.fVar)))
   <| k1_1_0
def z8g (n : Nat) (a1 : z00) (a0 : z0h) (w1_0 : Bool) : Option (Int) :=
 cnd (w1_0)
  (some 21)
 <| cnd (decide (4096 ≤ (((List.map z09 (a1.fBindings)).length : Nat) : Int)))
  (some 5)
 <| z8f n a1 a0
  (z49 n a1 a0
  (some 0) n 0) n 0
attribute [irreducible] z8g
def zjo (n : Nat) (a0 : z0h) (a1 : z00) : Option (Int) :=
 jon (z8g n a1 a0) <|
 reg <| cnd (decide (a1.fState < 0))
  (z8g n a1 a0 true)
 <| z8g n a1 a0 (decide ((((List.map z0m (a0.fa.fStates)).length : Nat) : Int) ≤ a1.fState))
def zdf (n : Nat) (x49 : (List z00) × (List z03)) (w1_2 : Bool) : Option ((List z00) × (List z03) × Int) :=
 cnd (w1_2)
  (some ([], [], 17))
 <| some (x49.1, x49.2, 0)
attribute [irreducible] zdf
def znc (n : Nat) (a3 : z02) (a2 : (List z00)) (x2 : z0h) (k2_1_0 : Int → Int → (List z74) → (List z0i) → (List (z0q × z02)) → Option ((List z00) × (List z03) × Int)) : Nat → Int → Option ((List z00) × (List z03) × Int)
 | 0, _ => none
 | mv2_1 + 1, v2_1 =>
   cnd (decide (v2_1 < (((List.map z08 (a2)).length : Nat) : Int)))
    (idx a2 v2_1 fun x51 =>
    bnd (zjo n x2 x51) fun x52 =>
    cnd (!decide (x52 = 0))
     (some ([], [], x52))
    <| (znc n a3 a2 x2 k2_1_0 mv2_1) (IntKind.wrap .i64 (v2_1 + 1)))
   <| k2_1_0 x2.fa.fVars x2.fa.fScopes x2.fa.fStates x2.fa.fEdges x2.fheld
def F_run_Advance (n : Nat) (a0 : z05) (a1 : (List z02)) (a2 : (List z00)) (a3 : z02) : Option ((List z00) × (List z03) × Int) :=
 bndP (zjp n a0 a1) (fun r => r.1)
  (fun x1 =>
 cnd (!decide (x1.2 = 0))
  (some ([], [], x1.2))
 <| cnd (decide (4096 < (((List.map z08 (a2)).length : Nat) : Int)))
  (some ([], [], 5))
 <| none) fun x1 x2 =>
 cnd (!decide (x1.2 = 0))
  (some ([], [], x1.2))
 <| cnd (decide (4096 < (((List.map z08 (a2)).length : Nat) : Int)))
  (some ([], [], 5))
 <| znc n a3 a2 x2
  (fun k2_1_0y0 k2_1_0y1 k2_1_0y2 k2_1_0y3 k2_1_0y4 => bnd (F_run_fits n a2 a3) fun x48 =>
 cnd (!decide (x48 = 0))
  (some ([], [], x48))
 <| bnd (z93 n (⟨⟨k2_1_0y0, k2_1_0y1, k2_1_0y2, k2_1_0y3⟩, k2_1_0y4⟩ : z0h) a2 a3) fun x49 =>
 jon (zdf n x49) <|
 reg <| cnd (decide (4096 < (((List.map z08 (x49.1)).length : Nat) : Int)))
  (zdf n x49 true)
 <| zdf n x49 (decide (4096 < (((List.map z0j (x49.2)).length : Nat) : Int)))) n 0
def F_run_Check (n : Nat) (a0 : z05) (a1 : (List z02)) (a2 : z00) : Option (Int) :=
 bndP (zjp n a0 a1) (fun r => r.1)
  (fun x1 =>
 cnd (!decide (x1.2 = 0))
  (some x1.2)
 <| none) fun x1 x2 =>
 cnd (!decide (x1.2 = 0))
  (some x1.2)
 <| bnd (zjo n x2 a2) fun x3 =>
 some x3
def zda (n : Nat) (a0 : (List z03)) (k1_0_0 : (List z03) → Option ((List z03))) : Nat → (List z03) × Int → Option ((List z03))
 | 0, _ => none
 | mv1_0 + 1, v1_0 =>
   cnd (decide (v1_0.2 < (((List.map z0j (a0)).length : Nat) : Int)))
    (idx a0 v1_0.2 fun x42 =>
    bnd (zaa n v1_0.1 (⟨x42.fBindings⟩ : z03)) fun x43 =>
    (zda n a0 k1_0_0 mv1_0) (x43, (IntKind.wrap .i64 (v1_0.2 + 1))))
   <| k1_0_0 v1_0.1
def zns (n : Nat) (a0 : (List z03)) : Option ((List z03)) :=
 zda n a0
  (fun k1_0_0y => some k1_0_0y) n ([], 0)
def z29 (n : Nat) (w5_3 : Bool) : Option (Bool) :=
 some w5_3
attribute [irreducible] z29
def z34 (n : Nat) (a1 : (List z02)) (a0 : z05) (x7 : (List z00) × (List z03) × Int) (x10 : (List z00) × (List z03) × Int) (x11 : (List z00) × (List z03) × Int) (v1_2 : Int) (cv1_2 : Int → Option (Bool)) (w6_4 : Bool) : Option (Bool) :=
 cnd (w6_4)
  (some false)
 <| cv1_2 (IntKind.wrap .i64 (v1_2 + 1))
attribute [irreducible] z34
def z33 (n : Nat) (a1 : (List z02)) (a0 : z05) (x7 : (List z00) × (List z03) × Int) (x10 : (List z00) × (List z03) × Int) (x11 : (List z00) × (List z03) × Int) (k1_2_0 : (List z00) → (List z03) → (List z03) → (List z03) → Option (Bool)) : Nat → Int → Option (Bool)
 | 0, _ => none
 | mv1_2 + 1, v1_2 =>
   cnd (decide (v1_2 < (((List.map z08 (x11.1)).length : Nat) : Int)))
    (idx x11.1 v1_2 fun x74 =>
    jon (z34 n a1 a0 x7 x10 x11 v1_2 (z33 n a1 a0 x7 x10 x11 k1_2_0 mv1_2)) <|
    reg <| bnd (F_run_Check n a0 a1 x74) fun x79 =>
    cnd (!decide (x79 = 0))
     (z34 n a1 a0 x7 x10 x11 v1_2 (z33 n a1 a0 x7 x10 x11 k1_2_0 mv1_2) true)
    <| cnd (decide (0 < v1_2))
     (idx x11.1 (IntKind.wrap .i64 (v1_2 - 1)) fun x80 =>
     bnd (z2k n x80 x74) fun x81 =>
     z34 n a1 a0 x7 x10 x11 v1_2 (z33 n a1 a0 x7 x10 x11 k1_2_0 mv1_2) (decide (0 ≤ x81)))
    <| z34 n a1 a0 x7 x10 x11 v1_2 (z33 n a1 a0 x7 x10 x11 k1_2_0 mv1_2) false)
   <| k1_2_0 x7.1 x7.2.1 x10.2.1 x11.2.1
def z2a (n : Nat) (a1 : (List z02)) (a0 : z05) (x7 : (List z00) × (List z03) × Int) (x10 : (List z00) × (List z03) × Int) (x11 : (List z00) × (List z03) × Int) (w2_1 : Bool) : Option (Bool) :=
 cnd (w2_1)
  (some false)
 <| z33 n a1 a0 x7 x10 x11
  (fun k1_2_0y0 k1_2_0y1 k1_2_0y2 k1_2_0y3 => bndR (zcs n k1_2_0y0) fun x58 =>
 app x58 k1_2_0y0 56 fun x59 =>
 bnd (zik n x59) fun x60 =>
 jon (z29 n) <|
 reg <| cnd (decide (x60.2 = 0))
  (bnd (z3h n x60.1 k1_2_0y0) fun x68 =>
  cnd (x68)
   (bndR (zcs n k1_2_0y1) fun x69 =>
   app x69 k1_2_0y2 24 fun x70 =>
   bnd (zns n x70) fun x71 =>
   bnd (z5b n x71 k1_2_0y3) fun x72 =>
   cnd (x72)
    (bnd (z1j n) fun x73 =>
    z29 n x73)
   <| z29 n false)
  <| z29 n false)
 <| z29 n false) n 0
attribute [irreducible] z2a
def zgj (n : Nat) (a1 : (List z02)) (a0 : z05) (w1_0 : Bool) : Option (Bool) :=
 cnd (w1_0)
  (bnd (z1j n) fun x5 =>
  some x5)
 <| sls a1 0 (IntKind.wrap .i64 ((((List.map z0a (a1)).length : Nat) : Int) - 1)) fun x6 =>
 bnd (zhj n a0 x6) fun x7 =>
 sls a1 0 (IntKind.wrap .i64 ((((List.map z0a (a1)).length : Nat) : Int) - 1)) fun x8 =>
 idx a1 (IntKind.wrap .i64 ((((List.map z0a (a1)).length : Nat) : Int) - 1)) fun x9 =>
 bnd (F_run_Advance n a0 x8 x7.1 x9) fun x10 =>
 bnd (zhj n a0 a1) fun x11 =>
 jon (z2a n a1 a0 x7 x10 x11) <|
 reg <| cnd (!decide (x7.2.2 = 0))
  (z2a n a1 a0 x7 x10 x11 true)
 <| cnd (!decide (x10.2.2 = 0))
  (z2a n a1 a0 x7 x10 x11 true)
 <| cnd (!decide (x11.2.2 = 0))
  (z2a n a1 a0 x7 x10 x11 true)
 <| bnd (z3h n x10.1 x11.1) fun x82 =>
 z2a n a1 a0 x7 x10 x11 !(x82)
attribute [irreducible] zgj
end Go.Proofs.YtjpknpjjcddnnaaGreat
