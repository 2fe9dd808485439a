/- What some functions compute, over plain values. Printed by a program of mine (gen_fun.lean). -/
import Derived.Test.YthhnhajldhnfmaaG0
import Derived.Test.YthhnhajldhnfmaaTab
import Derived.Test.YthhnhajldhnfmaaGE
set_option linter.unusedVariables false
set_option linter.unusedSimpArgs false
set_option maxRecDepth 100000
set_option maxHeartbeats 8000000
namespace Go.Proofs.Ythhnhajldhnfmaa
open Go.RowKit
def F_sequence_Begin (n : Nat) : Option (Trk) :=
  some (⟨0, [], [], (-1)⟩)
def F_watermark_Begin_l1 (n : Nat) (x1 : (List Trk)) (k1_0_0 : (List Trk) → Option ((List Trk) × Int)) : Nat → Int × (List Trk) → Option ((List Trk) × Int)
  | 0, _ => none
  | mv1_0 + 1, v1_0 =>
    cnd (decide (v1_0.1 < (((List.map aTrk (x1)).length : Nat) : Int)))
      (bnd (F_sequence_Begin n) fun x43 =>
      nat v1_0.1 (List.map aTrk (v1_0.2)).length fun x44 =>
      stx v1_0.2 x44 (fun x45 => x43) fun x46 =>
      F_watermark_Begin_l1 n x1 k1_0_0 mv1_0 ((IntKind.wrap .i64 (v1_0.1 + 1)), x46))
    <| k1_0_0 v1_0.2
def F_watermark_Begin (n : Nat) (a0 : Int) : Option ((List Trk) × Int) :=
  cnd (decide (a0 < 0))
    (some ([], 2))
  <| cnd (decide (8 < a0))
    (some ([], 2))
  <| mak a0 64 (⟨0, [], [], 0⟩ : Trk) fun x1 =>
  F_watermark_Begin_l1 n x1
    (fun k1_0_0y => some (k1_0_0y, 0)) n (0, x1)
def F_tidegateref34_Begin (n : Nat) : Option (Trk) :=
  some (⟨0, [], [], (-1)⟩)
def F_tidegateref36_Begin_l1 (n : Nat) (a0 : Int) (k1_0_0 : (List Trk) → Option ((List Trk) × Int)) : Nat → Int × (List Trk) → Option ((List Trk) × Int)
  | 0, _ => none
  | mv1_0 + 1, v1_0 =>
    cnd (decide (v1_0.1 < a0))
      (bnd (F_tidegateref34_Begin n) fun x42 =>
      app v1_0.2 [x42] 64 fun x43 =>
      F_tidegateref36_Begin_l1 n a0 k1_0_0 mv1_0 ((IntKind.wrap .i64 (v1_0.1 + 1)), x43))
    <| k1_0_0 v1_0.2
def F_tidegateref36_Begin (n : Nat) (a0 : Int) : Option ((List Trk) × Int) :=
  cnd (decide (a0 < 0))
    (some ([], 2))
  <| cnd (decide (8 < a0))
    (some ([], 2))
  <| F_tidegateref36_Begin_l1 n a0
    (fun k1_0_0y => some (k1_0_0y, 0)) n (0, [])
structure T_api_Value where
  fKind : Int
  fNum : Int
  fText : ByteArray
deriving DecidableEq, Inhabited
def e_api_Value (x : T_api_Value) : AV := .agg [aI (x.fKind), aI (x.fNum), .str (x.fText)]
structure T_api_Event where
  fSource : Int
  fSeq : Int
  fType : Int
  fTime : Int
  fValues : (List T_api_Value)
deriving DecidableEq, Inhabited
def e_api_Event (x : T_api_Event) : AV := .agg [aI (x.fSource), aI (x.fSeq), aI (x.fType), aI (x.fTime), .sl 3 (List.map e_api_Value (x.fValues))]
structure T_api_Message where
  fKind : Int
  fEvent : T_api_Event
  fSource : Int
  fSeq : Int
  fTime : Int
deriving DecidableEq, Inhabited
def e_api_Message (x : T_api_Message) : AV := .agg [aI (x.fKind), aI (x.fEvent.fSource), aI (x.fEvent.fSeq), aI (x.fEvent.fType), aI (x.fEvent.fTime), .sl 3 (List.map e_api_Value (x.fEvent.fValues)), aI (x.fSource), aI (x.fSeq), aI (x.fTime)]
def F_watermark_ranged (n : Nat) (a0 : Int) (a1 : Int) : Option (Bool) :=
  cnd (decide (0 ≤ a0))
    (some (decide (a0 ≤ a1)))
  <| some false
def F_watermark_checkEvent (n : Nat) (a0 : T_api_Message) : Option (Int) :=
  cnd (!decide (a0.fSource = 0))
    (some 3)
  <| cnd (!decide (a0.fSeq = 0))
    (some 3)
  <| cnd (!decide (a0.fTime = 0))
    (some 3)
  <| bnd (F_watermark_ranged n a0.fEvent.fSource 7) fun x1 =>
  cnd (!(x1))
    (some 2)
  <| bnd (F_watermark_ranged n a0.fEvent.fSeq 1099511627776) fun x2 =>
  cnd (!(x2))
    (some 2)
  <| bnd (F_watermark_ranged n a0.fEvent.fTime 1099511627776) fun x3 =>
  cnd (!(x3))
    (some 2)
  <| some 0
def F_watermark_valid (n : Nat) (a0 : T_api_Message) : Option (Bool) :=
  bnd (F_sequence_Begin n) fun x1 =>
  bnd (F_puAdd n x1 (⟨a0.fSeq, a0.fTime⟩ : Pt)) fun x2 =>
  some (decide (x2.2 = 0))
def F_watermark_checkPoint (n : Nat) (a0 : T_api_Message) : Option (Int) :=
  cnd (!decide (a0.fEvent.fSource = 0))
    (some 3)
  <| cnd (!decide (a0.fEvent.fSeq = 0))
    (some 3)
  <| cnd (!decide (a0.fEvent.fType = 0))
    (some 3)
  <| cnd (!decide (a0.fEvent.fTime = 0))
    (some 3)
  <| cnd (decide (0 < (((List.map e_api_Value (a0.fEvent.fValues)).length : Nat) : Int)))
    (some 3)
  <| bnd (F_watermark_ranged n a0.fSource 7) fun x1 =>
  cnd (!(x1))
    (some 2)
  <| bnd (F_watermark_valid n a0) fun x2 =>
  cnd (!(x2))
    (some 2)
  <| some 0
def F_watermark_CheckMessage (n : Nat) (a0 : T_api_Message) : Option (Int) :=
  cnd (decide (a0.fKind < 0))
    (some 1)
  <| cnd (decide (2 ≤ a0.fKind))
    (some 1)
  <| cnd (decide (a0.fKind = 0))
    (bnd (F_watermark_checkEvent n a0) fun x1 =>
  some x1)
  <| cnd (decide (a0.fKind = 1))
    (bnd (F_watermark_checkPoint n a0) fun x2 =>
  some x2)
  <| none
def F_tidegateref36_within (n : Nat) (a0 : Int) (a1 : Int) : Option (Bool) :=
  cnd (decide (0 ≤ a0))
    (some (decide (a0 ≤ a1)))
  <| some false
def F_tidegateref35_Valid (n : Nat) (a0 : Pt) : Option (Bool) :=
  cnd (decide (0 ≤ a0.seq))
    (cnd (decide (a0.seq ≤ 1099511627777))
      (cnd (decide (0 ≤ a0.time))
        (some (decide (a0.time ≤ 1099511627776)))
      <| some false)
    <| some false)
  <| some false
def F_tidegateref36_CheckMessage (n : Nat) (a0 : T_api_Message) : Option (Int) :=
  cnd (decide (a0.fKind = 0))
    (cnd (!decide (a0.fSource = 0))
      (some 3)
    <| cnd (!decide (a0.fSeq = 0))
      (some 3)
    <| cnd (!decide (a0.fTime = 0))
      (some 3)
    <| bnd (F_tidegateref36_within n a0.fEvent.fSource 7) fun x1 =>
    cnd (!(x1))
      (some 2)
    <| bnd (F_tidegateref36_within n a0.fEvent.fSeq 1099511627776) fun x2 =>
    cnd (!(x2))
      (some 2)
    <| bnd (F_tidegateref36_within n a0.fEvent.fTime 1099511627776) fun x3 =>
    cnd (!(x3))
      (some 2)
    <| some 0)
  <| cnd (decide (a0.fKind = 1))
    (cnd (!decide (a0.fEvent.fSource = 0))
      (some 3)
    <| cnd (!decide (a0.fEvent.fSeq = 0))
      (some 3)
    <| cnd (!decide (a0.fEvent.fType = 0))
      (some 3)
    <| cnd (!decide (a0.fEvent.fTime = 0))
      (some 3)
    <| cnd (!decide ((((List.map e_api_Value (a0.fEvent.fValues)).length : Nat) : Int) = 0))
      (some 3)
    <| bnd (F_tidegateref36_within n a0.fSource 7) fun x4 =>
    cnd (!(x4))
      (some 2)
    <| bnd (F_tidegateref35_Valid n (⟨a0.fSeq, a0.fTime⟩ : Pt)) fun x5 =>
    cnd (!(x5))
      (some 2)
    <| some 0)
  <| some 1
def F_watermark_Check_l1 (n : Nat) (a0 : (List Trk)) (k1_0_0 : Option (Int)) : Nat → Int → Option (Int)
  | 0, _ => none
  | mv1_0 + 1, v1_0 =>
    cnd (decide (v1_0 < (((List.map aTrk (a0)).length : Nat) : Int)))
      (idx a0 v1_0 fun x41 =>
      bnd (F_puCheck n x41) fun x42 =>
      cnd (!decide (x42 = 0))
        (some x42)
      <| F_watermark_Check_l1 n a0 k1_0_0 mv1_0 (IntKind.wrap .i64 (v1_0 + 1)))
    <| k1_0_0
def F_watermark_Check (n : Nat) (a0 : (List Trk)) : Option (Int) :=
  cnd (decide (8 < (((List.map aTrk (a0)).length : Nat) : Int)))
    (some 5)
  <| F_watermark_Check_l1 n a0
    (some 0) n 0
def F_tidegateref36_Check_l1 (n : Nat) (a0 : (List Trk)) (k1_0_0 : Option (Int)) : Nat → Int → Option (Int)
  | 0, _ => none
  | mv1_0 + 1, v1_0 =>
    cnd (decide (v1_0 < (((List.map aTrk (a0)).length : Nat) : Int)))
      (idx a0 v1_0 fun x41 =>
      bnd (F_puCheck n x41) fun x42 =>
      cnd (!decide (x42 = 0))
        (some x42)
      <| F_tidegateref36_Check_l1 n a0 k1_0_0 mv1_0 (IntKind.wrap .i64 (v1_0 + 1)))
    <| k1_0_0
def F_tidegateref36_Check (n : Nat) (a0 : (List Trk)) : Option (Int) :=
  cnd (decide (8 < (((List.map aTrk (a0)).length : Nat) : Int)))
    (some 5)
  <| F_tidegateref36_Check_l1 n a0
    (some 0) n 0
def F_watermark_least_l1 (n : Nat) (a0 : (List Trk)) (k1_0_0 : Int → Option (Int)) : Nat → Int × Int → Option (Int)
  | 0, _ => none
  | mv1_0 + 1, v1_0 =>
    cnd (decide (v1_0.2 < (((List.map aTrk (a0)).length : Nat) : Int)))
      (idx a0 v1_0.2 fun x42 =>
      cnd (decide (v1_0.1 < 0))
        (F_watermark_least_l1 n a0 k1_0_0 mv1_0 (v1_0.2, (IntKind.wrap .i64 (v1_0.2 + 1))))
      <| idx a0 v1_0.1 fun x43 =>
      cnd (decide (x42.mark < x43.mark))
        (F_watermark_least_l1 n a0 k1_0_0 mv1_0 (v1_0.2, (IntKind.wrap .i64 (v1_0.2 + 1))))
      <| F_watermark_least_l1 n a0 k1_0_0 mv1_0 (v1_0.1, (IntKind.wrap .i64 (v1_0.2 + 1))))
    <| k1_0_0 v1_0.1
def F_watermark_least (n : Nat) (a0 : (List Trk)) : Option (Int) :=
  F_watermark_least_l1 n a0
    (fun k1_0_0y => some k1_0_0y) n ((-1), 0)
def F_watermark_Global (n : Nat) (a0 : (List Trk)) : Option (Int × Int) :=
  bnd (F_watermark_Check n a0) fun x1 =>
  cnd (!decide (x1 = 0))
    (some (0, x1))
  <| bnd (F_watermark_least n a0) fun x2 =>
  cnd (decide (0 ≤ x2))
    (idx a0 x2 fun x3 =>
    some (x3.mark, 0))
  <| some (1099511627776, 0)
def F_tidegateref36_Least_l1 (n : Nat) (a0 : (List Trk)) (k1_0_0 : Int → Option (Int)) : Nat → Int × Int → Option (Int)
  | 0, _ => none
  | mv1_0 + 1, v1_0 =>
    cnd (decide (v1_0.2 < (((List.map aTrk (a0)).length : Nat) : Int)))
      (idx a0 v1_0.2 fun x42 =>
      F_tidegateref36_Least_l1 n a0 k1_0_0 mv1_0 ((min v1_0.1 x42.mark), (IntKind.wrap .i64 (v1_0.2 + 1))))
    <| k1_0_0 v1_0.1
def F_tidegateref36_Least (n : Nat) (a0 : (List Trk)) : Option (Int) :=
  F_tidegateref36_Least_l1 n a0
    (fun k1_0_0y => some k1_0_0y) n (1099511627776, 0)
def F_tidegateref36_Global (n : Nat) (a0 : (List Trk)) : Option (Int × Int) :=
  bnd (F_tidegateref36_Check n a0) fun x1 =>
  cnd (!decide (x1 = 0))
    (some (0, x1))
  <| bnd (F_tidegateref36_Least n a0) fun x2 =>
  some (x2, 0)
def F_watermark_Missing_l1 (n : Nat) (x2 : Int) (x4 : Pt) (x6 : (List Int)) (k1_0_0 : Int → (List (Int × Int)) → Option (Int × (List (Int × Int)) × Int)) : Nat → Int × Int × (List (Int × Int)) → Option (Int × (List (Int × Int)) × Int)
  | 0, _ => none
  | mv1_0 + 1, v1_0 =>
    cnd (decide (v1_0.2.1 < (((List.map aI (x6)).length : Nat) : Int)))
      (nat v1_0.2.1 (List.map aI (x6)).length fun x49 =>
      elt x6 x49 fun x50 =>
      cnd (decide (v1_0.1 < (min x50 x4.seq)))
        (app v1_0.2.2 ([⟨v1_0.1, (IntKind.wrap .i64 ((min x50 x4.seq) - 1))⟩]) 16 fun x51 =>
        F_watermark_Missing_l1 n x2 x4 x6 k1_0_0 mv1_0 ((max v1_0.1 (IntKind.wrap .i64 ((min x50 x4.seq) + 1))), (IntKind.wrap .i64 (v1_0.2.1 + 1)), x51))
      <| F_watermark_Missing_l1 n x2 x4 x6 k1_0_0 mv1_0 ((max v1_0.1 (IntKind.wrap .i64 ((min x50 x4.seq) + 1))), (IntKind.wrap .i64 (v1_0.2.1 + 1)), v1_0.2.2))
    <| k1_0_0 x2 v1_0.2.2
def F_watermark_Missing (n : Nat) (a0 : (List Trk)) : Option (Int × (List (Int × Int)) × Int) :=
  bnd (F_watermark_Check n a0) fun x1 =>
  cnd (!decide (x1 = 0))
    (some (0, [], x1))
  <| bnd (F_watermark_least n a0) fun x2 =>
  cnd (decide (x2 < 0))
    (some (0, [], 6))
  <| idx a0 x2 fun x3 =>
  cnd (decide ((((List.map aPt (x3.points)).length : Nat) : Int) = 0))
    (some (x2, [], 0))
  <| idx x3.points 0 fun x4 =>
  bndR (F_clone n x3.beyond) fun x5 =>
  app x5 [x4.seq] 8 fun x6 =>
  F_watermark_Missing_l1 n x2 x4 x6
    (fun k1_0_0y0 k1_0_0y1 => some (k1_0_0y0, k1_0_0y1, 0)) n (x3.next, 0, [])
def F_tidegateref36_lacking_l1 (n : Nat) (a1 : Int) (a0 : Trk) (k1_0_0 : (List (Int × Int)) → Option ((List (Int × Int)))) : Nat → Int × Int × (List (Int × Int)) → Option ((List (Int × Int)))
  | 0, _ => none
  | mv1_0 + 1, v1_0 =>
    cnd (decide (v1_0.2.1 ≤ (((List.map aI (a0.beyond)).length : Nat) : Int)))
      (cnd (decide (v1_0.2.1 < (((List.map aI (a0.beyond)).length : Nat) : Int)))
        (idx a0.beyond v1_0.2.1 fun x42 =>
        cnd (decide (v1_0.1 < (min a1 x42)))
          (app v1_0.2.2 ([⟨v1_0.1, (IntKind.wrap .i64 ((min a1 x42) - 1))⟩]) 16 fun x43 =>
          cnd (decide (v1_0.2.1 < (((List.map aI (a0.beyond)).length : Nat) : Int)))
            (idx a0.beyond v1_0.2.1 fun x44 =>
            F_tidegateref36_lacking_l1 n a1 a0 k1_0_0 mv1_0 ((IntKind.wrap .i64 (x44 + 1)), (IntKind.wrap .i64 (v1_0.2.1 + 1)), x43))
          <| F_tidegateref36_lacking_l1 n a1 a0 k1_0_0 mv1_0 (v1_0.1, (IntKind.wrap .i64 (v1_0.2.1 + 1)), x43))
        <| cnd (decide (v1_0.2.1 < (((List.map aI (a0.beyond)).length : Nat) : Int)))
          (idx a0.beyond v1_0.2.1 fun x45 =>
          F_tidegateref36_lacking_l1 n a1 a0 k1_0_0 mv1_0 ((IntKind.wrap .i64 (x45 + 1)), (IntKind.wrap .i64 (v1_0.2.1 + 1)), v1_0.2.2))
        <| F_tidegateref36_lacking_l1 n a1 a0 k1_0_0 mv1_0 (v1_0.1, (IntKind.wrap .i64 (v1_0.2.1 + 1)), v1_0.2.2))
      <| cnd (decide (v1_0.1 < a1))
        (app v1_0.2.2 ([⟨v1_0.1, (IntKind.wrap .i64 (a1 - 1))⟩]) 16 fun x46 =>
        cnd (decide (v1_0.2.1 < (((List.map aI (a0.beyond)).length : Nat) : Int)))
          (idx a0.beyond v1_0.2.1 fun x47 =>
          F_tidegateref36_lacking_l1 n a1 a0 k1_0_0 mv1_0 ((IntKind.wrap .i64 (x47 + 1)), (IntKind.wrap .i64 (v1_0.2.1 + 1)), x46))
        <| F_tidegateref36_lacking_l1 n a1 a0 k1_0_0 mv1_0 (v1_0.1, (IntKind.wrap .i64 (v1_0.2.1 + 1)), x46))
      <| cnd (decide (v1_0.2.1 < (((List.map aI (a0.beyond)).length : Nat) : Int)))
        (idx a0.beyond v1_0.2.1 fun x48 =>
        F_tidegateref36_lacking_l1 n a1 a0 k1_0_0 mv1_0 ((IntKind.wrap .i64 (x48 + 1)), (IntKind.wrap .i64 (v1_0.2.1 + 1)), v1_0.2.2))
      <| F_tidegateref36_lacking_l1 n a1 a0 k1_0_0 mv1_0 (v1_0.1, (IntKind.wrap .i64 (v1_0.2.1 + 1)), v1_0.2.2))
    <| k1_0_0 v1_0.2.2
def F_tidegateref36_lacking (n : Nat) (a0 : Trk) (a1 : Int) : Option ((List (Int × Int))) :=
  F_tidegateref36_lacking_l1 n a1 a0
    (fun k1_0_0y => some k1_0_0y) n (a0.next, 0, [])
def F_tidegateref36_Missing_l1 (n : Nat) (a0 : (List Trk)) (k1_0_0 : Int → Option (Int × (List (Int × Int)) × Int)) : Nat → Int → Option (Int × (List (Int × Int)) × Int)
  | 0, _ => none
  | mv1_0 + 1, v1_0 =>
    idx a0 v1_0 fun x48 =>
    bnd (F_tidegateref36_Least n a0) fun x49 =>
    cnd (!decide (x48.mark = x49))
      (F_tidegateref36_Missing_l1 n a0 k1_0_0 mv1_0 (IntKind.wrap .i64 (v1_0 + 1)))
    <| k1_0_0 v1_0
def F_tidegateref36_Missing (n : Nat) (a0 : (List Trk)) : Option (Int × (List (Int × Int)) × Int) :=
  bnd (F_tidegateref36_Check n a0) fun x1 =>
  cnd (!decide (x1 = 0))
    (some (0, [], x1))
  <| cnd (decide ((((List.map aTrk (a0)).length : Nat) : Int) = 0))
    (some (0, [], 6))
  <| F_tidegateref36_Missing_l1 n a0
    (fun k1_0_0y => idx a0 k1_0_0y fun x43 =>
  cnd (decide ((((List.map aPt (x43.points)).length : Nat) : Int) = 0))
    (some (k1_0_0y, [], 0))
  <| idx a0 k1_0_0y fun x44 =>
  idx a0 k1_0_0y fun x45 =>
  idx x45.points 0 fun x46 =>
  bnd (F_tidegateref36_lacking n x44 x46.seq) fun x47 =>
  some (k1_0_0y, x47, 0)) n 0
def F_watermark_kinds_1 (n : Nat) (a0 : T_api_Message) : Option (Int) :=
  some a0.fEvent.fSource
def F_sequence_Check_l1 (n : Nat) (a0 : Trk) (k1_0_0 : Option (Int)) : Nat → Int × Int → Option (Int)
  | 0, _ => none
  | mv1_0 + 1, v1_0 =>
    cnd (decide (v1_0.2 < (((List.map aI (a0.beyond)).length : Nat) : Int)))
      (idx a0.beyond v1_0.2 fun x41 =>
      cnd (decide (x41 < 0))
        (some 2)
      <| cnd (decide (1099511627776 < x41))
        (some 2)
      <| cnd (decide (x41 ≤ v1_0.1))
        (some 14)
      <| F_sequence_Check_l1 n a0 k1_0_0 mv1_0 (x41, (IntKind.wrap .i64 (v1_0.2 + 1))))
    <| k1_0_0
def F_sequence_Check (n : Nat) (a0 : Trk) : Option (Int) :=
  cnd (decide (a0.next < 0))
    (some 2)
  <| cnd (decide (1099511627777 < a0.next))
    (some 2)
  <| cnd (decide (256 < (((List.map aI (a0.beyond)).length : Nat) : Int)))
    (some 5)
  <| F_sequence_Check_l1 n a0
    (some 0) n (a0.next, 0)
def F_sequence_place_1 (n : Nat) (a0 : Int) (a1 : (List Int)) (a2 : Int) : Option (Bool) :=
  idx a1 a0 fun x1 =>
  some (decide (a2 ≤ x1))
def F_sort_Search_l1 (n : Nat) (a1c1 : Int) (a1c0 : (List Int)) (k1_0_0 : Int → Option (Int)) : Nat → Int × Int → Option (Int)
  | 0, _ => none
  | mv1_0 + 1, v1_0 =>
    cnd (decide (v1_0.1 < v1_0.2))
      (shx (1 : Int) <| bnd (F_sequence_place_1 n (IntKind.wrap .i64 (Int.fdiv (IntKind.wrap .u64 (IntKind.wrap .i64 (v1_0.1 + v1_0.2))) (2 ^ min (Int.toNat (1 : Int)) (IntKind.bits .u64)))) a1c0 a1c1) fun x42 =>
      cnd (!(x42))
        (F_sort_Search_l1 n a1c1 a1c0 k1_0_0 mv1_0 ((IntKind.wrap .i64 ((IntKind.wrap .i64 (Int.fdiv (IntKind.wrap .u64 (IntKind.wrap .i64 (v1_0.1 + v1_0.2))) (2 ^ min (Int.toNat (1 : Int)) (IntKind.bits .u64)))) + 1)), v1_0.2))
      <| F_sort_Search_l1 n a1c1 a1c0 k1_0_0 mv1_0 (v1_0.1, (IntKind.wrap .i64 (Int.fdiv (IntKind.wrap .u64 (IntKind.wrap .i64 (v1_0.1 + v1_0.2))) (2 ^ min (Int.toNat (1 : Int)) (IntKind.bits .u64))))))
    <| k1_0_0 v1_0.1
def F_sort_Search (n : Nat) (a0 : Int) (a1c0 : (List Int)) (a1c1 : Int) : Option (Int) :=
  F_sort_Search_l1 n a1c1 a1c0
    (fun k1_0_0y => some k1_0_0y) n (0, a0)
def F_sequence_place (n : Nat) (a0 : (List Int)) (a1 : Int) : Option (Int) :=
  bnd (F_sort_Search n (((List.map aI (a0)).length : Nat) : Int) a0 a1) fun x1 =>
  some x1
def F_sequence_has (n : Nat) (a0 : Trk) (a1 : Int) : Option (Bool) :=
  cnd (decide (a1 < a0.next))
    (some (decide (0 ≤ a1)))
  <| bnd (F_sequence_place n a0.beyond a1) fun x1 =>
  cnd (decide (x1 < (((List.map aI (a0.beyond)).length : Nat) : Int)))
    (idx a0.beyond x1 fun x2 =>
    some (decide (x2 = a1)))
  <| some false
def F_sequence_Has (n : Nat) (a0 : Trk) (a1 : Int) : Option (Bool × Int) :=
  bnd (F_sequence_Check n a0) fun x1 =>
  cnd (!decide (x1 = 0))
    (some (false, x1))
  <| bnd (F_sequence_has n a0 a1) fun x2 =>
  some (x2, 0)
def F_sequence_with_l1 (n : Nat) (a0 : Trk) (x2 : (List Pt)) (k1_0_0 : Int → (List Int) → (List Pt) → Option (Trk)) : Nat → Int × (List Int) → Option (Trk)
  | 0, _ => none
  | mv1_0 + 1, v1_0 =>
    cnd (decide (0 < (((List.map aI (v1_0.2)).length : Nat) : Int)))
      (idx v1_0.2 0 fun x48 =>
      cnd (decide (x48 = v1_0.1))
        (reg <| sls v1_0.2 1 (((List.map aI (v1_0.2)).length : Nat) : Int) fun x49 =>
        F_sequence_with_l1 n a0 x2 k1_0_0 mv1_0 ((IntKind.wrap .i64 (v1_0.1 + 1)), x49))
      <| k1_0_0 v1_0.1 v1_0.2 x2)
    <| k1_0_0 v1_0.1 v1_0.2 x2
def F_sequence_with (n : Nat) (a0 : Trk) (a1 : Int) : Option (Trk) :=
  bndR (F_clone n a0.beyond) fun x1 =>
  bnd (F_clone n a0.points) fun x2 =>
  cnd (decide (a0.next < a1))
    (bnd (F_sequence_place n x1 a1) fun x3 =>
    bndC (F_insert n x1 x3 [a1]) fun x4 =>
    some (⟨a0.next, x4, x2, a0.mark⟩))
  <| F_sequence_with_l1 n a0 x2
    (fun k1_0_0y0 k1_0_0y1 k1_0_0y2 => some (⟨k1_0_0y0, k1_0_0y1, k1_0_0y2, a0.mark⟩)) n ((IntKind.wrap .i64 (a0.next + 1)), x1)
def F_sequence_Receive (n : Nat) (a0 : Trk) (a1 : Int) : Option (Trk × Bool × Int) :=
  bnd (F_sequence_Check n a0) fun x1 =>
  cnd (!decide (x1 = 0))
    (some (⟨0, [], [], 0⟩, false, x1))
  <| cnd (decide (a1 < 0))
    (some (⟨0, [], [], 0⟩, false, 2))
  <| cnd (decide (1099511627776 < a1))
    (some (⟨0, [], [], 0⟩, false, 2))
  <| bnd (F_sequence_has n a0 a1) fun x2 =>
  cnd (x2)
    (bnd (F_clone n a0.beyond) fun x3 =>
    bnd (F_clone n a0.points) fun x4 =>
    some (⟨a0.next, x3, x4, a0.mark⟩, false, 0))
  <| bnd (F_sequence_with n a0 a1) fun x5 =>
  cnd (decide (256 < (((List.map aI (x5.beyond)).length : Nat) : Int)))
    (some (⟨0, [], [], 0⟩, false, 5))
  <| some (x5, true, 0)
def F_watermark_receiveEvent (n : Nat) (a0 : Trk) (a1 : T_api_Message) : Option (Trk × Bool × Int) :=
  bnd (F_sequence_Has n a0 a1.fEvent.fSeq) fun x1 =>
  cnd (!decide (x1.2 = 0))
    (some (a0, false, x1.2))
  <| cnd (x1.1)
    (some (a0, false, x1.2))
  <| bnd (F_puAllows n a0 a1.fEvent.fSeq a1.fEvent.fTime) fun x2 =>
  cnd (!decide (x2.2 = 0))
    (some (a0, false, x2.2))
  <| cnd (!(x2.1))
    (some (a0, false, 19))
  <| bnd (F_sequence_Receive n a0 a1.fEvent.fSeq) fun x3 =>
  cnd (!decide (x3.2.2 = 0))
    (some (a0, false, x3.2.2))
  <| bnd (F_puSettle n x3.1) fun x4 =>
  some (x4.1, true, x4.2)
def F_watermark_kinds_2 (n : Nat) (a0 : T_api_Message) : Option (Int) :=
  some a0.fSource
def F_watermark_receivePoint (n : Nat) (a0 : Trk) (a1 : T_api_Message) : Option (Trk × Bool × Int) :=
  bnd (F_puAdd n a0 (⟨a1.fSeq, a1.fTime⟩ : Pt)) fun x1 =>
  some (x1.1, false, x1.2)
def F_watermark_receive (n : Nat) (a0 : (List Trk)) (a1 : T_api_Message) : Option ((List Trk) × Bool × Int) :=
  bnd (F_watermark_CheckMessage n a1) fun x1 =>
  cnd (!decide (x1 = 0))
    (some ([], false, x1))
  <| cnd (decide (a1.fKind = 0))
    (bnd (F_watermark_kinds_1 n a1) fun x2 =>
  cnd (decide ((((List.map aTrk (a0)).length : Nat) : Int) ≤ x2))
    (some ([], false, 32))
  <| idx a0 x2 fun x3 =>
  bnd (F_watermark_receiveEvent n x3 a1) fun x4 =>
  cnd (!decide (x4.2.2 = 0))
    (some ([], false, x4.2.2))
  <| bndR (F_clone n a0) fun x5 =>
  nat x2 (List.map aTrk (x5)).length fun x6 =>
  stx x5 x6 (fun x7 => x4.1) fun x8 =>
  some (x8, x4.2.1, 0))
  <| cnd (decide (a1.fKind = 1))
    (bnd (F_watermark_kinds_2 n a1) fun x9 =>
  cnd (decide ((((List.map aTrk (a0)).length : Nat) : Int) ≤ x9))
    (some ([], false, 32))
  <| idx a0 x9 fun x10 =>
  bnd (F_watermark_receivePoint n x10 a1) fun x11 =>
  cnd (!decide (x11.2.2 = 0))
    (some ([], false, x11.2.2))
  <| bndR (F_clone n a0) fun x12 =>
  nat x9 (List.map aTrk (x12)).length fun x13 =>
  stx x12 x13 (fun x14 => x11.1) fun x15 =>
  some (x15, x11.2.1, 0))
  <| none
def F_watermark_Receive_l1 (n : Nat) (x2 : (List Trk) × Bool × Int) (k1_0_0 : Bool → (List Trk) → Option ((List Trk) × Bool × Int)) : Nat → Int × (List Trk) → Option ((List Trk) × Bool × Int)
  | 0, _ => none
  | mv1_0 + 1, v1_0 =>
    cnd (decide (v1_0.1 < (((List.map aTrk (x2.1)).length : Nat) : Int)))
      (nat v1_0.1 (List.map aTrk (v1_0.2)).length fun x45 =>
      ltx x45 (List.map aTrk (v1_0.2)).length <| elt v1_0.2 x45 fun x46 =>
      bnd (F_clone n x46.beyond) fun x47 =>
      nat v1_0.1 (List.map aTrk (v1_0.2)).length fun x48 =>
      ltx x48 (List.map aTrk (v1_0.2)).length <| elt v1_0.2 x48 fun x49 =>
      bnd (F_clone n x49.points) fun x50 =>
      nat v1_0.1 (List.map aTrk (v1_0.2)).length fun x51 =>
      ltx x51 (List.map aTrk (v1_0.2)).length <| stx v1_0.2 x51 (fun x52 => ⟨x52.next, x47, x52.points, x52.mark⟩) fun x53 =>
      nat v1_0.1 (List.map aTrk (x53)).length fun x54 =>
      ltx x54 (List.map aTrk (x53)).length <| stx x53 x54 (fun x55 => ⟨x55.next, x55.beyond, x50, x55.mark⟩) fun x56 =>
      F_watermark_Receive_l1 n x2 k1_0_0 mv1_0 ((IntKind.wrap .i64 (v1_0.1 + 1)), x56))
    <| k1_0_0 x2.2.1 v1_0.2
def F_watermark_Receive (n : Nat) (a0 : (List Trk)) (a1 : T_api_Message) : Option ((List Trk) × Bool × Int) :=
  bnd (F_watermark_Check n a0) fun x1 =>
  cnd (!decide (x1 = 0))
    (some ([], false, x1))
  <| bndR (F_watermark_receive n a0 a1) fun x2 =>
  cnd (!decide (x2.2.2 = 0))
    (some ([], false, x2.2.2))
  <| F_watermark_Receive_l1 n x2
    (fun k1_0_0y0 k1_0_0y1 => some (k1_0_0y1, k1_0_0y0, 0)) n (0, x2.1)
def F_tidegateref36_Source (n : Nat) (a0 : T_api_Message) : Option (Int) :=
  cnd (decide (a0.fKind = 0))
    (some a0.fEvent.fSource)
  <| some a0.fSource
def F_tidegateref34_Contains_l1 (n : Nat) (a1 : Int) (a0 : Trk) (k1_0_0 : Option (Bool)) : Nat → Int → Option (Bool)
  | 0, _ => none
  | mv1_0 + 1, v1_0 =>
    cnd (decide (v1_0 < (((List.map aI (a0.beyond)).length : Nat) : Int)))
      (idx a0.beyond v1_0 fun x41 =>
      cnd (decide (x41 = a1))
        (some true)
      <| F_tidegateref34_Contains_l1 n a1 a0 k1_0_0 mv1_0 (IntKind.wrap .i64 (v1_0 + 1)))
    <| k1_0_0
def F_tidegateref34_Contains (n : Nat) (a0 : Trk) (a1 : Int) : Option (Bool) :=
  cnd (decide (a1 < a0.next))
    (some (decide (0 ≤ a1)))
  <| F_tidegateref34_Contains_l1 n a1 a0
    (some false) n 0
def F_tidegateref34_Check_l1 (n : Nat) (a0 : Trk) (k1_0_0 : Option (Int)) : Nat → Int × Int → Option (Int)
  | 0, _ => none
  | mv1_0 + 1, v1_0 =>
    cnd (decide (v1_0.2 < (((List.map aI (a0.beyond)).length : Nat) : Int)))
      (idx a0.beyond v1_0.2 fun x41 =>
      cnd (decide (x41 < 0))
        (some 2)
      <| cnd (decide (1099511627776 < x41))
        (some 2)
      <| cnd (decide (x41 ≤ v1_0.1))
        (some 14)
      <| F_tidegateref34_Check_l1 n a0 k1_0_0 mv1_0 (x41, (IntKind.wrap .i64 (v1_0.2 + 1))))
    <| k1_0_0
def F_tidegateref34_Check (n : Nat) (a0 : Trk) : Option (Int) :=
  cnd (decide (a0.next < 0))
    (some 2)
  <| cnd (decide (1099511627777 < a0.next))
    (some 2)
  <| cnd (decide (256 < (((List.map aI (a0.beyond)).length : Nat) : Int)))
    (some 5)
  <| F_tidegateref34_Check_l1 n a0
    (some 0) n (a0.next, 0)
def F_tidegateref34_With_l2 (n : Nat) (a0 : Trk) (k2_1_0 : (List Int) → Int → Option (Trk)) : Nat → (List Int) × Int → Option (Trk)
  | 0, _ => none
  | mv2_1 + 1, v2_1 =>
    cnd (decide (0 < (((List.map aI (v2_1.1)).length : Nat) : Int)))
      (idx v2_1.1 0 fun x87 =>
      cnd (decide (x87 = v2_1.2))
        (reg <| sls v2_1.1 1 (((List.map aI (v2_1.1)).length : Nat) : Int) fun x88 =>
        F_tidegateref34_With_l2 n a0 k2_1_0 mv2_1 (x88, (IntKind.wrap .i64 (v2_1.2 + 1))))
      <| k2_1_0 v2_1.1 v2_1.2)
    <| k2_1_0 v2_1.1 v2_1.2
def F_tidegateref34_With_l3 (n : Nat) (a0 : Trk) (k3_2_0 : (List Int) → Int → Option (Trk)) : Nat → (List Int) × Int → Option (Trk)
  | 0, _ => none
  | mv3_2 + 1, v3_2 =>
    cnd (decide (0 < (((List.map aI (v3_2.1)).length : Nat) : Int)))
      (idx v3_2.1 0 fun x131 =>
      cnd (decide (x131 = v3_2.2))
        (reg <| sls v3_2.1 1 (((List.map aI (v3_2.1)).length : Nat) : Int) fun x132 =>
        F_tidegateref34_With_l3 n a0 k3_2_0 mv3_2 (x132, (IntKind.wrap .i64 (v3_2.2 + 1))))
      <| k3_2_0 v3_2.1 v3_2.2)
    <| k3_2_0 v3_2.1 v3_2.2
def F_tidegateref34_With_l1 (n : Nat) (a1 : Int) (a0 : Trk) (k1_0_0 : Bool → (List Int) → Option (Trk)) : Nat → Bool × Int × (List Int) → Option (Trk)
  | 0, _ => none
  | mv1_0 + 1, v1_0 =>
    cnd (decide (v1_0.2.1 < (((List.map aI (a0.beyond)).length : Nat) : Int)))
      (cnd (!(v1_0.1))
        (idx a0.beyond v1_0.2.1 fun x133 =>
        cnd (decide (a1 < x133))
          (app v1_0.2.2 [a1] 8 fun x134 =>
          idx a0.beyond v1_0.2.1 fun x135 =>
          app x134 [x135] 8 fun x136 =>
          F_tidegateref34_With_l1 n a1 a0 k1_0_0 mv1_0 (true, (IntKind.wrap .i64 (v1_0.2.1 + 1)), x136))
        <| idx a0.beyond v1_0.2.1 fun x137 =>
        app v1_0.2.2 [x137] 8 fun x138 =>
        F_tidegateref34_With_l1 n a1 a0 k1_0_0 mv1_0 (v1_0.1, (IntKind.wrap .i64 (v1_0.2.1 + 1)), x138))
      <| idx a0.beyond v1_0.2.1 fun x139 =>
      app v1_0.2.2 [x139] 8 fun x140 =>
      F_tidegateref34_With_l1 n a1 a0 k1_0_0 mv1_0 (v1_0.1, (IntKind.wrap .i64 (v1_0.2.1 + 1)), x140))
    <| k1_0_0 v1_0.1 v1_0.2.2
def F_tidegateref34_With (n : Nat) (a0 : Trk) (a1 : Int) : Option (Trk) :=
  bnd (F_tidegateref34_Contains n a0 a1) fun x1 =>
  cnd (x1)
    (some a0)
  <| F_tidegateref34_With_l1 n a1 a0
    (fun k1_0_0y0 k1_0_0y1 => cnd (!(k1_0_0y0))
    (app k1_0_0y1 [a1] 8 fun x44 =>
    F_tidegateref34_With_l2 n a0
      (fun k2_1_0y0 k2_1_0y1 => some (⟨k2_1_0y1, k2_1_0y0, a0.points, a0.mark⟩)) n (x44, a0.next))
  <| F_tidegateref34_With_l3 n a0
    (fun k3_2_0y0 k3_2_0y1 => some (⟨k3_2_0y1, k3_2_0y0, a0.points, a0.mark⟩)) n (k1_0_0y1, a0.next)) n (false, 0, [])
def F_tidegateref34_Receive (n : Nat) (a0 : Trk) (a1 : Int) : Option (Trk × Bool × Int) :=
  bnd (F_tidegateref34_Check n a0) fun x1 =>
  cnd (!decide (x1 = 0))
    (some (⟨0, [], [], 0⟩, false, x1))
  <| cnd (decide (a1 < 0))
    (some (⟨0, [], [], 0⟩, false, 2))
  <| cnd (decide (1099511627776 < a1))
    (some (⟨0, [], [], 0⟩, false, 2))
  <| bnd (F_tidegateref34_Contains n a0 a1) fun x2 =>
  cnd (x2)
    (some (a0, false, 0))
  <| bnd (F_tidegateref34_With n a0 a1) fun x3 =>
  cnd (decide (256 < (((List.map aI (x3.beyond)).length : Nat) : Int)))
    (some (⟨0, [], [], 0⟩, false, 5))
  <| some (x3, true, 0)
def F_tidegateref35_Settled_l2 (n : Nat) (a0 : Trk) (k1_0_0y : Int) (k2_1_0 : (List Pt) → Option (Trk)) : Nat → Int × (List Pt) → Option (Trk)
  | 0, _ => none
  | mv2_1 + 1, v2_1 =>
    cnd (decide (v2_1.1 < (((List.map aPt (a0.points)).length : Nat) : Int)))
      (idx a0.points v2_1.1 fun x83 =>
      cnd (decide (a0.next < x83.seq))
        (idx a0.points v2_1.1 fun x84 =>
        cnd (decide (k1_0_0y < x84.time))
          (idx a0.points v2_1.1 fun x85 =>
          app v2_1.2 [x85] 16 fun x86 =>
          F_tidegateref35_Settled_l2 n a0 k1_0_0y k2_1_0 mv2_1 ((IntKind.wrap .i64 (v2_1.1 + 1)), x86))
        <| F_tidegateref35_Settled_l2 n a0 k1_0_0y k2_1_0 mv2_1 ((IntKind.wrap .i64 (v2_1.1 + 1)), v2_1.2))
      <| F_tidegateref35_Settled_l2 n a0 k1_0_0y k2_1_0 mv2_1 ((IntKind.wrap .i64 (v2_1.1 + 1)), v2_1.2))
    <| k2_1_0 v2_1.2
def F_tidegateref35_Settled_l1 (n : Nat) (a0 : Trk) (k1_0_0 : Int → Option (Trk)) : Nat → Int × Int → Option (Trk)
  | 0, _ => none
  | mv1_0 + 1, v1_0 =>
    cnd (decide (v1_0.1 < (((List.map aPt (a0.points)).length : Nat) : Int)))
      (idx a0.points v1_0.1 fun x87 =>
      cnd (decide (x87.seq ≤ a0.next))
        (idx a0.points v1_0.1 fun x88 =>
        F_tidegateref35_Settled_l1 n a0 k1_0_0 mv1_0 ((IntKind.wrap .i64 (v1_0.1 + 1)), (max v1_0.2 x88.time)))
      <| F_tidegateref35_Settled_l1 n a0 k1_0_0 mv1_0 ((IntKind.wrap .i64 (v1_0.1 + 1)), v1_0.2))
    <| k1_0_0 v1_0.2
def F_tidegateref35_Settled (n : Nat) (a0 : Trk) : Option (Trk) :=
  F_tidegateref35_Settled_l1 n a0
    (fun k1_0_0y => F_tidegateref35_Settled_l2 n a0 k1_0_0y
    (fun k2_1_0y => some (⟨a0.next, a0.beyond, k2_1_0y, k1_0_0y⟩)) n (0, [])) n (0, a0.mark)
def F_tidegateref36_Note (n : Nat) (a0 : Trk) (a1 : T_api_Message) : Option (Trk × Bool × Int) :=
  cnd (decide (a1.fKind = 1))
    (bnd (F_rpuAdd n a0 (⟨a1.fSeq, a1.fTime⟩ : Pt)) fun x1 =>
    some (x1.1, false, x1.2))
  <| bnd (F_tidegateref34_Contains n a0 a1.fEvent.fSeq) fun x2 =>
  cnd (x2)
    (some (a0, false, 0))
  <| bnd (F_puAllows n a0 a1.fEvent.fSeq a1.fEvent.fTime) fun x3 =>
  cnd (!(x3.1))
    (some (⟨0, [], [], 0⟩, false, 19))
  <| bnd (F_tidegateref34_Receive n a0 a1.fEvent.fSeq) fun x4 =>
  cnd (!decide (x4.2.2 = 0))
    (some (⟨0, [], [], 0⟩, false, x4.2.2))
  <| bnd (F_tidegateref35_Settled n x4.1) fun x5 =>
  some (x5, true, 0)
def F_tidegateref36_Receive (n : Nat) (a0 : (List Trk)) (a1 : T_api_Message) : Option ((List Trk) × Bool × Int) :=
  bnd (F_tidegateref36_Check n a0) fun x1 =>
  cnd (!decide (x1 = 0))
    (some ([], false, x1))
  <| bnd (F_tidegateref36_CheckMessage n a1) fun x2 =>
  cnd (!decide (x2 = 0))
    (some ([], false, x2))
  <| bnd (F_tidegateref36_Source n a1) fun x3 =>
  cnd (decide ((((List.map aTrk (a0)).length : Nat) : Int) ≤ x3))
    (some ([], false, 32))
  <| idx a0 x3 fun x4 =>
  bnd (F_tidegateref36_Note n x4 a1) fun x5 =>
  cnd (!decide (x5.2.2 = 0))
    (some ([], false, x5.2.2))
  <| app [] a0 64 fun x6 =>
  nat x3 (List.map aTrk (x6)).length fun x7 =>
  stx x6 x7 (fun x8 => x5.1) fun x9 =>
  some (x9, x5.2.1, 0)
def F_watermark_Run_l1 (n : Nat) (a1 : (List T_api_Message)) (k1_0_0 : (List Trk) → (List Bool) → Option ((List Trk) × (List Bool) × Int)) : Nat → (List Trk) × Int × (List Bool) → Option ((List Trk) × (List Bool) × Int)
  | 0, _ => none
  | mv1_0 + 1, v1_0 =>
    cnd (decide (v1_0.2.1 < (((List.map e_api_Message (a1)).length : Nat) : Int)))
      (idx a1 v1_0.2.1 fun x45 =>
      bnd (F_watermark_receive n v1_0.1 x45) fun x46 =>
      cnd (decide (x46.2.2 = 0))
        (nat v1_0.2.1 (List.map AV.bool (v1_0.2.2)).length fun x47 =>
        stx v1_0.2.2 x47 (fun x48 => x46.2.1) fun x49 =>
        F_watermark_Run_l1 n a1 k1_0_0 mv1_0 (x46.1, (IntKind.wrap .i64 (v1_0.2.1 + 1)), x49))
      <| F_watermark_Run_l1 n a1 k1_0_0 mv1_0 (v1_0.1, (IntKind.wrap .i64 (v1_0.2.1 + 1)), v1_0.2.2))
    <| k1_0_0 v1_0.1 v1_0.2.2
def F_watermark_Run (n : Nat) (a0 : Int) (a1 : (List T_api_Message)) : Option ((List Trk) × (List Bool) × Int) :=
  bnd (F_watermark_Begin n a0) fun x1 =>
  cnd (!decide (x1.2 = 0))
    (some ([], [], x1.2))
  <| cnd (decide (4096 < (((List.map e_api_Message (a1)).length : Nat) : Int)))
    (some ([], [], 5))
  <| mak (((List.map e_api_Message (a1)).length : Nat) : Int) 1 (false : Bool) fun x2 =>
  F_watermark_Run_l1 n a1
    (fun k1_0_0y0 k1_0_0y1 => some (k1_0_0y0, k1_0_0y1, 0)) n (x1.1, 0, x2)
def F_tidegateref36_Run_l1 (n : Nat) (a1 : (List T_api_Message)) (k1_0_0 : (List Trk) → (List Bool) → Option ((List Trk) × (List Bool) × Int)) : Nat → (List Trk) × Int × (List Bool) → Option ((List Trk) × (List Bool) × Int)
  | 0, _ => none
  | mv1_0 + 1, v1_0 =>
    cnd (decide (v1_0.2.1 < (((List.map e_api_Message (a1)).length : Nat) : Int)))
      (idx a1 v1_0.2.1 fun x44 =>
      bnd (F_tidegateref36_Receive n v1_0.1 x44) fun x45 =>
      cnd (decide (x45.2.2 = 0))
        (app v1_0.2.2 [x45.2.1] 1 fun x46 =>
        F_tidegateref36_Run_l1 n a1 k1_0_0 mv1_0 (x45.1, (IntKind.wrap .i64 (v1_0.2.1 + 1)), x46))
      <| app v1_0.2.2 [x45.2.1] 1 fun x47 =>
      F_tidegateref36_Run_l1 n a1 k1_0_0 mv1_0 (v1_0.1, (IntKind.wrap .i64 (v1_0.2.1 + 1)), x47))
    <| k1_0_0 v1_0.1 v1_0.2.2
def F_tidegateref36_Run (n : Nat) (a0 : Int) (a1 : (List T_api_Message)) : Option ((List Trk) × (List Bool) × Int) :=
  bnd (F_tidegateref36_Begin n a0) fun x1 =>
  cnd (!decide (x1.2 = 0))
    (some ([], [], x1.2))
  <| cnd (decide (4096 < (((List.map e_api_Message (a1)).length : Nat) : Int)))
    (some ([], [], 5))
  <| F_tidegateref36_Run_l1 n a1
    (fun k1_0_0y0 k1_0_0y1 => some (k1_0_0y0, k1_0_0y1, 0)) n (x1.1, 0, [])
def F_tidegateref36_Same_l1 (n : Nat) (a1 : (List Trk)) (a0 : (List Trk)) (k1_0_0 : Option (Bool)) : Nat → Int → Option (Bool)
  | 0, _ => none
  | mv1_0 + 1, v1_0 =>
    cnd (decide (v1_0 < (((List.map aTrk (a0)).length : Nat) : Int)))
      (idx a0 v1_0 fun x41 =>
      idx a1 v1_0 fun x42 =>
      bnd (F_trkSame n x41 x42) fun x43 =>
      cnd (!(x43))
        (some false)
      <| F_tidegateref36_Same_l1 n a1 a0 k1_0_0 mv1_0 (IntKind.wrap .i64 (v1_0 + 1)))
    <| k1_0_0
def F_tidegateref36_Same (n : Nat) (a0 : (List Trk)) (a1 : (List Trk)) : Option (Bool) :=
  cnd (!decide ((((List.map aTrk (a0)).length : Nat) : Int) = (((List.map aTrk (a1)).length : Nat) : Int)))
    (some false)
  <| F_tidegateref36_Same_l1 n a1 a0
    (some true) n 0
def F_tidegateref36_SameBools_l1 (n : Nat) (a1 : (List Bool)) (a0 : (List Bool)) (k1_0_0 : Option (Bool)) : Nat → Int → Option (Bool)
  | 0, _ => none
  | mv1_0 + 1, v1_0 =>
    cnd (decide (v1_0 < (((List.map AV.bool (a0)).length : Nat) : Int)))
      (idx a0 v1_0 fun x41 =>
      idx a1 v1_0 fun x42 =>
      cnd (!(x41 == x42))
        (some false)
      <| F_tidegateref36_SameBools_l1 n a1 a0 k1_0_0 mv1_0 (IntKind.wrap .i64 (v1_0 + 1)))
    <| k1_0_0
def F_tidegateref36_SameBools (n : Nat) (a0 : (List Bool)) (a1 : (List Bool)) : Option (Bool) :=
  cnd (!decide ((((List.map AV.bool (a0)).length : Nat) : Int) = (((List.map AV.bool (a1)).length : Nat) : Int)))
    (some false)
  <| F_tidegateref36_SameBools_l1 n a1 a0
    (some true) n 0
def F_tidegateref34_SameGaps_l1 (n : Nat) (a1 : (List (Int × Int))) (a0 : (List (Int × Int))) (k1_0_0 : Option (Bool)) : Nat → Int → Option (Bool)
  | 0, _ => none
  | mv1_0 + 1, v1_0 =>
    cnd (decide (v1_0 < (((List.map aIv (a0)).length : Nat) : Int)))
      (idx a0 v1_0 fun x41 =>
      idx a1 v1_0 fun x42 =>
      cnd (!(decide (x41.1 = x42.1) && (decide (x41.2 = x42.2) && true)))
        (some false)
      <| F_tidegateref34_SameGaps_l1 n a1 a0 k1_0_0 mv1_0 (IntKind.wrap .i64 (v1_0 + 1)))
    <| k1_0_0
def F_tidegateref34_SameGaps (n : Nat) (a0 : (List (Int × Int))) (a1 : (List (Int × Int))) : Option (Bool) :=
  cnd (!decide ((((List.map aIv (a0)).length : Nat) : Int) = (((List.map aIv (a1)).length : Nat) : Int)))
    (some false)
  <| F_tidegateref34_SameGaps_l1 n a1 a0
    (some true) n 0
def F_tidegateref36_Honest_l2 (n : Nat) (a1 : (List T_api_Message)) (a0 : Int) (v1_0 : Int) (k2_1_0 : Option (Bool)) : Nat → Int → Option (Bool)
  | 0, _ => none
  | mv2_1 + 1, v2_1 =>
    cnd (decide (v2_1 < (((List.map e_api_Message (a1)).length : Nat) : Int)))
      (idx a1 v2_1 fun x85 =>
      bnd (F_tidegateref36_CheckMessage n x85) fun x86 =>
      cnd (!decide (x86 = 0))
        (F_tidegateref36_Honest_l2 n a1 a0 v1_0 k2_1_0 mv2_1 (IntKind.wrap .i64 (v2_1 + 1)))
      <| idx a1 v1_0 fun x87 =>
      bnd (F_tidegateref36_Source n x87) fun x88 =>
      idx a1 v2_1 fun x89 =>
      bnd (F_tidegateref36_Source n x89) fun x90 =>
      cnd (!decide (x88 = x90))
        (F_tidegateref36_Honest_l2 n a1 a0 v1_0 k2_1_0 mv2_1 (IntKind.wrap .i64 (v2_1 + 1)))
      <| idx a1 v1_0 fun x91 =>
      cnd (!decide (x91.fKind = 0))
        (F_tidegateref36_Honest_l2 n a1 a0 v1_0 k2_1_0 mv2_1 (IntKind.wrap .i64 (v2_1 + 1)))
      <| idx a1 v1_0 fun x92 =>
      idx a1 v2_1 fun x93 =>
      idx a1 v2_1 fun x94 =>
      cnd (decide (x94.fKind = 0))
        (cnd (decide (x92.fEvent.fSeq = x93.fEvent.fSeq))
          (cnd (!decide (x92.fEvent.fTime = x93.fEvent.fTime))
            (some false)
          <| idx a1 v2_1 fun x95 =>
          cnd (decide (x95.fKind = 1))
            (idx a1 v2_1 fun x96 =>
            cnd (decide (x96.fSeq ≤ x92.fEvent.fSeq))
              (idx a1 v2_1 fun x97 =>
              cnd (decide (x92.fEvent.fTime ≤ x97.fTime))
                (some false)
              <| F_tidegateref36_Honest_l2 n a1 a0 v1_0 k2_1_0 mv2_1 (IntKind.wrap .i64 (v2_1 + 1)))
            <| F_tidegateref36_Honest_l2 n a1 a0 v1_0 k2_1_0 mv2_1 (IntKind.wrap .i64 (v2_1 + 1)))
          <| F_tidegateref36_Honest_l2 n a1 a0 v1_0 k2_1_0 mv2_1 (IntKind.wrap .i64 (v2_1 + 1)))
        <| idx a1 v2_1 fun x98 =>
        cnd (decide (x98.fKind = 1))
          (idx a1 v2_1 fun x99 =>
          cnd (decide (x99.fSeq ≤ x92.fEvent.fSeq))
            (idx a1 v2_1 fun x100 =>
            cnd (decide (x92.fEvent.fTime ≤ x100.fTime))
              (some false)
            <| F_tidegateref36_Honest_l2 n a1 a0 v1_0 k2_1_0 mv2_1 (IntKind.wrap .i64 (v2_1 + 1)))
          <| F_tidegateref36_Honest_l2 n a1 a0 v1_0 k2_1_0 mv2_1 (IntKind.wrap .i64 (v2_1 + 1)))
        <| F_tidegateref36_Honest_l2 n a1 a0 v1_0 k2_1_0 mv2_1 (IntKind.wrap .i64 (v2_1 + 1)))
      <| idx a1 v2_1 fun x101 =>
      cnd (decide (x101.fKind = 1))
        (idx a1 v2_1 fun x102 =>
        cnd (decide (x102.fSeq ≤ x92.fEvent.fSeq))
          (idx a1 v2_1 fun x103 =>
          cnd (decide (x92.fEvent.fTime ≤ x103.fTime))
            (some false)
          <| F_tidegateref36_Honest_l2 n a1 a0 v1_0 k2_1_0 mv2_1 (IntKind.wrap .i64 (v2_1 + 1)))
        <| F_tidegateref36_Honest_l2 n a1 a0 v1_0 k2_1_0 mv2_1 (IntKind.wrap .i64 (v2_1 + 1)))
      <| F_tidegateref36_Honest_l2 n a1 a0 v1_0 k2_1_0 mv2_1 (IntKind.wrap .i64 (v2_1 + 1)))
    <| k2_1_0
def F_tidegateref36_Honest_l1 (n : Nat) (a1 : (List T_api_Message)) (a0 : Int) (k1_0_0 : Option (Bool)) : Nat → Int → Option (Bool)
  | 0, _ => none
  | mv1_0 + 1, v1_0 =>
    cnd (decide (v1_0 < (((List.map e_api_Message (a1)).length : Nat) : Int)))
      (idx a1 v1_0 fun x41 =>
      bnd (F_tidegateref36_CheckMessage n x41) fun x42 =>
      cnd (!decide (x42 = 0))
        (some false)
      <| idx a1 v1_0 fun x43 =>
      bnd (F_tidegateref36_Source n x43) fun x44 =>
      cnd (decide (a0 ≤ x44))
        (some false)
      <| F_tidegateref36_Honest_l2 n a1 a0 v1_0
        (F_tidegateref36_Honest_l1 n a1 a0 k1_0_0 mv1_0 (IntKind.wrap .i64 (v1_0 + 1))) n 0)
    <| k1_0_0
def F_tidegateref36_Honest (n : Nat) (a0 : Int) (a1 : (List T_api_Message)) : Option (Bool) :=
  F_tidegateref36_Honest_l1 n a1 a0
    (some true) n 0
def F_tidegateref34_Few (n : Nat) (a0 : Trk) : Option (Bool) :=
  cnd (decide ((((List.map aI (a0.beyond)).length : Nat) : Int) ≤ 300))
    (some (decide ((((List.map aPt (a0.points)).length : Nat) : Int) ≤ 300)))
  <| some false
def F_tidegateref36_Few_l1 (n : Nat) (a0 : (List Trk)) (k1_0_0 : Option (Bool)) : Nat → Int → Option (Bool)
  | 0, _ => none
  | mv1_0 + 1, v1_0 =>
    cnd (decide (v1_0 < (((List.map aTrk (a0)).length : Nat) : Int)))
      (cnd (decide (v1_0 < 12))
        (idx a0 v1_0 fun x41 =>
        bnd (F_tidegateref34_Few n x41) fun x42 =>
        cnd (!(x42))
          (some false)
        <| F_tidegateref36_Few_l1 n a0 k1_0_0 mv1_0 (IntKind.wrap .i64 (v1_0 + 1)))
      <| k1_0_0)
    <| k1_0_0
def F_tidegateref36_Few (n : Nat) (a0 : (List Trk)) : Option (Bool) :=
  F_tidegateref36_Few_l1 n a0
    (some (decide ((((List.map aTrk (a0)).length : Nat) : Int) ≤ 12))) n 0
def F_tidegatelaw36_event (n : Nat) (a0 : Int) (a1 : Int) (a2 : Int) : Option (T_api_Message) :=
  some (⟨0, ⟨a0, a1, 0, a2, []⟩, 0, 0, 0⟩)
def F_tidegatelaw36_promise (n : Nat) (a0 : Int) (a1 : Int) (a2 : Int) : Option (T_api_Message) :=
  some (⟨1, ⟨0, 0, 0, 0, []⟩, a0, a1, a2⟩)
def F_tidegatelaw36_awake (n : Nat) : Option (Bool) :=
  bnd (F_tidegatelaw36_event n 0 1 7) fun x1 =>
  bnd (F_tidegatelaw36_promise n 0 2 5) fun x2 =>
  bnd (F_watermark_Run n 1 ([x1, x2])) fun x3 =>
  bnd (F_watermark_Global n x3.1) fun x4 =>
  bnd (F_watermark_Missing n x3.1) fun x5 =>
  cnd (!decide (x3.2.2 = 0))
    (some false)
  <| cnd (!decide (x4.2 = 0))
    (some false)
  <| cnd (!decide (x5.2.2 = 0))
    (some false)
  <| cnd (!decide (x4.1 = (-1)))
    (some false)
  <| cnd (!decide (x5.1 = 0))
    (some false)
  <| bnd (F_tidegateref34_SameGaps n x5.2.1 ([⟨0, 0⟩])) fun x6 =>
  cnd (!(x6))
    (some false)
  <| bnd (F_tidegateref36_SameBools n x3.2.1 ([true, false])) fun x7 =>
  cnd (!(x7))
    (some false)
  <| bnd (F_tidegatelaw36_event n 0 0 4) fun x8 =>
  bnd (F_watermark_Receive n x3.1 x8) fun x9 =>
  bnd (F_watermark_Global n x9.1) fun x10 =>
  bnd (F_tidegatelaw36_event n 0 2 5) fun x11 =>
  bnd (F_watermark_Receive n x9.1 x11) fun x12 =>
  bnd (F_tidegatelaw36_event n 0 1 99) fun x13 =>
  bnd (F_watermark_Receive n x9.1 x13) fun x14 =>
  bnd (F_watermark_Global n ([⟨0, [], [], 5⟩, ⟨0, [], [], 3⟩])) fun x15 =>
  bnd (F_watermark_Global n []) fun x16 =>
  cnd (decide (x9.2.2 = 0))
    (cnd (decide (x10.2 = 0))
      (cnd (x9.2.1)
        (cnd (decide (x10.1 = 5))
          (cnd (decide (x12.2.2 = 19))
            (cnd (decide (x14.2.2 = 0))
              (cnd (!(x14.2.1))
                (bnd (F_tidegateref36_Same n x14.1 x9.1) fun x17 =>
                cnd (x17)
                  (cnd (decide (x15.2 = 0))
                    (cnd (decide (x15.1 = 3))
                      (cnd (decide (x16.2 = 0))
                        (some (decide (x16.1 = 1099511627776)))
                      <| some false)
                    <| some false)
                  <| some false)
                <| some false)
              <| some false)
            <| some false)
          <| some false)
        <| some false)
      <| some false)
    <| some false)
  <| some false
def F_tidegatelaw36_WatermarkReceives (n : Nat) (a0 : (List Trk)) (a1 : T_api_Message) : Option (Bool) :=
  bnd (F_tidegateref36_Few n a0) fun x1 =>
  cnd (!(x1))
    (bnd (F_tidegatelaw36_awake n) fun x2 =>
    some x2)
  <| cnd (decide (20 < (((List.map e_api_Value (a1.fEvent.fValues)).length : Nat) : Int)))
    (bnd (F_tidegatelaw36_awake n) fun x3 =>
    some x3)
  <| bnd (F_watermark_Receive n a0 a1) fun x4 =>
  bnd (F_tidegateref36_Receive n a0 a1) fun x5 =>
  bnd (F_tidegatelaw36_awake n) fun x6 =>
  cnd (x6)
    (bnd (F_tidegateref36_Same n x4.1 x5.1) fun x7 =>
    cnd (x7)
      (cnd ((x4.2.1 == x5.2.1))
        (cnd (decide (x4.2.2 = x5.2.2))
          (bnd (F_watermark_Check n a0) fun x8 =>
          bnd (F_tidegateref36_Check n a0) fun x9 =>
          cnd (decide (x8 = x9))
            (bnd (F_watermark_CheckMessage n a1) fun x10 =>
            bnd (F_tidegateref36_CheckMessage n a1) fun x11 =>
            some (decide (x10 = x11)))
          <| some false)
        <| some false)
      <| some false)
    <| some false)
  <| some false
def F_tidegatelaw36_WatermarkLooks (n : Nat) (a0 : (List Trk)) : Option (Bool) :=
  bnd (F_tidegateref36_Few n a0) fun x1 =>
  cnd (!(x1))
    (bnd (F_tidegatelaw36_awake n) fun x2 =>
    some x2)
  <| bnd (F_watermark_Global n a0) fun x3 =>
  bnd (F_tidegateref36_Global n a0) fun x4 =>
  bnd (F_watermark_Missing n a0) fun x5 =>
  bnd (F_tidegateref36_Missing n a0) fun x6 =>
  bnd (F_tidegatelaw36_awake n) fun x7 =>
  cnd (x7)
    (cnd (decide (x3.1 = x4.1))
      (cnd (decide (x3.2 = x4.2))
        (cnd (decide (x5.1 = x6.1))
          (bnd (F_tidegateref34_SameGaps n x5.2.1 x6.2.1) fun x8 =>
          cnd (x8)
            (some (decide (x5.2.2 = x6.2.2)))
          <| some false)
        <| some false)
      <| some false)
    <| some false)
  <| some false
def F_tidegatelaw36_WatermarkRuns (n : Nat) (a0 : Int) (a1 : (List T_api_Message)) : Option (Bool) :=
  cnd (decide (30 < (((List.map e_api_Message (a1)).length : Nat) : Int)))
    (cnd (decide ((((List.map e_api_Message (a1)).length : Nat) : Int) ≤ 4096))
      (bnd (F_tidegatelaw36_awake n) fun x1 =>
      some x1)
    <| cnd (decide (4105 < (((List.map e_api_Message (a1)).length : Nat) : Int)))
      (bnd (F_tidegatelaw36_awake n) fun x2 =>
      some x2)
    <| bnd (F_watermark_Begin n a0) fun x3 =>
    bnd (F_tidegateref36_Begin n a0) fun x4 =>
    bnd (F_watermark_Run n a0 a1) fun x5 =>
    bnd (F_tidegateref36_Run n a0 a1) fun x6 =>
    bnd (F_tidegatelaw36_awake n) fun x7 =>
    cnd (x7)
      (bnd (F_tidegateref36_Same n x3.1 x4.1) fun x8 =>
      cnd (x8)
        (cnd (decide (x3.2 = x4.2))
          (bnd (F_tidegateref36_Same n x5.1 x6.1) fun x9 =>
          cnd (x9)
            (bnd (F_tidegateref36_SameBools n x5.2.1 x6.2.1) fun x10 =>
            cnd (x10)
              (some (decide (x5.2.2 = x6.2.2)))
            <| some false)
          <| some false)
        <| some false)
      <| some false)
    <| some false)
  <| cnd (decide (4105 < (((List.map e_api_Message (a1)).length : Nat) : Int)))
    (bnd (F_tidegatelaw36_awake n) fun x11 =>
    some x11)
  <| bnd (F_watermark_Begin n a0) fun x12 =>
  bnd (F_tidegateref36_Begin n a0) fun x13 =>
  bnd (F_watermark_Run n a0 a1) fun x14 =>
  bnd (F_tidegateref36_Run n a0 a1) fun x15 =>
  bnd (F_tidegatelaw36_awake n) fun x16 =>
  cnd (x16)
    (bnd (F_tidegateref36_Same n x12.1 x13.1) fun x17 =>
    cnd (x17)
      (cnd (decide (x12.2 = x13.2))
        (bnd (F_tidegateref36_Same n x14.1 x15.1) fun x18 =>
        cnd (x18)
          (bnd (F_tidegateref36_SameBools n x14.2.1 x15.2.1) fun x19 =>
          cnd (x19)
            (some (decide (x14.2.2 = x15.2.2)))
          <| some false)
        <| some false)
      <| some false)
    <| some false)
  <| some false
def F_tidegatelaw36_WatermarkCommutes_l4 (n : Nat) (k2_1_0y : (List T_api_Message)) (v3_2 : (List Bool) × Int) (k4_3_0 : Bool → Option (Bool)) : Nat → Bool × Int → Option (Bool)
  | 0, _ => none
  | mv4_3 + 1, v4_3 =>
    cnd (decide (v4_3.2 < v3_2.2))
      (idx k2_1_0y v4_3.2 fun x174 =>
      cnd (decide (x174.fKind = 0))
        (idx k2_1_0y v4_3.2 fun x175 =>
        idx k2_1_0y v3_2.2 fun x176 =>
        cnd (decide (x175.fEvent.fSource = x176.fEvent.fSource))
          (idx k2_1_0y v4_3.2 fun x177 =>
          idx k2_1_0y v3_2.2 fun x178 =>
          cnd (decide (x177.fEvent.fSeq = x178.fEvent.fSeq))
            (F_tidegatelaw36_WatermarkCommutes_l4 n k2_1_0y v3_2 k4_3_0 mv4_3 (false, (IntKind.wrap .i64 (v4_3.2 + 1))))
          <| F_tidegatelaw36_WatermarkCommutes_l4 n k2_1_0y v3_2 k4_3_0 mv4_3 (v4_3.1, (IntKind.wrap .i64 (v4_3.2 + 1))))
        <| F_tidegatelaw36_WatermarkCommutes_l4 n k2_1_0y v3_2 k4_3_0 mv4_3 (v4_3.1, (IntKind.wrap .i64 (v4_3.2 + 1))))
      <| F_tidegatelaw36_WatermarkCommutes_l4 n k2_1_0y v3_2 k4_3_0 mv4_3 (v4_3.1, (IntKind.wrap .i64 (v4_3.2 + 1))))
    <| k4_3_0 v4_3.1
def F_tidegatelaw36_WatermarkCommutes_l3 (n : Nat) (k2_1_0y : (List T_api_Message)) (k3_2_0 : Option (Bool)) : Nat → (List Bool) × Int → Option (Bool)
  | 0, _ => none
  | mv3_2 + 1, v3_2 =>
    cnd (decide (v3_2.2 < (((List.map e_api_Message (k2_1_0y)).length : Nat) : Int)))
      (idx k2_1_0y v3_2.2 fun x131 =>
      F_tidegatelaw36_WatermarkCommutes_l4 n k2_1_0y v3_2
        (fun k4_3_0y => idx v3_2.1 v3_2.2 fun x173 =>
      cnd (!(x173 == k4_3_0y))
        (some false)
      <| F_tidegatelaw36_WatermarkCommutes_l3 n k2_1_0y k3_2_0 mv3_2 (v3_2.1, (IntKind.wrap .i64 (v3_2.2 + 1)))) n (decide (x131.fKind = 0), 0))
    <| k3_2_0
def F_tidegatelaw36_WatermarkCommutes_l2 (n : Nat) (a0 : (List T_api_Message)) (k2_1_0 : (List T_api_Message) → Option (Bool)) : Nat → Int × (List T_api_Message) → Option (Bool)
  | 0, _ => none
  | mv2_1 + 1, v2_1 =>
    cnd (decide (0 ≤ v2_1.1))
      (idx a0 v2_1.1 fun x179 =>
      app v2_1.2 [x179] 88 fun x180 =>
      F_tidegatelaw36_WatermarkCommutes_l2 n a0 k2_1_0 mv2_1 ((IntKind.wrap .i64 (v2_1.1 - 1)), x180))
    <| k2_1_0 v2_1.2
def F_tidegatelaw36_WatermarkCommutes_l1 (n : Nat) (a1 : (List Int)) (a0 : (List T_api_Message)) (k1_0_0 : (List T_api_Message) → Option (Bool)) : Nat → Int × (List T_api_Message) → Option (Bool)
  | 0, _ => none
  | mv1_0 + 1, v1_0 =>
    cnd (decide (v1_0.1 < (((List.map (AV.int .u8) (a1)).length : Nat) : Int)))
      (cnd (decide (0 < (((List.map e_api_Message (a0)).length : Nat) : Int)))
        (idx a1 v1_0.1 fun x181 =>
        nzx ((((List.map e_api_Message (a0)).length : Nat) : Int)) <| idx a0 (((IntKind.wrap .i64 x181)).tmod (((List.map e_api_Message (a0)).length : Nat) : Int)) fun x182 =>
        app v1_0.2 [x182] 88 fun x183 =>
        F_tidegatelaw36_WatermarkCommutes_l1 n a1 a0 k1_0_0 mv1_0 ((IntKind.wrap .i64 (v1_0.1 + 1)), x183))
      <| k1_0_0 v1_0.2)
    <| k1_0_0 v1_0.2
def F_tidegatelaw36_WatermarkCommutes (n : Nat) (a0 : (List T_api_Message)) (a1 : (List Int)) : Option (Bool) :=
  cnd (decide (14 < (((List.map e_api_Message (a0)).length : Nat) : Int)))
    (bnd (F_tidegatelaw36_awake n) fun x1 =>
    some x1)
  <| bnd (F_tidegateref36_Honest n 3 a0) fun x2 =>
  cnd (!(x2))
    (bnd (F_tidegatelaw36_awake n) fun x3 =>
    some x3)
  <| cnd (decide (20 < (((List.map (AV.int .u8) (a1)).length : Nat) : Int)))
    (bnd (F_tidegatelaw36_awake n) fun x4 =>
    some x4)
  <| F_tidegatelaw36_WatermarkCommutes_l1 n a1 a0
    (fun k1_0_0y => F_tidegatelaw36_WatermarkCommutes_l2 n a0
    (fun k2_1_0y => bnd (F_watermark_Run n 3 a0) fun x87 =>
  frz 7000 <| reg <| bnd (F_watermark_Run n 3 k2_1_0y) fun x88 =>
  cnd (!decide (x87.2.2 = 0))
    (some false)
  <| cnd (!decide (x88.2.2 = 0))
    (some false)
  <| cnd (!decide ((((List.map AV.bool (x87.2.1)).length : Nat) : Int) = (((List.map e_api_Message (a0)).length : Nat) : Int)))
    (some false)
  <| cnd (!decide ((((List.map AV.bool (x88.2.1)).length : Nat) : Int) = (((List.map e_api_Message (k2_1_0y)).length : Nat) : Int)))
    (some false)
  <| bnd (F_tidegateref36_Same n x87.1 x88.1) fun x89 =>
  cnd (!(x89))
    (some false)
  <| F_tidegatelaw36_WatermarkCommutes_l3 n k2_1_0y
    (bnd (F_tidegatelaw36_awake n) fun x130 =>
  some x130) n (x88.2.1, 0)) n ((IntKind.wrap .i64 ((((List.map e_api_Message (a0)).length : Nat) : Int) - 1)), k1_0_0y)) n (0, [])
def F_tidegatelaw36_WatermarkCompletes_l1 (n : Nat) (a0 : (List T_api_Message)) (x6 : (List Trk) × (List Bool) × Int) (x7 : Int × Int) (k1_0_0 : Option (Bool)) : Nat → Int → Option (Bool)
  | 0, _ => none
  | mv1_0 + 1, v1_0 =>
    cnd (decide (v1_0 < (((List.map e_api_Message (a0)).length : Nat) : Int)))
      (idx x6.2.1 v1_0 fun x50 =>
      cnd (x50)
        (idx a0 v1_0 fun x51 =>
        cnd (decide (x51.fEvent.fTime ≤ x7.1))
          (some false)
        <| F_tidegatelaw36_WatermarkCompletes_l1 n a0 x6 x7 k1_0_0 mv1_0 (IntKind.wrap .i64 (v1_0 + 1)))
      <| F_tidegatelaw36_WatermarkCompletes_l1 n a0 x6 x7 k1_0_0 mv1_0 (IntKind.wrap .i64 (v1_0 + 1)))
    <| k1_0_0
def F_tidegatelaw36_WatermarkCompletes (n : Nat) (a0 : (List T_api_Message)) (a1 : Int) : Option (Bool) :=
  cnd (decide (14 < (((List.map e_api_Message (a0)).length : Nat) : Int)))
    (bnd (F_tidegatelaw36_awake n) fun x1 =>
    some x1)
  <| bnd (F_tidegateref36_Honest n 3 a0) fun x2 =>
  cnd (!(x2))
    (bnd (F_tidegatelaw36_awake n) fun x3 =>
    some x3)
  <| nzx ((IntKind.wrap .i64 ((((List.map e_api_Message (a0)).length : Nat) : Int) + 1))) <| sls a0 0 (((IntKind.wrap .i64 a1)).tmod (IntKind.wrap .i64 ((((List.map e_api_Message (a0)).length : Nat) : Int) + 1))) fun x4 =>
  bnd (F_watermark_Run n 3 x4) fun x5 =>
  bnd (F_watermark_Run n 3 a0) fun x6 =>
  bnd (F_watermark_Global n x5.1) fun x7 =>
  bnd (F_watermark_Global n x6.1) fun x8 =>
  cnd (!decide (x5.2.2 = 0))
    (some false)
  <| cnd (!decide (x6.2.2 = 0))
    (some false)
  <| cnd (!decide (x7.2 = 0))
    (some false)
  <| cnd (!decide (x8.2 = 0))
    (some false)
  <| cnd (decide (x8.1 < x7.1))
    (some false)
  <| cnd (!decide ((((List.map AV.bool (x6.2.1)).length : Nat) : Int) = (((List.map e_api_Message (a0)).length : Nat) : Int)))
    (some false)
  <| F_tidegatelaw36_WatermarkCompletes_l1 n a0 x6 x7
    (bnd (F_tidegatelaw36_awake n) fun x49 =>
  some x49) n (((IntKind.wrap .i64 a1)).tmod (IntKind.wrap .i64 ((((List.map e_api_Message (a0)).length : Nat) : Int) + 1)))
def F_tidegatelaw36_WatermarkFills_l2 (n : Nat) (v1_0 : (List Trk) × Int × (List (Int × Int)) × Int × Int) (k2_1_0 : (List Trk) → Option (Bool)) : Nat → (List Trk) × Int → Option (Bool)
  | 0, _ => none
  | mv2_1 + 1, v2_1 =>
    idx v1_0.2.2.1 v1_0.2.2.2.2 fun x95 =>
    cnd (decide (v2_1.2 ≤ x95.2))
      (idx v1_0.2.2.1 v1_0.2.2.2.2 fun x96 =>
      cnd (decide (40 < (IntKind.wrap .i64 (v2_1.2 - x96.1))))
        (bnd (F_tidegatelaw36_awake n) fun x97 =>
        some x97)
      <| bnd (F_tidegatelaw36_event n v1_0.2.1 v2_1.2 1099511627776) fun x98 =>
      bnd (F_watermark_Receive n v2_1.1 x98) fun x99 =>
      cnd (!decide (x99.2.2 = 0))
        (cnd (!decide (x99.2.2 = 19))
          (cnd (!decide (x99.2.2 = 5))
            (some false)
          <| cnd (!decide ((((List.map aTrk (x99.1)).length : Nat) : Int) = (((List.map aTrk (v2_1.1)).length : Nat) : Int)))
            (cnd (decide (x99.2.2 = 0))
              (some false)
            <| cnd (decide (x99.2.2 = 0))
              (cnd (!(x99.2.1))
                (some false)
              <| cnd (!decide (x99.2.2 = 0))
                (bnd (F_tidegatelaw36_awake n) fun x100 =>
                some x100)
              <| F_tidegatelaw36_WatermarkFills_l2 n v1_0 k2_1_0 mv2_1 (x99.1, (IntKind.wrap .i64 (v2_1.2 + 1))))
            <| cnd (!decide (x99.2.2 = 0))
              (bnd (F_tidegatelaw36_awake n) fun x101 =>
              some x101)
            <| F_tidegatelaw36_WatermarkFills_l2 n v1_0 k2_1_0 mv2_1 (x99.1, (IntKind.wrap .i64 (v2_1.2 + 1))))
          <| cnd (decide (x99.2.2 = 0))
            (cnd (!(x99.2.1))
              (some false)
            <| cnd (!decide (x99.2.2 = 0))
              (bnd (F_tidegatelaw36_awake n) fun x102 =>
              some x102)
            <| F_tidegatelaw36_WatermarkFills_l2 n v1_0 k2_1_0 mv2_1 (x99.1, (IntKind.wrap .i64 (v2_1.2 + 1))))
          <| cnd (!decide (x99.2.2 = 0))
            (bnd (F_tidegatelaw36_awake n) fun x103 =>
            some x103)
          <| F_tidegatelaw36_WatermarkFills_l2 n v1_0 k2_1_0 mv2_1 (x99.1, (IntKind.wrap .i64 (v2_1.2 + 1))))
        <| cnd (!decide ((((List.map aTrk (x99.1)).length : Nat) : Int) = (((List.map aTrk (v2_1.1)).length : Nat) : Int)))
          (cnd (decide (x99.2.2 = 0))
            (some false)
          <| cnd (decide (x99.2.2 = 0))
            (cnd (!(x99.2.1))
              (some false)
            <| cnd (!decide (x99.2.2 = 0))
              (bnd (F_tidegatelaw36_awake n) fun x104 =>
              some x104)
            <| F_tidegatelaw36_WatermarkFills_l2 n v1_0 k2_1_0 mv2_1 (x99.1, (IntKind.wrap .i64 (v2_1.2 + 1))))
          <| cnd (!decide (x99.2.2 = 0))
            (bnd (F_tidegatelaw36_awake n) fun x105 =>
            some x105)
          <| F_tidegatelaw36_WatermarkFills_l2 n v1_0 k2_1_0 mv2_1 (x99.1, (IntKind.wrap .i64 (v2_1.2 + 1))))
        <| cnd (decide (x99.2.2 = 0))
          (cnd (!(x99.2.1))
            (some false)
          <| cnd (!decide (x99.2.2 = 0))
            (bnd (F_tidegatelaw36_awake n) fun x106 =>
            some x106)
          <| F_tidegatelaw36_WatermarkFills_l2 n v1_0 k2_1_0 mv2_1 (x99.1, (IntKind.wrap .i64 (v2_1.2 + 1))))
        <| cnd (!decide (x99.2.2 = 0))
          (bnd (F_tidegatelaw36_awake n) fun x107 =>
          some x107)
        <| F_tidegatelaw36_WatermarkFills_l2 n v1_0 k2_1_0 mv2_1 (x99.1, (IntKind.wrap .i64 (v2_1.2 + 1))))
      <| cnd (!decide ((((List.map aTrk (x99.1)).length : Nat) : Int) = (((List.map aTrk (v2_1.1)).length : Nat) : Int)))
        (cnd (decide (x99.2.2 = 0))
          (some false)
        <| cnd (decide (x99.2.2 = 0))
          (cnd (!(x99.2.1))
            (some false)
          <| cnd (!decide (x99.2.2 = 0))
            (bnd (F_tidegatelaw36_awake n) fun x108 =>
            some x108)
          <| F_tidegatelaw36_WatermarkFills_l2 n v1_0 k2_1_0 mv2_1 (x99.1, (IntKind.wrap .i64 (v2_1.2 + 1))))
        <| cnd (!decide (x99.2.2 = 0))
          (bnd (F_tidegatelaw36_awake n) fun x109 =>
          some x109)
        <| F_tidegatelaw36_WatermarkFills_l2 n v1_0 k2_1_0 mv2_1 (x99.1, (IntKind.wrap .i64 (v2_1.2 + 1))))
      <| cnd (decide (x99.2.2 = 0))
        (cnd (!(x99.2.1))
          (some false)
        <| cnd (!decide (x99.2.2 = 0))
          (bnd (F_tidegatelaw36_awake n) fun x110 =>
          some x110)
        <| F_tidegatelaw36_WatermarkFills_l2 n v1_0 k2_1_0 mv2_1 (x99.1, (IntKind.wrap .i64 (v2_1.2 + 1))))
      <| cnd (!decide (x99.2.2 = 0))
        (bnd (F_tidegatelaw36_awake n) fun x111 =>
        some x111)
      <| F_tidegatelaw36_WatermarkFills_l2 n v1_0 k2_1_0 mv2_1 (x99.1, (IntKind.wrap .i64 (v2_1.2 + 1))))
    <| k2_1_0 v2_1.1
def F_tidegatelaw36_WatermarkFills_l1 (n : Nat) (k1_0_0 : (List Trk) → Int → (List (Int × Int)) → Int → Option (Bool)) : Nat → (List Trk) × Int × (List (Int × Int)) × Int × Int → Option (Bool)
  | 0, _ => none
  | mv1_0 + 1, v1_0 =>
    cnd (decide (v1_0.2.2.2.2 < (((List.map aIv (v1_0.2.2.1)).length : Nat) : Int)))
      (idx v1_0.2.2.1 v1_0.2.2.2.2 fun x53 =>
      F_tidegatelaw36_WatermarkFills_l2 n v1_0
        (fun k2_1_0y => F_tidegatelaw36_WatermarkFills_l1 n k1_0_0 mv1_0 (k2_1_0y, v1_0.2.1, v1_0.2.2.1, v1_0.2.2.2.1, (IntKind.wrap .i64 (v1_0.2.2.2.2 + 1)))) n (v1_0.1, x53.1))
    <| k1_0_0 v1_0.1 v1_0.2.1 v1_0.2.2.1 v1_0.2.2.2.1
def F_tidegatelaw36_WatermarkFills (n : Nat) (a0 : (List T_api_Message)) : Option (Bool) :=
  cnd (decide (14 < (((List.map e_api_Message (a0)).length : Nat) : Int)))
    (bnd (F_tidegatelaw36_awake n) fun x1 =>
    some x1)
  <| bnd (F_watermark_Run n 2 a0) fun x2 =>
  bnd (F_watermark_Missing n x2.1) fun x3 =>
  cnd (!decide (x2.2.2 = 0))
    (some false)
  <| cnd (!decide (x3.2.2 = 0))
    (some false)
  <| cnd (decide (x3.1 < 0))
    (some false)
  <| cnd (decide ((((List.map aTrk (x2.1)).length : Nat) : Int) ≤ x3.1))
    (some false)
  <| cnd (decide (20 < (((List.map aIv (x3.2.1)).length : Nat) : Int)))
    (some false)
  <| idx x2.1 x3.1 fun x4 =>
  F_tidegatelaw36_WatermarkFills_l1 n
    (fun k1_0_0y0 k1_0_0y1 k1_0_0y2 k1_0_0y3 => cnd (decide ((((List.map aIv (k1_0_0y2)).length : Nat) : Int) = 0))
    (bnd (F_tidegatelaw36_awake n) fun x49 =>
    cnd (x49)
      (idx k1_0_0y0 k1_0_0y1 fun x50 =>
      some (decide ((((List.map aPt (x50.points)).length : Nat) : Int) = 0)))
    <| some false)
  <| bnd (F_tidegatelaw36_awake n) fun x51 =>
  cnd (x51)
    (idx k1_0_0y0 k1_0_0y1 fun x52 =>
    some (decide (k1_0_0y3 < x52.mark)))
  <| some false) n (x2.1, x3.1, x3.2.1, x4.mark, 0)
def F_tidegatelaw36_WatermarkSeparates_l1 (n : Nat) (a1 : T_api_Message) (x3 : (List Trk) × (List Bool) × Int) (x4 : (List Trk) × Bool × Int) (k1_0_0 : Bool → Option (Bool)) : Nat → Int → Option (Bool)
  | 0, _ => none
  | mv1_0 + 1, v1_0 =>
    cnd (decide (v1_0 < 3))
      (cnd (!decide (v1_0 = a1.fEvent.fSource))
        (idx x4.1 v1_0 fun x48 =>
        idx x3.1 v1_0 fun x49 =>
        bnd (F_trkSame n x48 x49) fun x50 =>
        cnd (!(x50))
          (some false)
        <| F_tidegatelaw36_WatermarkSeparates_l1 n a1 x3 x4 k1_0_0 mv1_0 (IntKind.wrap .i64 (v1_0 + 1)))
      <| F_tidegatelaw36_WatermarkSeparates_l1 n a1 x3 x4 k1_0_0 mv1_0 (IntKind.wrap .i64 (v1_0 + 1)))
    <| k1_0_0 x4.2.1
def F_tidegatelaw36_WatermarkSeparates_l2 (n : Nat) (a1 : T_api_Message) (x3 : (List Trk) × (List Bool) × Int) (x4 : (List Trk) × Bool × Int) (k2_1_0 : Bool → Option (Bool)) : Nat → Int → Option (Bool)
  | 0, _ => none
  | mv2_1 + 1, v2_1 =>
    cnd (decide (v2_1 < 3))
      (cnd (!decide (v2_1 = a1.fSource))
        (idx x4.1 v2_1 fun x93 =>
        idx x3.1 v2_1 fun x94 =>
        bnd (F_trkSame n x93 x94) fun x95 =>
        cnd (!(x95))
          (some false)
        <| F_tidegatelaw36_WatermarkSeparates_l2 n a1 x3 x4 k2_1_0 mv2_1 (IntKind.wrap .i64 (v2_1 + 1)))
      <| F_tidegatelaw36_WatermarkSeparates_l2 n a1 x3 x4 k2_1_0 mv2_1 (IntKind.wrap .i64 (v2_1 + 1)))
    <| k2_1_0 x4.2.1
def F_tidegatelaw36_WatermarkSeparates (n : Nat) (a0 : (List T_api_Message)) (a1 : T_api_Message) : Option (Bool) :=
  cnd (decide (14 < (((List.map e_api_Message (a0)).length : Nat) : Int)))
    (bnd (F_tidegatelaw36_awake n) fun x1 =>
    some x1)
  <| cnd (decide (20 < (((List.map e_api_Value (a1.fEvent.fValues)).length : Nat) : Int)))
    (bnd (F_tidegatelaw36_awake n) fun x2 =>
    some x2)
  <| bnd (F_watermark_Run n 3 a0) fun x3 =>
  bnd (F_watermark_Receive n x3.1 a1) fun x4 =>
  cnd (!decide (x3.2.2 = 0))
    (some false)
  <| cnd (!decide ((((List.map aTrk (x3.1)).length : Nat) : Int) = 3))
    (some false)
  <| cnd (!decide (x4.2.2 = 0))
    (bnd (F_tidegatelaw36_awake n) fun x5 =>
    cnd (x5)
      (cnd (decide ((((List.map aTrk (x4.1)).length : Nat) : Int) = 0))
        (some !(x4.2.1))
      <| some false)
    <| some false)
  <| cnd (!decide ((((List.map aTrk (x4.1)).length : Nat) : Int) = 3))
    (some false)
  <| cnd (decide (a1.fKind = 0))
    (F_tidegatelaw36_WatermarkSeparates_l1 n a1 x3 x4
      (fun k1_0_0y => bnd (F_tidegatelaw36_awake n) fun x47 =>
    cnd (x47)
      (cnd (!(k1_0_0y))
        (some true)
      <| some (decide (a1.fKind = 0)))
    <| some false) n 0)
  <| F_tidegatelaw36_WatermarkSeparates_l2 n a1 x3 x4
    (fun k2_1_0y => bnd (F_tidegatelaw36_awake n) fun x92 =>
  cnd (x92)
    (cnd (!(k2_1_0y))
      (some true)
    <| some (decide (a1.fKind = 0)))
  <| some false) n 0
end Go.Proofs.Ythhnhajldhnfmaa
