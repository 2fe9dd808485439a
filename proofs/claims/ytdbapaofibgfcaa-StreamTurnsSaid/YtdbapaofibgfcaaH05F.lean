/- What some functions compute, over plain values. Printed by a program of mine (gen_fun.lean). -/
import Derived.Test.YtdbapaofibgfcaaP05S
set_option linter.unusedVariables false
set_option linter.unusedSimpArgs false
set_option maxRecDepth 100000
set_option maxHeartbeats 8000000
namespace Go.Proofs.Ytdbapaofibgfcaa
open Go.RowKit
structure T_stream_identity where
  fsource : Int
  fseq : Int
deriving DecidableEq, Inhabited
def e_stream_identity (x : T_stream_identity) : AV := .agg [aI (x.fsource), aI (x.fseq)]
def F_stream_placed (n : Nat) (a0 : T_api_Event) : Option (Bool) :=
  cnd (decide (0 ≤ a0.fTime))
    (cnd (decide (a0.fTime ≤ 1099511627776))
      (cnd (decide (0 ≤ a0.fSource))
        (cnd (decide (a0.fSource < 8))
          (cnd (decide (0 ≤ a0.fSeq))
            (some (decide (a0.fSeq ≤ 1099511627776)))
          <| some false)
        <| some false)
      <| some false)
    <| some false)
  <| some false
def F_stream_of (n : Nat) (a0 : T_api_Event) : Option (T_stream_identity) :=
  some (⟨a0.fSource, a0.fSeq⟩)
def F_stream_Check_l1 (n : Nat) (a0 : (List T_api_Event)) (k1_0_0 : Option (Int)) : Nat → Int × (List (T_stream_identity × Bool)) → Option (Int)
  | 0, _ => none
  | mv1_0 + 1, v1_0 =>
    cnd (decide (v1_0.1 < (((List.map e_api_Event (a0)).length : Nat) : Int)))
      (idx a0 v1_0.1 fun x41 =>
      bnd (F_stream_placed n x41) fun x42 =>
      cnd (!(x42))
        (some 2)
      <| cnd (decide (0 < v1_0.1))
        (idx a0 (IntKind.wrap .i64 (v1_0.1 - 1)) fun x43 =>
        bnd (F_evCmp n x43 x41) fun x44 =>
        cnd (decide (0 ≤ x44))
          (some 14)
        <| bnd (F_stream_of n x41) fun x45 =>
        mgt v1_0.2 x45 (false : Bool) fun x46 x47 =>
        cnd (x46)
          (some 7)
        <| bnd (F_stream_of n x41) fun x48 =>
        mst v1_0.2 x48 true fun x49 =>
        F_stream_Check_l1 n a0 k1_0_0 mv1_0 ((IntKind.wrap .i64 (v1_0.1 + 1)), x49))
      <| bnd (F_stream_of n x41) fun x50 =>
      mgt v1_0.2 x50 (false : Bool) fun x51 x52 =>
      cnd (x51)
        (some 7)
      <| bnd (F_stream_of n x41) fun x53 =>
      mst v1_0.2 x53 true fun x54 =>
      F_stream_Check_l1 n a0 k1_0_0 mv1_0 ((IntKind.wrap .i64 (v1_0.1 + 1)), x54))
    <| k1_0_0
def F_stream_Check (n : Nat) (a0 : (List T_api_Event)) : Option (Int) :=
  cnd (decide (4096 < (((List.map e_api_Event (a0)).length : Nat) : Int)))
    (some 5)
  <| F_stream_Check_l1 n a0
    (some 0) n (0, [])
def F_tidegateref05_Placed (n : Nat) (a0 : T_api_Event) : Option (Bool) :=
  cnd (decide (0 ≤ a0.fTime))
    (cnd (decide (a0.fTime ≤ 1099511627776))
      (cnd (decide (0 ≤ a0.fSource))
        (cnd (decide (a0.fSource < 8))
          (cnd (decide (0 ≤ a0.fSeq))
            (some (decide (a0.fSeq ≤ 1099511627776)))
          <| some false)
        <| some false)
      <| some false)
    <| some false)
  <| some false
def F_tidegateref05_Ref (n : Nat) (a0 : T_api_Event) : Option (T_api_Ref) :=
  some (⟨a0.fTime, a0.fSource, a0.fSeq⟩)
def F_tidegateref05_Order (n : Nat) (a0 : T_api_Ref) (a1 : T_api_Ref) : Option (Int) :=
  cnd (!decide (a0.fTime = a1.fTime))
    (cnd (decide (a0.fTime < a1.fTime))
      (some (-1))
    <| some 1)
  <| cnd (!decide (a0.fSource = a1.fSource))
    (cnd (decide (a0.fSource < a1.fSource))
      (some (-1))
    <| some 1)
  <| cnd (decide (a0.fSeq < a1.fSeq))
    (some (-1))
  <| cnd (decide (a1.fSeq < a0.fSeq))
    (some 1)
  <| some 0
def F_tidegateref05_Twin (n : Nat) (a0 : T_api_Event) (a1 : T_api_Event) : Option (Bool) :=
  cnd (decide (a0.fSource = a1.fSource))
    (some (decide (a0.fSeq = a1.fSeq)))
  <| some false
def F_tidegateref05_Check_l2 (n : Nat) (a0 : (List T_api_Event)) (v1_0 : Int) (k2_1_0 : Option (Int)) : Nat → Int → Option (Int)
  | 0, _ => none
  | mv2_1 + 1, v2_1 =>
    cnd (decide (v2_1 < v1_0))
      (idx a0 v2_1 fun x88 =>
      idx a0 v1_0 fun x89 =>
      bnd (F_tidegateref05_Twin n x88 x89) fun x90 =>
      cnd (x90)
        (some 7)
      <| F_tidegateref05_Check_l2 n a0 v1_0 k2_1_0 mv2_1 (IntKind.wrap .i64 (v2_1 + 1)))
    <| k2_1_0
def F_tidegateref05_Check_l3 (n : Nat) (a0 : (List T_api_Event)) (v1_0 : Int) (k3_2_0 : Option (Int)) : Nat → Int → Option (Int)
  | 0, _ => none
  | mv3_2 + 1, v3_2 =>
    cnd (decide (v3_2 < v1_0))
      (idx a0 v3_2 fun x131 =>
      idx a0 v1_0 fun x132 =>
      bnd (F_tidegateref05_Twin n x131 x132) fun x133 =>
      cnd (x133)
        (some 7)
      <| F_tidegateref05_Check_l3 n a0 v1_0 k3_2_0 mv3_2 (IntKind.wrap .i64 (v3_2 + 1)))
    <| k3_2_0
def F_tidegateref05_Check_l1 (n : Nat) (a0 : (List T_api_Event)) (k1_0_0 : Option (Int)) : Nat → Int → Option (Int)
  | 0, _ => none
  | mv1_0 + 1, v1_0 =>
    cnd (decide (v1_0 < (((List.map e_api_Event (a0)).length : Nat) : Int)))
      (idx a0 v1_0 fun x41 =>
      bnd (F_tidegateref05_Placed n x41) fun x42 =>
      cnd (!(x42))
        (some 2)
      <| cnd (decide (0 < v1_0))
        (idx a0 (IntKind.wrap .i64 (v1_0 - 1)) fun x43 =>
        bnd (F_tidegateref05_Ref n x43) fun x44 =>
        idx a0 v1_0 fun x45 =>
        bnd (F_tidegateref05_Ref n x45) fun x46 =>
        bnd (F_tidegateref05_Order n (⟨x44.fTime, x44.fSource, x44.fSeq⟩ : T_api_Ref) (⟨x46.fTime, x46.fSource, x46.fSeq⟩ : T_api_Ref)) fun x47 =>
        cnd (decide (0 ≤ x47))
          (some 14)
        <| F_tidegateref05_Check_l2 n a0 v1_0
          (F_tidegateref05_Check_l1 n a0 k1_0_0 mv1_0 (IntKind.wrap .i64 (v1_0 + 1))) n 0)
      <| F_tidegateref05_Check_l3 n a0 v1_0
        (F_tidegateref05_Check_l1 n a0 k1_0_0 mv1_0 (IntKind.wrap .i64 (v1_0 + 1))) n 0)
    <| k1_0_0
def F_tidegateref05_Check (n : Nat) (a0 : (List T_api_Event)) : Option (Int) :=
  cnd (decide (4096 < (((List.map e_api_Event (a0)).length : Nat) : Int)))
    (some 5)
  <| F_tidegateref05_Check_l1 n a0
    (some 0) n 0
def F_stream_all_1 (n : Nat) (a0 : T_api_Event) : Option (Bool) :=
  bnd (F_stream_placed n a0) fun x1 =>
  some !(x1)
def F_slices_IndexFunc_l1 (n : Nat) (a0 : (List T_api_Event)) (k1_0_0 : Option (Int)) : Nat → Int → Option (Int)
  | 0, _ => none
  | mv1_0 + 1, v1_0 =>
    cnd (decide (v1_0 < (((List.map e_api_Event (a0)).length : Nat) : Int)))
      (idx a0 v1_0 fun x41 =>
      bnd (F_stream_all_1 n x41) fun x42 =>
      cnd (x42)
        (some v1_0)
      <| F_slices_IndexFunc_l1 n a0 k1_0_0 mv1_0 (IntKind.wrap .i64 (v1_0 + 1)))
    <| k1_0_0
def F_slices_IndexFunc (n : Nat) (a0 : (List T_api_Event)) : Option (Int) :=
  F_slices_IndexFunc_l1 n a0
    (some (-1)) n 0
def F_slices_ContainsFunc (n : Nat) (a0 : (List T_api_Event)) : Option (Bool) :=
  bnd (F_slices_IndexFunc n a0) fun x1 =>
  some (decide (0 ≤ x1))
def F_stream_all (n : Nat) (a0 : (List T_api_Event)) : Option (Int) :=
  cnd (decide (4096 < (((List.map e_api_Event (a0)).length : Nat) : Int)))
    (some 5)
  <| bnd (F_slices_ContainsFunc n a0) fun x1 =>
  cnd (x1)
    (some 2)
  <| some 0
def F_slices_Equal_l1 (n : Nat) (a1 : (List T_api_Value)) (a0 : (List T_api_Value)) (k1_0_0 : Option (Bool)) : Nat → Int → Option (Bool)
  | 0, _ => none
  | mv1_0 + 1, v1_0 =>
    cnd (decide (v1_0 < (((List.map e_api_Value (a0)).length : Nat) : Int)))
      (idx a0 v1_0 fun x41 =>
      idx a1 v1_0 fun x42 =>
      cnd (!(decide (x41.fKind = x42.fKind) && (decide (x41.fNum = x42.fNum) && ((x41.fText.toList == x42.fText.toList) && true))))
        (some false)
      <| F_slices_Equal_l1 n a1 a0 k1_0_0 mv1_0 (IntKind.wrap .i64 (v1_0 + 1)))
    <| k1_0_0
def F_slices_Equal (n : Nat) (a0 : (List T_api_Value)) (a1 : (List T_api_Value)) : Option (Bool) :=
  cnd (!decide ((((List.map e_api_Value (a0)).length : Nat) : Int) = (((List.map e_api_Value (a1)).length : Nat) : Int)))
    (some false)
  <| F_slices_Equal_l1 n a1 a0
    (some true) n 0
def F_stream_equal (n : Nat) (a0 : T_api_Event) (a1 : T_api_Event) : Option (Bool) :=
  bnd (F_stream_of n a0) fun x1 =>
  bnd (F_stream_of n a1) fun x2 =>
  cnd ((decide (x1.fsource = x2.fsource) && (decide (x1.fseq = x2.fseq) && true)))
    (cnd (decide (a0.fType = a1.fType))
      (cnd (decide (a0.fTime = a1.fTime))
        (bnd (F_slices_Equal n a0.fValues a1.fValues) fun x3 =>
        some x3)
      <| some false)
    <| some false)
  <| some false
def F_stream_copied (n : Nat) (a0 : T_api_Event) : Option (T_api_Event) :=
  bnd (F_clone n a0.fValues) fun x1 =>
  some (⟨a0.fSource, a0.fSeq, a0.fType, a0.fTime, x1⟩)
def F_stream_sorted_l1 (n : Nat) (a0 : (List T_api_Event)) (k1_0_0 : (List T_api_Event) → Option ((List T_api_Event) × Bool)) : Nat → Int × (List (T_stream_identity × T_api_Event)) × (List T_api_Event) → Option ((List T_api_Event) × Bool)
  | 0, _ => none
  | mv1_0 + 1, v1_0 =>
    cnd (decide (v1_0.1 < (((List.map e_api_Event (a0)).length : Nat) : Int)))
      (idx a0 v1_0.1 fun x43 =>
      bnd (F_stream_of n x43) fun x44 =>
      mgt v1_0.2.1 x44 (⟨0, 0, 0, 0, []⟩ : T_api_Event) fun x45 x46 =>
      cnd (x46)
        (bnd (F_stream_equal n x45 x43) fun x47 =>
        cnd (!(x47))
          (some ([], false))
        <| cnd (!(x46))
          (bnd (F_stream_of n x43) fun x48 =>
          mst v1_0.2.1 x48 x43 fun x49 =>
          bnd (F_stream_copied n x43) fun x50 =>
          app v1_0.2.2 [x50] 56 fun x51 =>
          F_stream_sorted_l1 n a0 k1_0_0 mv1_0 ((IntKind.wrap .i64 (v1_0.1 + 1)), x49, x51))
        <| F_stream_sorted_l1 n a0 k1_0_0 mv1_0 ((IntKind.wrap .i64 (v1_0.1 + 1)), v1_0.2.1, v1_0.2.2))
      <| cnd (!(x46))
        (bnd (F_stream_of n x43) fun x52 =>
        mst v1_0.2.1 x52 x43 fun x53 =>
        bnd (F_stream_copied n x43) fun x54 =>
        app v1_0.2.2 [x54] 56 fun x55 =>
        F_stream_sorted_l1 n a0 k1_0_0 mv1_0 ((IntKind.wrap .i64 (v1_0.1 + 1)), x53, x55))
      <| F_stream_sorted_l1 n a0 k1_0_0 mv1_0 ((IntKind.wrap .i64 (v1_0.1 + 1)), v1_0.2.1, v1_0.2.2))
    <| k1_0_0 v1_0.2.2
def F_stream_sorted (n : Nat) (a0 : (List T_api_Event)) : Option ((List T_api_Event) × Bool) :=
  F_stream_sorted_l1 n a0
    (fun k1_0_0y => bndC (F_sort evCmp n k1_0_0y) fun x42 =>
  some (x42, true)) n (0, [], [])
def F_stream_Sort (n : Nat) (a0 : (List T_api_Event)) : Option ((List T_api_Event) × Int) :=
  bnd (F_stream_all n a0) fun x1 =>
  cnd (!decide (x1 = 0))
    (some ([], x1))
  <| bnd (F_stream_sorted n a0) fun x2 =>
  cnd (!(x2.2))
    (some ([], 22))
  <| some (x2.1, 0)
def F_tidegateref05_list_l1 (n : Nat) (a0 : (List T_api_Event)) (k1_0_0 : Option (Int)) : Nat → Int → Option (Int)
  | 0, _ => none
  | mv1_0 + 1, v1_0 =>
    cnd (decide (v1_0 < (((List.map e_api_Event (a0)).length : Nat) : Int)))
      (idx a0 v1_0 fun x41 =>
      bnd (F_tidegateref05_Placed n x41) fun x42 =>
      cnd (!(x42))
        (some 2)
      <| F_tidegateref05_list_l1 n a0 k1_0_0 mv1_0 (IntKind.wrap .i64 (v1_0 + 1)))
    <| k1_0_0
def F_tidegateref05_list (n : Nat) (a0 : (List T_api_Event)) : Option (Int) :=
  cnd (decide (4096 < (((List.map e_api_Event (a0)).length : Nat) : Int)))
    (some 5)
  <| F_tidegateref05_list_l1 n a0
    (some 0) n 0
def F_tidegateref01_Same_l1 (n : Nat) (a1 : (List T_api_Value)) (a0 : (List T_api_Value)) (k1_0_0 : Option (Bool)) : Nat → Int → Option (Bool)
  | 0, _ => none
  | mv1_0 + 1, v1_0 =>
    cnd (decide (v1_0 < (((List.map e_api_Value (a0)).length : Nat) : Int)))
      (idx a0 v1_0 fun x41 =>
      idx a1 v1_0 fun x42 =>
      cnd (!(decide (x41.fKind = x42.fKind) && (decide (x41.fNum = x42.fNum) && ((x41.fText.toList == x42.fText.toList) && true))))
        (some false)
      <| F_tidegateref01_Same_l1 n a1 a0 k1_0_0 mv1_0 (IntKind.wrap .i64 (v1_0 + 1)))
    <| k1_0_0
def F_tidegateref01_Same (n : Nat) (a0 : (List T_api_Value)) (a1 : (List T_api_Value)) : Option (Bool) :=
  cnd (!decide ((((List.map e_api_Value (a0)).length : Nat) : Int) = (((List.map e_api_Value (a1)).length : Nat) : Int)))
    (some false)
  <| F_tidegateref01_Same_l1 n a1 a0
    (some true) n 0
def F_tidegateref05_Equal (n : Nat) (a0 : T_api_Event) (a1 : T_api_Event) : Option (Bool) :=
  bnd (F_tidegateref05_Ref n a0) fun x1 =>
  bnd (F_tidegateref05_Ref n a1) fun x2 =>
  cnd ((decide (x1.fTime = x2.fTime) && (decide (x1.fSource = x2.fSource) && (decide (x1.fSeq = x2.fSeq) && true))))
    (cnd (decide (a0.fType = a1.fType))
      (bnd (F_tidegateref01_Same n a0.fValues a1.fValues) fun x3 =>
      some x3)
    <| some false)
  <| some false
def F_tidegateref05_conflict_l1 (n : Nat) (a1 : T_api_Event) (a0 : (List T_api_Event)) (k1_0_0 : Option (Bool)) : Nat → Int → Option (Bool)
  | 0, _ => none
  | mv1_0 + 1, v1_0 =>
    cnd (decide (v1_0 < (((List.map e_api_Event (a0)).length : Nat) : Int)))
      (idx a0 v1_0 fun x41 =>
      bnd (F_tidegateref05_Twin n x41 a1) fun x42 =>
      cnd (x42)
        (idx a0 v1_0 fun x43 =>
        bnd (F_tidegateref05_Equal n x43 a1) fun x44 =>
        cnd (!(x44))
          (some true)
        <| F_tidegateref05_conflict_l1 n a1 a0 k1_0_0 mv1_0 (IntKind.wrap .i64 (v1_0 + 1)))
      <| F_tidegateref05_conflict_l1 n a1 a0 k1_0_0 mv1_0 (IntKind.wrap .i64 (v1_0 + 1)))
    <| k1_0_0
def F_tidegateref05_conflict (n : Nat) (a0 : (List T_api_Event)) (a1 : T_api_Event) : Option (Bool) :=
  F_tidegateref05_conflict_l1 n a1 a0
    (some false) n 0
def F_tidegateref05_Has_l1 (n : Nat) (a1 : T_api_Event) (a0 : (List T_api_Event)) (k1_0_0 : Option (Bool)) : Nat → Int → Option (Bool)
  | 0, _ => none
  | mv1_0 + 1, v1_0 =>
    cnd (decide (v1_0 < (((List.map e_api_Event (a0)).length : Nat) : Int)))
      (idx a0 v1_0 fun x41 =>
      bnd (F_tidegateref05_Equal n x41 a1) fun x42 =>
      cnd (x42)
        (some true)
      <| F_tidegateref05_Has_l1 n a1 a0 k1_0_0 mv1_0 (IntKind.wrap .i64 (v1_0 + 1)))
    <| k1_0_0
def F_tidegateref05_Has (n : Nat) (a0 : (List T_api_Event)) (a1 : T_api_Event) : Option (Bool) :=
  F_tidegateref05_Has_l1 n a1 a0
    (some false) n 0
def F_tidegateref05_put_l1 (n : Nat) (a1 : T_api_Event) (a0 : (List T_api_Event)) (k1_0_0 : Int → (List T_api_Event) → Option ((List T_api_Event))) : Nat → Int × (List T_api_Event) → Option ((List T_api_Event))
  | 0, _ => none
  | mv1_0 + 1, v1_0 =>
    cnd (decide (v1_0.1 < (((List.map e_api_Event (a0)).length : Nat) : Int)))
      (idx a0 v1_0.1 fun x46 =>
      bnd (F_tidegateref05_Ref n x46) fun x47 =>
      bnd (F_tidegateref05_Ref n a1) fun x48 =>
      bnd (F_tidegateref05_Order n (⟨x47.fTime, x47.fSource, x47.fSeq⟩ : T_api_Ref) (⟨x48.fTime, x48.fSource, x48.fSeq⟩ : T_api_Ref)) fun x49 =>
      cnd (decide (x49 < 0))
        (idx a0 v1_0.1 fun x50 =>
        app v1_0.2 [x50] 56 fun x51 =>
        F_tidegateref05_put_l1 n a1 a0 k1_0_0 mv1_0 ((IntKind.wrap .i64 (v1_0.1 + 1)), x51))
      <| k1_0_0 v1_0.1 v1_0.2)
    <| k1_0_0 v1_0.1 v1_0.2
def F_tidegateref05_put (n : Nat) (a0 : (List T_api_Event)) (a1 : T_api_Event) : Option ((List T_api_Event)) :=
  F_tidegateref05_put_l1 n a1 a0
    (fun k1_0_0y0 k1_0_0y1 => app k1_0_0y1 [a1] 56 fun x43 =>
  sls a0 k1_0_0y0 (((List.map e_api_Event (a0)).length : Nat) : Int) fun x44 =>
  app x43 x44 56 fun x45 =>
  some x45) n (0, [])
def F_tidegateref05_Sorted_l1 (n : Nat) (a0 : (List T_api_Event)) (k1_0_0 : (List T_api_Event) → Option ((List T_api_Event))) : Nat → (List T_api_Event) × Int → Option ((List T_api_Event))
  | 0, _ => none
  | mv1_0 + 1, v1_0 =>
    cnd (decide (v1_0.2 < (((List.map e_api_Event (a0)).length : Nat) : Int)))
      (idx a0 v1_0.2 fun x42 =>
      bnd (F_tidegateref05_Has n v1_0.1 x42) fun x43 =>
      cnd (!(x43))
        (idx a0 v1_0.2 fun x44 =>
        bnd (F_tidegateref05_put n v1_0.1 x44) fun x45 =>
        F_tidegateref05_Sorted_l1 n a0 k1_0_0 mv1_0 (x45, (IntKind.wrap .i64 (v1_0.2 + 1))))
      <| F_tidegateref05_Sorted_l1 n a0 k1_0_0 mv1_0 (v1_0.1, (IntKind.wrap .i64 (v1_0.2 + 1))))
    <| k1_0_0 v1_0.1
def F_tidegateref05_Sorted (n : Nat) (a0 : (List T_api_Event)) : Option ((List T_api_Event)) :=
  F_tidegateref05_Sorted_l1 n a0
    (fun k1_0_0y => some k1_0_0y) n ([], 0)
def F_tidegateref05_Sort_l1 (n : Nat) (a0 : (List T_api_Event)) (k1_0_0 : Option ((List T_api_Event) × Int)) : Nat → Int → Option ((List T_api_Event) × Int)
  | 0, _ => none
  | mv1_0 + 1, v1_0 =>
    cnd (decide (v1_0 < (((List.map e_api_Event (a0)).length : Nat) : Int)))
      (idx a0 v1_0 fun x43 =>
      bnd (F_tidegateref05_conflict n a0 x43) fun x44 =>
      cnd (x44)
        (some ([], 22))
      <| F_tidegateref05_Sort_l1 n a0 k1_0_0 mv1_0 (IntKind.wrap .i64 (v1_0 + 1)))
    <| k1_0_0
def F_tidegateref05_Sort (n : Nat) (a0 : (List T_api_Event)) : Option ((List T_api_Event) × Int) :=
  bnd (F_tidegateref05_list n a0) fun x1 =>
  cnd (!decide (x1 = 0))
    (some ([], x1))
  <| F_tidegateref05_Sort_l1 n a0
    (bnd (F_tidegateref05_Sorted n a0) fun x42 =>
  some (x42, 0)) n 0
def F_stream_compare (n : Nat) (a0 : T_api_Event) (a1 : T_api_Ref) : Option (Int) :=
  bnd (F_cmpI n a0.fTime a1.fTime) fun x1 =>
  bnd (F_cmpI n a0.fSource a1.fSource) fun x2 =>
  bnd (F_cmpI n a0.fSeq a1.fSeq) fun x3 =>
  bnd (F_cmp_Or_d n ([x1, x2, x3])) fun x4 =>
  some x4
def F_slices_BinarySearchFunc_l1 (n : Nat) (a1 : T_api_Ref) (a0 : (List T_api_Event)) (k1_0_0 : Int → Option (Int × Bool)) : Nat → Int × Int → Option (Int × Bool)
  | 0, _ => none
  | mv1_0 + 1, v1_0 =>
    cnd (decide (v1_0.1 < v1_0.2))
      (shx (1 : Int) <| idx a0 (IntKind.wrap .i64 (Int.fdiv (IntKind.wrap .u64 (IntKind.wrap .i64 (v1_0.1 + v1_0.2))) (2 ^ min (Int.toNat (1 : Int)) (IntKind.bits .u64)))) fun x44 =>
      bnd (F_stream_compare n x44 (⟨a1.fTime, a1.fSource, a1.fSeq⟩ : T_api_Ref)) fun x45 =>
      cnd (decide (x45 < 0))
        (F_slices_BinarySearchFunc_l1 n a1 a0 k1_0_0 mv1_0 ((IntKind.wrap .i64 ((IntKind.wrap .i64 (Int.fdiv (IntKind.wrap .u64 (IntKind.wrap .i64 (v1_0.1 + v1_0.2))) (2 ^ min (Int.toNat (1 : Int)) (IntKind.bits .u64)))) + 1)), v1_0.2))
      <| F_slices_BinarySearchFunc_l1 n a1 a0 k1_0_0 mv1_0 (v1_0.1, (IntKind.wrap .i64 (Int.fdiv (IntKind.wrap .u64 (IntKind.wrap .i64 (v1_0.1 + v1_0.2))) (2 ^ min (Int.toNat (1 : Int)) (IntKind.bits .u64))))))
    <| k1_0_0 v1_0.1
def F_slices_BinarySearchFunc (n : Nat) (a0 : (List T_api_Event)) (a1 : T_api_Ref) : Option (Int × Bool) :=
  F_slices_BinarySearchFunc_l1 n a1 a0
    (fun k1_0_0y => cnd (decide (k1_0_0y < (((List.map e_api_Event (a0)).length : Nat) : Int)))
    (idx a0 k1_0_0y fun x42 =>
    bnd (F_stream_compare n x42 (⟨a1.fTime, a1.fSource, a1.fSeq⟩ : T_api_Ref)) fun x43 =>
    some (k1_0_0y, decide (x43 = 0)))
  <| some (k1_0_0y, false)) n (0, (((List.map e_api_Event (a0)).length : Nat) : Int))
def F_stream_Find (n : Nat) (a0 : (List T_api_Event)) (a1 : T_api_Ref) : Option (Int × Bool × Int) :=
  bnd (F_stream_Check n a0) fun x1 =>
  cnd (!decide (x1 = 0))
    (some (0, false, x1))
  <| bnd (F_slices_BinarySearchFunc n a0 (⟨a1.fTime, a1.fSource, a1.fSeq⟩ : T_api_Ref)) fun x2 =>
  some (x2.1, x2.2, 0)
def F_tidegateref05_Find_l1 (n : Nat) (a1 : T_api_Ref) (a0 : (List T_api_Event)) (k1_0_0 : Int → Option (Int × Bool × Int)) : Nat → Int → Option (Int × Bool × Int)
  | 0, _ => none
  | mv1_0 + 1, v1_0 =>
    cnd (decide (v1_0 < (((List.map e_api_Event (a0)).length : Nat) : Int)))
      (idx a0 v1_0 fun x45 =>
      bnd (F_tidegateref05_Ref n x45) fun x46 =>
      bnd (F_tidegateref05_Order n (⟨x46.fTime, x46.fSource, x46.fSeq⟩ : T_api_Ref) (⟨a1.fTime, a1.fSource, a1.fSeq⟩ : T_api_Ref)) fun x47 =>
      cnd (decide (x47 < 0))
        (F_tidegateref05_Find_l1 n a1 a0 k1_0_0 mv1_0 (IntKind.wrap .i64 (v1_0 + 1)))
      <| k1_0_0 v1_0)
    <| k1_0_0 v1_0
def F_tidegateref05_Find (n : Nat) (a0 : (List T_api_Event)) (a1 : T_api_Ref) : Option (Int × Bool × Int) :=
  bnd (F_tidegateref05_Check n a0) fun x1 =>
  cnd (!decide (x1 = 0))
    (some (0, false, x1))
  <| F_tidegateref05_Find_l1 n a1 a0
    (fun k1_0_0y => cnd (decide (k1_0_0y < (((List.map e_api_Event (a0)).length : Nat) : Int)))
    (idx a0 k1_0_0y fun x43 =>
    bnd (F_tidegateref05_Ref n x43) fun x44 =>
    some (k1_0_0y, (decide (x44.fTime = a1.fTime) && (decide (x44.fSource = a1.fSource) && (decide (x44.fSeq = a1.fSeq) && true))), 0))
  <| some (k1_0_0y, false, 0)) n 0
def F_stream_Slice_l1 (n : Nat) (a2 : Int) (a1 : Int) (a0 : (List T_api_Event)) (k1_0_0 : (List T_api_Event) → Option ((List T_api_Event) × Int)) : Nat → Int × (List T_api_Event) → Option ((List T_api_Event) × Int)
  | 0, _ => none
  | mv1_0 + 1, v1_0 =>
    cnd (decide (v1_0.1 < (((List.map e_api_Event (a0)).length : Nat) : Int)))
      (idx a0 v1_0.1 fun x43 =>
      cnd (decide (a1 ≤ x43.fTime))
        (cnd (decide (x43.fTime ≤ a2))
          (bnd (F_stream_copied n x43) fun x44 =>
          app v1_0.2 [x44] 56 fun x45 =>
          F_stream_Slice_l1 n a2 a1 a0 k1_0_0 mv1_0 ((IntKind.wrap .i64 (v1_0.1 + 1)), x45))
        <| F_stream_Slice_l1 n a2 a1 a0 k1_0_0 mv1_0 ((IntKind.wrap .i64 (v1_0.1 + 1)), v1_0.2))
      <| F_stream_Slice_l1 n a2 a1 a0 k1_0_0 mv1_0 ((IntKind.wrap .i64 (v1_0.1 + 1)), v1_0.2))
    <| k1_0_0 v1_0.2
def F_stream_Slice (n : Nat) (a0 : (List T_api_Event)) (a1 : Int) (a2 : Int) : Option ((List T_api_Event) × Int) :=
  bnd (F_stream_Check n a0) fun x1 =>
  cnd (!decide (x1 = 0))
    (some ([], x1))
  <| F_stream_Slice_l1 n a2 a1 a0
    (fun k1_0_0y => some (k1_0_0y, 0)) n (0, [])
def F_tidegateref05_Slice_l1 (n : Nat) (a2 : Int) (a1 : Int) (a0 : (List T_api_Event)) (k1_0_0 : (List T_api_Event) → Option ((List T_api_Event) × Int)) : Nat → Int × (List T_api_Event) → Option ((List T_api_Event) × Int)
  | 0, _ => none
  | mv1_0 + 1, v1_0 =>
    cnd (decide (v1_0.1 < (((List.map e_api_Event (a0)).length : Nat) : Int)))
      (idx a0 v1_0.1 fun x43 =>
      cnd (decide (a1 ≤ x43.fTime))
        (idx a0 v1_0.1 fun x44 =>
        cnd (decide (x44.fTime ≤ a2))
          (idx a0 v1_0.1 fun x45 =>
          app v1_0.2 [x45] 56 fun x46 =>
          F_tidegateref05_Slice_l1 n a2 a1 a0 k1_0_0 mv1_0 ((IntKind.wrap .i64 (v1_0.1 + 1)), x46))
        <| F_tidegateref05_Slice_l1 n a2 a1 a0 k1_0_0 mv1_0 ((IntKind.wrap .i64 (v1_0.1 + 1)), v1_0.2))
      <| F_tidegateref05_Slice_l1 n a2 a1 a0 k1_0_0 mv1_0 ((IntKind.wrap .i64 (v1_0.1 + 1)), v1_0.2))
    <| k1_0_0 v1_0.2
def F_tidegateref05_Slice (n : Nat) (a0 : (List T_api_Event)) (a1 : Int) (a2 : Int) : Option ((List T_api_Event) × Int) :=
  bnd (F_tidegateref05_Check n a0) fun x1 =>
  cnd (!decide (x1 = 0))
    (some ([], x1))
  <| F_tidegateref05_Slice_l1 n a2 a1 a0
    (fun k1_0_0y => some (k1_0_0y, 0)) n (0, [])
def F_stream_Inversions_l2 (n : Nat) (a0 : (List T_api_Event)) (v1_0 : Int × Int) (x43 : T_api_Event) (x44 : (List T_api_Event)) (k2_1_0 : Int → Option (Int × Int)) : Nat → Int × Int → Option (Int × Int)
  | 0, _ => none
  | mv2_1 + 1, v2_1 =>
    cnd (decide (v2_1.2 < (((List.map e_api_Event (x44)).length : Nat) : Int)))
      (idx x44 v2_1.2 fun x86 =>
      bnd (F_evCmp n x86 x43) fun x87 =>
      cnd (decide (0 < x87))
        (F_stream_Inversions_l2 n a0 v1_0 x43 x44 k2_1_0 mv2_1 ((IntKind.wrap .i64 (v2_1.1 + 1)), (IntKind.wrap .i64 (v2_1.2 + 1))))
      <| F_stream_Inversions_l2 n a0 v1_0 x43 x44 k2_1_0 mv2_1 (v2_1.1, (IntKind.wrap .i64 (v2_1.2 + 1))))
    <| k2_1_0 v2_1.1
def F_stream_Inversions_l1 (n : Nat) (a0 : (List T_api_Event)) (k1_0_0 : Int → Option (Int × Int)) : Nat → Int × Int → Option (Int × Int)
  | 0, _ => none
  | mv1_0 + 1, v1_0 =>
    cnd (decide (v1_0.2 < (((List.map e_api_Event (a0)).length : Nat) : Int)))
      (idx a0 v1_0.2 fun x43 =>
      sls a0 0 v1_0.2 fun x44 =>
      F_stream_Inversions_l2 n a0 v1_0 x43 x44
        (fun k2_1_0y => F_stream_Inversions_l1 n a0 k1_0_0 mv1_0 (k2_1_0y, (IntKind.wrap .i64 (v1_0.2 + 1)))) n (v1_0.1, 0))
    <| k1_0_0 v1_0.1
def F_stream_Inversions (n : Nat) (a0 : (List T_api_Event)) : Option (Int × Int) :=
  bnd (F_stream_all n a0) fun x1 =>
  cnd (!decide (x1 = 0))
    (some (0, x1))
  <| F_stream_Inversions_l1 n a0
    (fun k1_0_0y => some (k1_0_0y, 0)) n (0, 0)
def F_tidegateref05_Inversions_l2 (n : Nat) (a0 : (List T_api_Event)) (v1_0 : Int × Int) (k2_1_0 : Int → Option (Int × Int)) : Nat → Int × Int → Option (Int × Int)
  | 0, _ => none
  | mv2_1 + 1, v2_1 =>
    cnd (decide (v2_1.2 < (((List.map e_api_Event (a0)).length : Nat) : Int)))
      (idx a0 v1_0.2 fun x84 =>
      bnd (F_tidegateref05_Ref n x84) fun x85 =>
      idx a0 v2_1.2 fun x86 =>
      bnd (F_tidegateref05_Ref n x86) fun x87 =>
      bnd (F_tidegateref05_Order n (⟨x85.fTime, x85.fSource, x85.fSeq⟩ : T_api_Ref) (⟨x87.fTime, x87.fSource, x87.fSeq⟩ : T_api_Ref)) fun x88 =>
      cnd (decide (0 < x88))
        (F_tidegateref05_Inversions_l2 n a0 v1_0 k2_1_0 mv2_1 ((IntKind.wrap .i64 (v2_1.1 + 1)), (IntKind.wrap .i64 (v2_1.2 + 1))))
      <| F_tidegateref05_Inversions_l2 n a0 v1_0 k2_1_0 mv2_1 (v2_1.1, (IntKind.wrap .i64 (v2_1.2 + 1))))
    <| k2_1_0 v2_1.1
def F_tidegateref05_Inversions_l1 (n : Nat) (a0 : (List T_api_Event)) (k1_0_0 : Int → Option (Int × Int)) : Nat → Int × Int → Option (Int × Int)
  | 0, _ => none
  | mv1_0 + 1, v1_0 =>
    cnd (decide (v1_0.2 < (((List.map e_api_Event (a0)).length : Nat) : Int)))
      (F_tidegateref05_Inversions_l2 n a0 v1_0
        (fun k2_1_0y => F_tidegateref05_Inversions_l1 n a0 k1_0_0 mv1_0 (k2_1_0y, (IntKind.wrap .i64 (v1_0.2 + 1)))) n (v1_0.1, (IntKind.wrap .i64 (v1_0.2 + 1))))
    <| k1_0_0 v1_0.1
def F_tidegateref05_Inversions (n : Nat) (a0 : (List T_api_Event)) : Option (Int × Int) :=
  bnd (F_tidegateref05_list n a0) fun x1 =>
  cnd (!decide (x1 = 0))
    (some (0, x1))
  <| F_tidegateref05_Inversions_l1 n a0
    (fun k1_0_0y => some (k1_0_0y, 0)) n (0, 0)
def F_tidegateref01_Few_l1 (n : Nat) (a0 : (List T_api_Value)) (k1_0_0 : Option (Bool)) : Nat → Int → Option (Bool)
  | 0, _ => none
  | mv1_0 + 1, v1_0 =>
    cnd (decide (v1_0 < (((List.map e_api_Value (a0)).length : Nat) : Int)))
      (cnd (decide (v1_0 < 40))
        (idx a0 v1_0 fun x41 =>
        cnd (decide (128 < ((x41.fText.size : Nat) : Int)))
          (some false)
        <| F_tidegateref01_Few_l1 n a0 k1_0_0 mv1_0 (IntKind.wrap .i64 (v1_0 + 1)))
      <| k1_0_0)
    <| k1_0_0
def F_tidegateref01_Few (n : Nat) (a0 : (List T_api_Value)) : Option (Bool) :=
  F_tidegateref01_Few_l1 n a0
    (some (decide ((((List.map e_api_Value (a0)).length : Nat) : Int) < 40))) n 0
def F_tidegateref05_Few_l1 (n : Nat) (a0 : (List T_api_Event)) (k1_0_0 : Option (Bool)) : Nat → Int → Option (Bool)
  | 0, _ => none
  | mv1_0 + 1, v1_0 =>
    cnd (decide (v1_0 < (((List.map e_api_Event (a0)).length : Nat) : Int)))
      (cnd (decide (v1_0 < 20))
        (idx a0 v1_0 fun x41 =>
        cnd (decide (12 < (((List.map e_api_Value (x41.fValues)).length : Nat) : Int)))
          (some false)
        <| idx a0 v1_0 fun x42 =>
        bnd (F_tidegateref01_Few n x42.fValues) fun x43 =>
        cnd (!(x43))
          (some false)
        <| F_tidegateref05_Few_l1 n a0 k1_0_0 mv1_0 (IntKind.wrap .i64 (v1_0 + 1)))
      <| k1_0_0)
    <| k1_0_0
def F_tidegateref05_Few (n : Nat) (a0 : (List T_api_Event)) : Option (Bool) :=
  F_tidegateref05_Few_l1 n a0
    (some (decide ((((List.map e_api_Event (a0)).length : Nat) : Int) ≤ 12))) n 0
def F_tidegateref05_Same_l1 (n : Nat) (a1 : (List T_api_Event)) (a0 : (List T_api_Event)) (k1_0_0 : Option (Bool)) : Nat → Int → Option (Bool)
  | 0, _ => none
  | mv1_0 + 1, v1_0 =>
    cnd (decide (v1_0 < (((List.map e_api_Event (a0)).length : Nat) : Int)))
      (idx a0 v1_0 fun x41 =>
      idx a1 v1_0 fun x42 =>
      bnd (F_tidegateref05_Equal n x41 x42) fun x43 =>
      cnd (!(x43))
        (some false)
      <| F_tidegateref05_Same_l1 n a1 a0 k1_0_0 mv1_0 (IntKind.wrap .i64 (v1_0 + 1)))
    <| k1_0_0
def F_tidegateref05_Same (n : Nat) (a0 : (List T_api_Event)) (a1 : (List T_api_Event)) : Option (Bool) :=
  cnd (!decide ((((List.map e_api_Event (a0)).length : Nat) : Int) = (((List.map e_api_Event (a1)).length : Nat) : Int)))
    (some false)
  <| F_tidegateref05_Same_l1 n a1 a0
    (some true) n 0
def F_slices_Grow (n : Nat) (a1 : Int) : Option ((List T_api_Event)) :=
  cnd (decide (a1 < 0))
    (none)
  <| cnd (decide (0 < (IntKind.wrap .i64 (a1 - (IntKind.wrap .i64 ((0 : Int) - 0))))))
    (psx (IntKind.wrap .i64 (a1 - (IntKind.wrap .i64 ((0 : Int) - 0)))) <| mak (IntKind.wrap .i64 (a1 - (IntKind.wrap .i64 ((0 : Int) - 0)))) 56 (⟨0, 0, 0, 0, []⟩ : T_api_Event) fun x1 =>
    sls x1 0 0 fun x2 =>
    some x2)
  <| some []
def F_slices_Concat_l2 (n : Nat) (a0 : (List (List T_api_Event))) (k2_1_0 : (List T_api_Event) → Option ((List T_api_Event))) : Nat → Int × (List T_api_Event) → Option ((List T_api_Event))
  | 0, _ => none
  | mv2_1 + 1, v2_1 =>
    cnd (decide (v2_1.1 < (((List.map (fun q => AV.sl 5 (List.map e_api_Event q)) (a0)).length : Nat) : Int)))
      (idx a0 v2_1.1 fun x84 =>
      app v2_1.2 x84 56 fun x85 =>
      F_slices_Concat_l2 n a0 k2_1_0 mv2_1 ((IntKind.wrap .i64 (v2_1.1 + 1)), x85))
    <| k2_1_0 v2_1.2
def F_slices_Concat_l1 (n : Nat) (a0 : (List (List T_api_Event))) (k1_0_0 : Int → Option ((List T_api_Event))) : Nat → Int × Int → Option ((List T_api_Event))
  | 0, _ => none
  | mv1_0 + 1, v1_0 =>
    cnd (decide (v1_0.2 < (((List.map (fun q => AV.sl 5 (List.map e_api_Event q)) (a0)).length : Nat) : Int)))
      (idx a0 v1_0.2 fun x86 =>
      cnd (decide ((IntKind.wrap .i64 (v1_0.1 + (((List.map e_api_Event (x86)).length : Nat) : Int))) < 0))
        (none)
      <| F_slices_Concat_l1 n a0 k1_0_0 mv1_0 ((IntKind.wrap .i64 (v1_0.1 + (((List.map e_api_Event (x86)).length : Nat) : Int))), (IntKind.wrap .i64 (v1_0.2 + 1))))
    <| k1_0_0 v1_0.1
def F_slices_Concat (n : Nat) (a0 : (List (List T_api_Event))) : Option ((List T_api_Event)) :=
  F_slices_Concat_l1 n a0
    (fun k1_0_0y => bndR (F_slices_Grow n k1_0_0y) fun x42 =>
  F_slices_Concat_l2 n a0
    (fun k2_1_0y => some k2_1_0y) n (0, x42)) n (0, 0)
def F_stream_joined (n : Nat) (a0 : (List T_api_Event)) (a1 : (List T_api_Event)) : Option ((List T_api_Event) × Int) :=
  bnd (F_slices_Concat n ([a0, a1])) fun x1 =>
  bnd (F_stream_sorted n x1) fun x2 =>
  cnd (!(x2.2))
    (some ([], 22))
  <| cnd (decide (4096 < (((List.map e_api_Event (x2.1)).length : Nat) : Int)))
    (some ([], 5))
  <| some (x2.1, 0)
def F_stream_Merge (n : Nat) (a0 : (List T_api_Event)) (a1 : (List T_api_Event)) : Option ((List T_api_Event) × Int) :=
  bnd (F_stream_Check n a0) fun x1 =>
  cnd (!decide (x1 = 0))
    (some ([], x1))
  <| bnd (F_stream_Check n a1) fun x2 =>
  cnd (!decide (x2 = 0))
    (some ([], x2))
  <| bnd (F_stream_joined n a0 a1) fun x3 =>
  some (x3.1, x3.2)
def F_tidegateref05_Merge_l1 (n : Nat) (a1 : (List T_api_Event)) (a0 : (List T_api_Event)) (k1_0_0 : Option ((List T_api_Event) × Int)) : Nat → Int → Option ((List T_api_Event) × Int)
  | 0, _ => none
  | mv1_0 + 1, v1_0 =>
    cnd (decide (v1_0 < (((List.map e_api_Event (a1)).length : Nat) : Int)))
      (idx a1 v1_0 fun x46 =>
      bnd (F_tidegateref05_conflict n a0 x46) fun x47 =>
      cnd (x47)
        (some ([], 22))
      <| F_tidegateref05_Merge_l1 n a1 a0 k1_0_0 mv1_0 (IntKind.wrap .i64 (v1_0 + 1)))
    <| k1_0_0
def F_tidegateref05_Merge (n : Nat) (a0 : (List T_api_Event)) (a1 : (List T_api_Event)) : Option ((List T_api_Event) × Int) :=
  bnd (F_tidegateref05_Check n a0) fun x1 =>
  cnd (!decide (x1 = 0))
    (some ([], x1))
  <| bnd (F_tidegateref05_Check n a1) fun x2 =>
  cnd (!decide (x2 = 0))
    (some ([], x2))
  <| F_tidegateref05_Merge_l1 n a1 a0
    (app [] a0 56 fun x43 =>
  app x43 a1 56 fun x44 =>
  bnd (F_tidegateref05_Sorted n x44) fun x45 =>
  cnd (decide (4096 < (((List.map e_api_Event (x45)).length : Nat) : Int)))
    (some ([], 5))
  <| some (x45, 0)) n 0
def F_stream_Insert (n : Nat) (a0 : (List T_api_Event)) (a1 : T_api_Event) : Option ((List T_api_Event) × Int) :=
  bnd (F_stream_Check n a0) fun x1 =>
  cnd (!decide (x1 = 0))
    (some ([], x1))
  <| bnd (F_stream_placed n a1) fun x2 =>
  cnd (!(x2))
    (some ([], 2))
  <| bnd (F_stream_joined n a0 [a1]) fun x3 =>
  some (x3.1, x3.2)
def F_tidegateref05_Insert (n : Nat) (a0 : (List T_api_Event)) (a1 : T_api_Event) : Option ((List T_api_Event) × Int) :=
  bnd (F_tidegateref05_Check n a0) fun x1 =>
  cnd (!decide (x1 = 0))
    (some ([], x1))
  <| bnd (F_tidegateref05_Placed n a1) fun x2 =>
  cnd (!(x2))
    (some ([], 2))
  <| bnd (F_tidegateref05_conflict n a0 a1) fun x3 =>
  cnd (x3)
    (some ([], 22))
  <| bnd (F_tidegateref05_Has n a0 a1) fun x4 =>
  cnd (x4)
    (some (a0, 0))
  <| cnd (decide ((((List.map e_api_Event (a0)).length : Nat) : Int) = 4096))
    (some ([], 5))
  <| bnd (F_tidegateref05_put n a0 a1) fun x5 =>
  some (x5, 0)
def F_tidegatelaw05_awake (n : Nat) : Option (Bool) :=
  bnd (F_stream_Sort n ([⟨0, 0, 0, 5, []⟩, ⟨0, 1, 0, 3, []⟩, ⟨0, 2, 0, 5, []⟩, ⟨0, 0, 0, 5, []⟩])) fun x1 =>
  bnd (F_stream_Inversions n ([⟨0, 0, 0, 5, []⟩, ⟨0, 1, 0, 3, []⟩, ⟨0, 2, 0, 5, []⟩])) fun x2 =>
  bnd (F_stream_Find n x1.1 (⟨5, 0, 1⟩ : T_api_Ref)) fun x3 =>
  bnd (F_stream_Find n x1.1 (⟨5, 0, 2⟩ : T_api_Ref)) fun x4 =>
  bnd (F_stream_Slice n x1.1 4 5) fun x5 =>
  bnd (F_stream_Merge n ([⟨0, 1, 0, 3, []⟩, ⟨0, 0, 0, 5, []⟩]) ([⟨0, 0, 0, 5, [⟨0, 1, ByteArray.empty⟩]⟩])) fun x6 =>
  cnd (!decide (x1.2 = 0))
    (some false)
  <| cnd (!decide (x2.2 = 0))
    (some false)
  <| cnd (!decide (x3.2.2 = 0))
    (some false)
  <| cnd (!decide (x4.2.2 = 0))
    (some false)
  <| cnd (!decide (x5.2 = 0))
    (some false)
  <| cnd (!decide (x6.2 = 22))
    (some false)
  <| bnd (F_tidegateref05_Same n x1.1 ([⟨0, 1, 0, 3, []⟩, ⟨0, 0, 0, 5, []⟩, ⟨0, 2, 0, 5, []⟩])) fun x7 =>
  cnd (x7)
    (cnd (decide (x2.1 = 1))
      (cnd (decide (x3.1 = 2))
        (cnd (!(x3.2.1))
          (cnd (decide (x4.1 = 2))
            (cnd (x4.2.1)
              (bnd (F_tidegateref05_Same n x5.1 ([⟨0, 0, 0, 5, []⟩, ⟨0, 2, 0, 5, []⟩])) fun x8 =>
              some x8)
            <| some false)
          <| some false)
        <| some false)
      <| some false)
    <| some false)
  <| some false
def F_tidegatelaw05_StreamChecks (n : Nat) (a0 : (List T_api_Event)) : Option (Bool) :=
  bnd (F_tidegateref05_Few n a0) fun x1 =>
  cnd (!(x1))
    (bnd (F_tidegatelaw05_awake n) fun x2 =>
    some x2)
  <| bnd (F_stream_Sort n a0) fun x3 =>
  bnd (F_tidegateref05_Sort n a0) fun x4 =>
  bnd (F_stream_Check n a0) fun x5 =>
  bnd (F_tidegateref05_Check n a0) fun x6 =>
  cnd (decide (x5 = x6))
    (bnd (F_tidegateref05_Same n x3.1 x4.1) fun x7 =>
    cnd (x7)
      (cnd (decide (x3.2 = x4.2))
        (bnd (F_tidegatelaw05_awake n) fun x8 =>
        some x8)
      <| some false)
    <| some false)
  <| some false
def F_tidegatelaw05_StreamFinds (n : Nat) (a0 : (List T_api_Event)) (a1 : T_api_Ref) : Option (Bool) :=
  bnd (F_tidegateref05_Few n a0) fun x1 =>
  cnd (!(x1))
    (bnd (F_tidegatelaw05_awake n) fun x2 =>
    some x2)
  <| bnd (F_stream_Find n a0 (⟨a1.fTime, a1.fSource, a1.fSeq⟩ : T_api_Ref)) fun x3 =>
  bnd (F_tidegateref05_Find n a0 (⟨a1.fTime, a1.fSource, a1.fSeq⟩ : T_api_Ref)) fun x4 =>
  cnd (decide (x3.1 = x4.1))
    (cnd ((x3.2.1 == x4.2.1))
      (cnd (decide (x3.2.2 = x4.2.2))
        (bnd (F_tidegatelaw05_awake n) fun x5 =>
        some x5)
      <| some false)
    <| some false)
  <| some false
def F_tidegatelaw05_StreamSlices (n : Nat) (a0 : (List T_api_Event)) (a1 : Int) (a2 : Int) : Option (Bool) :=
  bnd (F_tidegateref05_Few n a0) fun x1 =>
  cnd (!(x1))
    (bnd (F_tidegatelaw05_awake n) fun x2 =>
    some x2)
  <| bnd (F_stream_Slice n a0 a1 a2) fun x3 =>
  bnd (F_tidegateref05_Slice n a0 a1 a2) fun x4 =>
  bnd (F_stream_Inversions n a0) fun x5 =>
  bnd (F_tidegateref05_Inversions n a0) fun x6 =>
  bnd (F_tidegateref05_Same n x3.1 x4.1) fun x7 =>
  cnd (x7)
    (cnd (decide (x3.2 = x4.2))
      (cnd (decide (x5.1 = x6.1))
        (cnd (decide (x5.2 = x6.2))
          (bnd (F_tidegatelaw05_awake n) fun x8 =>
          some x8)
        <| some false)
      <| some false)
    <| some false)
  <| some false
def F_tidegatelaw05_StreamMerges (n : Nat) (a0 : (List T_api_Event)) (a1 : (List T_api_Event)) (a2 : T_api_Event) : Option (Bool) :=
  bnd (F_tidegateref05_Few n a0) fun x1 =>
  cnd (!(x1))
    (bnd (F_tidegatelaw05_awake n) fun x2 =>
    some x2)
  <| bnd (F_tidegateref05_Few n a1) fun x3 =>
  cnd (!(x3))
    (bnd (F_tidegatelaw05_awake n) fun x4 =>
    some x4)
  <| bnd (F_tidegateref05_Few n [a2]) fun x5 =>
  cnd (!(x5))
    (bnd (F_tidegatelaw05_awake n) fun x6 =>
    some x6)
  <| bnd (F_stream_Merge n a0 a1) fun x7 =>
  bnd (F_tidegateref05_Merge n a0 a1) fun x8 =>
  bnd (F_stream_Insert n a0 a2) fun x9 =>
  bnd (F_tidegateref05_Insert n a0 a2) fun x10 =>
  bnd (F_tidegateref05_Same n x7.1 x8.1) fun x11 =>
  cnd (x11)
    (cnd (decide (x7.2 = x8.2))
      (bnd (F_tidegateref05_Same n x9.1 x10.1) fun x12 =>
      cnd (x12)
        (cnd (decide (x9.2 = x10.2))
          (bnd (F_tidegatelaw05_awake n) fun x13 =>
          some x13)
        <| some false)
      <| some false)
    <| some false)
  <| some false
def F_tidegatelaw05_StreamUnites (n : Nat) (a0 : (List T_api_Event)) (a1 : (List T_api_Event)) (a2 : (List T_api_Event)) : Option (Bool) :=
  bnd (F_tidegateref05_Few n a0) fun x1 =>
  cnd (!(x1))
    (bnd (F_tidegatelaw05_awake n) fun x2 =>
    some x2)
  <| bnd (F_tidegateref05_Few n a1) fun x3 =>
  cnd (!(x3))
    (bnd (F_tidegatelaw05_awake n) fun x4 =>
    some x4)
  <| bnd (F_tidegateref05_Few n a2) fun x5 =>
  cnd (!(x5))
    (bnd (F_tidegatelaw05_awake n) fun x6 =>
    some x6)
  <| bnd (F_stream_Merge n a0 a1) fun x7 =>
  bnd (F_stream_Merge n a1 a0) fun x8 =>
  cnd (!decide (x7.2 = 0))
    (cnd (((!decide (x7.2 = 0)) == (!decide (x8.2 = 0))))
      (bnd (F_tidegatelaw05_awake n) fun x9 =>
      some x9)
    <| some false)
  <| cnd (!decide (x8.2 = 0))
    (cnd (((!decide (x7.2 = 0)) == (!decide (x8.2 = 0))))
      (bnd (F_tidegatelaw05_awake n) fun x10 =>
      some x10)
    <| some false)
  <| bndR (F_clone n a0) fun x11 =>
  app x11 a1 56 fun x12 =>
  bnd (F_stream_Sort n x12) fun x13 =>
  bnd (F_stream_Merge n x7.1 a1) fun x14 =>
  cnd (!decide (x13.2 = 0))
    (some false)
  <| cnd (!decide (x14.2 = 0))
    (some false)
  <| bnd (F_tidegateref05_Same n x7.1 x8.1) fun x15 =>
  cnd (!(x15))
    (some false)
  <| bnd (F_tidegateref05_Same n x7.1 x13.1) fun x16 =>
  cnd (!(x16))
    (some false)
  <| bnd (F_tidegateref05_Same n x14.1 x7.1) fun x17 =>
  cnd (!(x17))
    (some false)
  <| bnd (F_stream_Merge n x7.1 a2) fun x18 =>
  bnd (F_stream_Merge n a1 a2) fun x19 =>
  cnd (!decide (x18.2 = 0))
    (bnd (F_tidegatelaw05_awake n) fun x20 =>
    some x20)
  <| cnd (!decide (x19.2 = 0))
    (bnd (F_tidegatelaw05_awake n) fun x21 =>
    some x21)
  <| bnd (F_stream_Merge n a0 x19.1) fun x22 =>
  cnd (decide (x22.2 = 0))
    (bnd (F_tidegateref05_Same n x18.1 x22.1) fun x23 =>
    cnd (x23)
      (bnd (F_tidegatelaw05_awake n) fun x24 =>
      some x24)
    <| some false)
  <| some false
def F_tidegatelaw05_StreamDisorders_1 (n : Nat) (a0 : T_api_Event) : Option (Bool) :=
  bnd (F_tidegateref05_Placed n a0) fun x1 =>
  some !(x1)
def F_slices_IndexFunc_s52_l1 (n : Nat) (a0 : (List T_api_Event)) (k1_0_0 : Option (Int)) : Nat → Int → Option (Int)
  | 0, _ => none
  | mv1_0 + 1, v1_0 =>
    cnd (decide (v1_0 < (((List.map e_api_Event (a0)).length : Nat) : Int)))
      (idx a0 v1_0 fun x41 =>
      bnd (F_tidegatelaw05_StreamDisorders_1 n x41) fun x42 =>
      cnd (x42)
        (some v1_0)
      <| F_slices_IndexFunc_s52_l1 n a0 k1_0_0 mv1_0 (IntKind.wrap .i64 (v1_0 + 1)))
    <| k1_0_0
def F_slices_IndexFunc_s52 (n : Nat) (a0 : (List T_api_Event)) : Option (Int) :=
  F_slices_IndexFunc_s52_l1 n a0
    (some (-1)) n 0
def F_slices_ContainsFunc_s52 (n : Nat) (a0 : (List T_api_Event)) : Option (Bool) :=
  bnd (F_slices_IndexFunc_s52 n a0) fun x1 =>
  some (decide (0 ≤ x1))
def F_tidegatelaw05_StreamDisorders_2 (n : Nat) (a0 : T_api_Event) (a1 : T_api_Event) : Option (Int) :=
  bnd (F_tidegateref05_Ref n a0) fun x1 =>
  bnd (F_tidegateref05_Ref n a1) fun x2 =>
  bnd (F_tidegateref05_Order n (⟨x1.fTime, x1.fSource, x1.fSeq⟩ : T_api_Ref) (⟨x2.fTime, x2.fSource, x2.fSeq⟩ : T_api_Ref)) fun x3 =>
  some x3
def F_slices_IsSortedFunc_l1 (n : Nat) (a0 : (List T_api_Event)) (k1_0_0 : Option (Bool)) : Nat → Int → Option (Bool)
  | 0, _ => none
  | mv1_0 + 1, v1_0 =>
    cnd (decide (0 < v1_0))
      (idx a0 v1_0 fun x41 =>
      idx a0 (IntKind.wrap .i64 (v1_0 - 1)) fun x42 =>
      bnd (F_tidegatelaw05_StreamDisorders_2 n x41 x42) fun x43 =>
      cnd (decide (x43 < 0))
        (some false)
      <| F_slices_IsSortedFunc_l1 n a0 k1_0_0 mv1_0 (IntKind.wrap .i64 (v1_0 - 1)))
    <| k1_0_0
def F_slices_IsSortedFunc (n : Nat) (a0 : (List T_api_Event)) : Option (Bool) :=
  F_slices_IsSortedFunc_l1 n a0
    (some true) n (IntKind.wrap .i64 ((((List.map e_api_Event (a0)).length : Nat) : Int) - 1))
def F_tidegatelaw05_StreamDisorders (n : Nat) (a0 : (List T_api_Event)) (a1 : Int) : Option (Bool) :=
  bnd (F_tidegateref05_Few n a0) fun x1 =>
  cnd (!(x1))
    (bnd (F_tidegatelaw05_awake n) fun x2 =>
    some x2)
  <| bnd (F_slices_ContainsFunc_s52 n a0) fun x3 =>
  cnd (x3)
    (bnd (F_tidegatelaw05_awake n) fun x4 =>
    some x4)
  <| bnd (F_stream_Inversions n a0) fun x5 =>
  cnd (!decide (x5.2 = 0))
    (some false)
  <| bnd (F_slices_IsSortedFunc n a0) fun x6 =>
  cnd (!((decide (x5.1 = 0)) == x6))
    (some false)
  <| cnd (decide ((((List.map e_api_Event (a0)).length : Nat) : Int) < 2))
    (bnd (F_tidegatelaw05_awake n) fun x7 =>
    some x7)
  <| nzx ((IntKind.wrap .i64 ((((List.map e_api_Event (a0)).length : Nat) : Int) - 1))) <| bndR (F_clone n a0) fun x8 =>
  nat (IntKind.wrap .i64 ((((IntKind.wrap .i64 a1)).tmod (IntKind.wrap .i64 ((((List.map e_api_Event (a0)).length : Nat) : Int) - 1))) + 1)) (List.map e_api_Event (x8)).length fun x9 =>
  elt x8 x9 fun x10 =>
  nat (((IntKind.wrap .i64 a1)).tmod (IntKind.wrap .i64 ((((List.map e_api_Event (a0)).length : Nat) : Int) - 1))) (List.map e_api_Event (x8)).length fun x11 =>
  elt x8 x11 fun x12 =>
  nat (((IntKind.wrap .i64 a1)).tmod (IntKind.wrap .i64 ((((List.map e_api_Event (a0)).length : Nat) : Int) - 1))) (List.map e_api_Event (x8)).length fun x13 =>
  stx x8 x13 (fun x14 => x10) fun x15 =>
  nat (IntKind.wrap .i64 ((((IntKind.wrap .i64 a1)).tmod (IntKind.wrap .i64 ((((List.map e_api_Event (a0)).length : Nat) : Int) - 1))) + 1)) (List.map e_api_Event (x15)).length fun x16 =>
  stx x15 x16 (fun x17 => x12) fun x18 =>
  bnd (F_stream_Inversions n x18) fun x19 =>
  cnd (decide (x19.2 = 0))
    (idx a0 (((IntKind.wrap .i64 a1)).tmod (IntKind.wrap .i64 ((((List.map e_api_Event (a0)).length : Nat) : Int) - 1))) fun x20 =>
    bnd (F_tidegateref05_Ref n x20) fun x21 =>
    idx a0 (IntKind.wrap .i64 ((((IntKind.wrap .i64 a1)).tmod (IntKind.wrap .i64 ((((List.map e_api_Event (a0)).length : Nat) : Int) - 1))) + 1)) fun x22 =>
    bnd (F_tidegateref05_Ref n x22) fun x23 =>
    bnd (F_tidegateref05_Order n (⟨x21.fTime, x21.fSource, x21.fSeq⟩ : T_api_Ref) (⟨x23.fTime, x23.fSource, x23.fSeq⟩ : T_api_Ref)) fun x24 =>
    cnd (decide (x19.1 = (IntKind.wrap .i64 (x5.1 - x24))))
      (bnd (F_tidegatelaw05_awake n) fun x25 =>
      some x25)
    <| some false)
  <| some false
def F_tidegateref05_Key (n : Nat) (a0 : T_api_Event) (a1 : (List Int)) : Option (T_api_Value × Bool × Int) :=
  cnd (decide ((((List.map aI (a1)).length : Nat) : Int) = 0))
    (some (⟨0, 0, ByteArray.empty⟩, true, 0))
  <| cnd (decide (a0.fType < 0))
    (some (⟨0, 0, ByteArray.empty⟩, false, 1))
  <| cnd (decide ((((List.map aI (a1)).length : Nat) : Int) ≤ a0.fType))
    (some (⟨0, 0, ByteArray.empty⟩, false, 1))
  <| idx a1 a0.fType fun x1 =>
  cnd (decide (x1 < (-1)))
    (some (⟨0, 0, ByteArray.empty⟩, false, 2))
  <| cnd (decide ((((List.map e_api_Value (a0.fValues)).length : Nat) : Int) ≤ x1))
    (some (⟨0, 0, ByteArray.empty⟩, false, 2))
  <| cnd (decide (x1 = (-1)))
    (some (⟨0, 0, ByteArray.empty⟩, false, 0))
  <| idx a0.fValues x1 fun x2 =>
  some (x2, true, 0)
def F_tidegateref01_order (n : Nat) (a0 : Int) (a1 : Int) : Option (Int) :=
  cnd (decide (a0 < a1))
    (some (-1))
  <| cnd (decide (a1 < a0))
    (some 1)
  <| some 0
def F_tidegateref01_Compare (n : Nat) (a0 : T_api_Value) (a1 : T_api_Value) : Option (Int) :=
  cnd (!decide (a0.fKind = a1.fKind))
    (bnd (F_tidegateref01_order n a0.fKind a1.fKind) fun x1 =>
    some x1)
  <| cnd (!decide (a0.fNum = a1.fNum))
    (bnd (F_tidegateref01_order n a0.fNum a1.fNum) fun x2 =>
    some x2)
  <| cnd (Op.bytesLess a0.fText.toList a1.fText.toList)
    (some (-1))
  <| cnd (!(Op.bytesLess a0.fText.toList a1.fText.toList || a0.fText.toList == a1.fText.toList))
    (some 1)
  <| some 0
def F_tidegateref05_keys_l1 (n : Nat) (a1 : T_api_Value) (a0 : (List T_api_Value)) (k1_0_0 : Int → (List T_api_Value) → Option ((List T_api_Value))) : Nat → Int × (List T_api_Value) → Option ((List T_api_Value))
  | 0, _ => none
  | mv1_0 + 1, v1_0 =>
    cnd (decide (v1_0.1 < (((List.map e_api_Value (a0)).length : Nat) : Int)))
      (idx a0 v1_0.1 fun x52 =>
      bnd (F_tidegateref01_Compare n x52 a1) fun x53 =>
      cnd (decide (x53 < 0))
        (idx a0 v1_0.1 fun x54 =>
        app v1_0.2 [x54] 32 fun x55 =>
        F_tidegateref05_keys_l1 n a1 a0 k1_0_0 mv1_0 ((IntKind.wrap .i64 (v1_0.1 + 1)), x55))
      <| k1_0_0 v1_0.1 v1_0.2)
    <| k1_0_0 v1_0.1 v1_0.2
def F_tidegateref05_keys (n : Nat) (a0 : (List T_api_Value)) (a1 : T_api_Value) : Option ((List T_api_Value)) :=
  F_tidegateref05_keys_l1 n a1 a0
    (fun k1_0_0y0 k1_0_0y1 => cnd (decide (k1_0_0y0 = (((List.map e_api_Value (a0)).length : Nat) : Int)))
    (app k1_0_0y1 [a1] 32 fun x43 =>
    sls a0 k1_0_0y0 (((List.map e_api_Value (a0)).length : Nat) : Int) fun x44 =>
    app x43 x44 32 fun x45 =>
    some x45)
  <| idx a0 k1_0_0y0 fun x46 =>
  cnd (!(decide (x46.fKind = a1.fKind) && (decide (x46.fNum = a1.fNum) && ((x46.fText.toList == a1.fText.toList) && true))))
    (app k1_0_0y1 [a1] 32 fun x47 =>
    sls a0 k1_0_0y0 (((List.map e_api_Value (a0)).length : Nat) : Int) fun x48 =>
    app x47 x48 32 fun x49 =>
    some x49)
  <| sls a0 k1_0_0y0 (((List.map e_api_Value (a0)).length : Nat) : Int) fun x50 =>
  app k1_0_0y1 x50 32 fun x51 =>
  some x51) n (0, [])
def F_tidegateref05_Split_l3 (n : Nat) (a1 : (List Int)) (a0 : (List T_api_Event)) (k1_0_0y : (List T_api_Value)) (v2_1 : Int × (List (List T_api_Event))) (k3_2_0 : (List T_api_Event) → Option ((List T_api_Value) × (List (List T_api_Event)) × Int)) : Nat → Int × (List T_api_Event) → Option ((List T_api_Value) × (List (List T_api_Event)) × Int)
  | 0, _ => none
  | mv3_2 + 1, v3_2 =>
    cnd (decide (v3_2.1 < (((List.map e_api_Event (a0)).length : Nat) : Int)))
      (idx a0 v3_2.1 fun x126 =>
      bnd (F_tidegateref05_Key n x126 a1) fun x127 =>
      cnd (x127.2.1)
        (idx k1_0_0y v2_1.1 fun x128 =>
        cnd ((decide (x127.1.fKind = x128.fKind) && (decide (x127.1.fNum = x128.fNum) && ((x127.1.fText.toList == x128.fText.toList) && true))))
          (idx a0 v3_2.1 fun x129 =>
          app v3_2.2 [x129] 56 fun x130 =>
          F_tidegateref05_Split_l3 n a1 a0 k1_0_0y v2_1 k3_2_0 mv3_2 ((IntKind.wrap .i64 (v3_2.1 + 1)), x130))
        <| F_tidegateref05_Split_l3 n a1 a0 k1_0_0y v2_1 k3_2_0 mv3_2 ((IntKind.wrap .i64 (v3_2.1 + 1)), v3_2.2))
      <| F_tidegateref05_Split_l3 n a1 a0 k1_0_0y v2_1 k3_2_0 mv3_2 ((IntKind.wrap .i64 (v3_2.1 + 1)), v3_2.2))
    <| k3_2_0 v3_2.2
def F_tidegateref05_Split_l2 (n : Nat) (a1 : (List Int)) (a0 : (List T_api_Event)) (k1_0_0y : (List T_api_Value)) (k2_1_0 : (List (List T_api_Event)) → Option ((List T_api_Value) × (List (List T_api_Event)) × Int)) : Nat → Int × (List (List T_api_Event)) → Option ((List T_api_Value) × (List (List T_api_Event)) × Int)
  | 0, _ => none
  | mv2_1 + 1, v2_1 =>
    cnd (decide (v2_1.1 < (((List.map e_api_Value (k1_0_0y)).length : Nat) : Int)))
      (F_tidegateref05_Split_l3 n a1 a0 k1_0_0y v2_1
        (fun k3_2_0y => frz 7085 <| reg <| app v2_1.2 [k3_2_0y] 24 fun x125 =>
      F_tidegateref05_Split_l2 n a1 a0 k1_0_0y k2_1_0 mv2_1 ((IntKind.wrap .i64 (v2_1.1 + 1)), x125)) n (0, []))
    <| k2_1_0 v2_1.2
def F_tidegateref05_Split_l1 (n : Nat) (a1 : (List Int)) (a0 : (List T_api_Event)) (k1_0_0 : (List T_api_Value) → Option ((List T_api_Value) × (List (List T_api_Event)) × Int)) : Nat → (List T_api_Value) × Int → Option ((List T_api_Value) × (List (List T_api_Event)) × Int)
  | 0, _ => none
  | mv1_0 + 1, v1_0 =>
    cnd (decide (v1_0.2 < (((List.map e_api_Event (a0)).length : Nat) : Int)))
      (idx a0 v1_0.2 fun x131 =>
      bnd (F_tidegateref05_Key n x131 a1) fun x132 =>
      cnd (!decide (x132.2.2 = 0))
        (some ([], [], x132.2.2))
      <| cnd (x132.2.1)
        (bnd (F_tidegateref05_keys n v1_0.1 x132.1) fun x133 =>
        F_tidegateref05_Split_l1 n a1 a0 k1_0_0 mv1_0 (x133, (IntKind.wrap .i64 (v1_0.2 + 1))))
      <| F_tidegateref05_Split_l1 n a1 a0 k1_0_0 mv1_0 (v1_0.1, (IntKind.wrap .i64 (v1_0.2 + 1))))
    <| k1_0_0 v1_0.1
def F_tidegateref05_Split (n : Nat) (a0 : (List T_api_Event)) (a1 : (List Int)) : Option ((List T_api_Value) × (List (List T_api_Event)) × Int) :=
  bnd (F_tidegateref05_Check n a0) fun x1 =>
  cnd (!decide (x1 = 0))
    (some ([], [], x1))
  <| F_tidegateref05_Split_l1 n a1 a0
    (fun k1_0_0y => F_tidegateref05_Split_l2 n a1 a0 k1_0_0y
    (fun k2_1_0y => some (k1_0_0y, k2_1_0y, 0)) n (0, [])) n ([], 0)
def F_tidegateref05_SameAll_l1 (n : Nat) (a1 : (List (List T_api_Event))) (a0 : (List (List T_api_Event))) (k1_0_0 : Option (Bool)) : Nat → Int → Option (Bool)
  | 0, _ => none
  | mv1_0 + 1, v1_0 =>
    cnd (decide (v1_0 < (((List.map (fun q => AV.sl 5 (List.map e_api_Event q)) (a0)).length : Nat) : Int)))
      (idx a0 v1_0 fun x41 =>
      idx a1 v1_0 fun x42 =>
      bnd (F_tidegateref05_Same n x41 x42) fun x43 =>
      cnd (!(x43))
        (some false)
      <| F_tidegateref05_SameAll_l1 n a1 a0 k1_0_0 mv1_0 (IntKind.wrap .i64 (v1_0 + 1)))
    <| k1_0_0
def F_tidegateref05_SameAll (n : Nat) (a0 : (List (List T_api_Event))) (a1 : (List (List T_api_Event))) : Option (Bool) :=
  cnd (!decide ((((List.map (fun q => AV.sl 5 (List.map e_api_Event q)) (a0)).length : Nat) : Int) = (((List.map (fun q => AV.sl 5 (List.map e_api_Event q)) (a1)).length : Nat) : Int)))
    (some false)
  <| F_tidegateref05_SameAll_l1 n a1 a0
    (some true) n 0
end Go.Proofs.Ytdbapaofibgfcaa
