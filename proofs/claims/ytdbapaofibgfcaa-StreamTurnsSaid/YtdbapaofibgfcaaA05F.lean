/- What some functions compute, over plain values. Printed by a program of mine (gen_fun.lean). -/
import Derived.Test.YtdbapaofibgfcaaG0
import Derived.Test.YtdbapaofibgfcaaTab
import Derived.Test.YtdbapaofibgfcaaLS
set_option linter.unusedVariables false
set_option linter.unusedSimpArgs false
set_option maxRecDepth 100000
set_option maxHeartbeats 8000000
namespace Go.Proofs.Ytdbapaofibgfcaa
open Go.RowKit
structure T_api_Value where
  fKind : Int
  fNum : Int
  fText : ByteArray
deriving DecidableEq, Inhabited
def e_api_Value (x : T_api_Value) : AV := .agg [aI (x.fKind), aI (x.fNum), .str (x.fText)]
structure T_api_Event where
  fSource : Int
  fSeq : Int
  fType : Int
  fTime : Int
  fValues : (List T_api_Value)
deriving DecidableEq, Inhabited
def e_api_Event (x : T_api_Event) : AV := .agg [aI (x.fSource), aI (x.fSeq), aI (x.fType), aI (x.fTime), .sl 3 (List.map e_api_Value (x.fValues))]
structure T_api_Ref where
  fTime : Int
  fSource : Int
  fSeq : Int
deriving DecidableEq, Inhabited
def e_api_Ref (x : T_api_Ref) : AV := .agg [aI (x.fTime), aI (x.fSource), aI (x.fSeq)]
def F_event_Ref_d (n : Nat) (a0 : T_api_Event) : Option (T_api_Ref) :=
  some (⟨a0.fTime, a0.fSource, a0.fSeq⟩)
def F_cmp_isNaN_d (n : Nat) (a0 : Int) : Option (Bool) :=
  some (!decide (a0 = a0))
def F_cmp_Compare_d (n : Nat) (a0 : Int) (a1 : Int) : Option (Int) :=
  bnd (F_cmp_isNaN_d n a0) fun x1 =>
  bnd (F_cmp_isNaN_d n a1) fun x2 =>
  cnd (x1)
    (cnd (x2)
      (some 0)
    <| some (-1))
  <| cnd (x2)
    (some 1)
  <| cnd (decide (a0 < a1))
    (some (-1))
  <| cnd (decide (a1 < a0))
    (some 1)
  <| some 0
def F_cmp_Or_d_l1 (n : Nat) (a0 : (List Int)) (k1_0_0 : Option (Int)) : Nat → Int → Option (Int)
  | 0, _ => none
  | mv1_0 + 1, v1_0 =>
    cnd (decide (v1_0 < (((List.map aI (a0)).length : Nat) : Int)))
      (idx a0 v1_0 fun x41 =>
      cnd (!decide (x41 = 0))
        (some x41)
      <| F_cmp_Or_d_l1 n a0 k1_0_0 mv1_0 (IntKind.wrap .i64 (v1_0 + 1)))
    <| k1_0_0
def F_cmp_Or_d (n : Nat) (a0 : (List Int)) : Option (Int) :=
  F_cmp_Or_d_l1 n a0
    (some 0) n 0
def F_event_Compare_d (n : Nat) (a0 : T_api_Event) (a1 : T_api_Event) : Option (Int) :=
  bnd (F_event_Ref_d n a0) fun x1 =>
  bnd (F_event_Ref_d n a1) fun x2 =>
  cnd ((decide (x1.fTime = x2.fTime) && (decide (x1.fSource = x2.fSource) && (decide (x1.fSeq = x2.fSeq) && true))))
    (some 0)
  <| bnd (F_cmp_Compare_d n a0.fTime a1.fTime) fun x3 =>
  bnd (F_cmp_Compare_d n a0.fSource a1.fSource) fun x4 =>
  bnd (F_cmp_Compare_d n a0.fSeq a1.fSeq) fun x5 =>
  bnd (F_cmp_Or_d n ([x3, x4, x5])) fun x6 =>
  some x6
def F_value_Compare_1_d (n : Nat) (a0 : T_api_Value) (a1 : T_api_Value) : Option (Int) :=
  bnd (F_cmp_Compare_d n a0.fKind a1.fKind) fun x1 =>
  some x1
def F_value_Compare_2_d (n : Nat) (a0 : T_api_Value) (a1 : T_api_Value) : Option (Int) :=
  bnd (F_cmp_Compare_d n a0.fNum a1.fNum) fun x1 =>
  some x1
def F_value_Compare_d_l1 (n : Nat) (a1 : T_api_Value) (a0 : T_api_Value) (k1_0_0 : Option (Int)) : Nat → Int → Option (Int)
  | 0, _ => none
  | mv1_0 + 1, v1_0 =>
    cnd (decide (v1_0 < 2))
      (cnd (decide (v1_0 = 0))
        (bnd (F_value_Compare_1_d n a0 a1) fun x42 =>
      cnd (!decide (x42 = 0))
        (some x42)
      <| F_value_Compare_d_l1 n a1 a0 k1_0_0 mv1_0 (IntKind.wrap .i64 (v1_0 + 1)))
      <| cnd (decide (v1_0 = 1))
        (bnd (F_value_Compare_2_d n a0 a1) fun x43 =>
      cnd (!decide (x43 = 0))
        (some x43)
      <| F_value_Compare_d_l1 n a1 a0 k1_0_0 mv1_0 (IntKind.wrap .i64 (v1_0 + 1)))
      <| none)
    <| k1_0_0
def F_value_Compare_d (n : Nat) (a0 : T_api_Value) (a1 : T_api_Value) : Option (Int) :=
  F_value_Compare_d_l1 n a1 a0
    (bnd (F_strCmp n a0.fText a1.fText) fun x41 =>
  some x41) n 0
end Go.Proofs.Ytdbapaofibgfcaa
