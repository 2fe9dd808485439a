/- What some functions compute, over plain values. Printed by a program of mine (gen_fun.lean). Arguments opened: structs (printed by gen_open.py). Chapter 47, plain: hashes, keys, key groups, items (both). Chapter 47, plain: routing (both), what is small, the examples. Chapter 47, plain: the laws Reads, Replays, Routes, Divides, Promises. Chapter 47: the contracts of five laws. -/
import Derived.Test.YtcbdhigllelmcaaGreatK09
import Derived.Test.YtcbdhigllelmcaaGreatK10
import Derived.Test.YtcbdhigllelmcaaGreatK07
import Derived.Test.YtcbdhigllelmcaaGreatK11
import Derived.Test.YtcbdhigllelmcaaGreatK12
import Derived.Test.YtcbdhigllelmcaaGreatK13
import Derived.Test.YtcbdhigllelmcaaGreatK14
import Derived.Test.YtcbdhigllelmcaaGreatK15
import Derived.Test.YtcbdhigllelmcaaGreatK16
set_option linter.unusedVariables false
set_option linter.unusedSimpArgs false
set_option maxRecDepth 100000
set_option maxHeartbeats 8000000
namespace Go.Proofs.YtcbdhigllelmcaaGreat
open Go.RowKit
def F_tidegateref01_mix (n : Nat) (a0 : Int) (a1 : Int) : Option (Int) :=
  nzx ((4294967296 : Int)) <| some (((IntKind.wrap .i64 ((IntKind.wrap .i64 (BitVec.toNat (BitVec.ofInt (IntKind.bits .i64) a0 ^^^ (BitVec.ofInt (IntKind.bits .i64) (IntKind.wrap .i64 a1))) : Int)) * 16777619))).tmod 4294967296)
def F_tidegateref01_Hash_l1 (n : Nat) (a0 : T_api_Value) (k1_0_0 : Int → Option (Int × Int)) : Nat → Int × Int → Option (Int × Int)
  | 0, _ => none
  | mv1_0 + 1, v1_0 =>
    cnd (decide (v1_0.2 < ((a0.fText.size : Nat) : Int)))
      (idb a0.fText v1_0.2 fun x44 =>
      bnd (F_tidegateref01_mix n v1_0.1 x44) fun x45 =>
      F_tidegateref01_Hash_l1 n a0 k1_0_0 mv1_0 (x45, (IntKind.wrap .i64 (v1_0.2 + 1))))
    <| k1_0_0 v1_0.1
def F_tidegateref01_Hash_l2 (n : Nat) (a0 : T_api_Value) (k2_1_0 : Int → Option (Int × Int)) : Nat → Int × Int → Option (Int × Int)
  | 0, _ => none
  | mv2_1 + 1, v2_1 =>
    cnd (decide (0 ≤ v2_1.2))
      (shx (IntKind.wrap .i64 (8 * v2_1.2)) <| bnd (F_tidegateref01_mix n v2_1.1 (IntKind.wrap .u8 (Int.fdiv a0.fNum (2 ^ min (Int.toNat (IntKind.wrap .i64 (8 * v2_1.2))) (IntKind.bits .i64))))) fun x87 =>
      F_tidegateref01_Hash_l2 n a0 k2_1_0 mv2_1 (x87, (IntKind.wrap .i64 (v2_1.2 - 1))))
    <| k2_1_0 v2_1.1
def F_tidegateref01_Hash (n : Nat) (a0 : T_api_Value) : Option (Int × Int) :=
  bnd (F_tidegateref01_Check n a0) fun x1 =>
  cnd (!decide (x1 = 0))
    (some (0, x1))
  <| bnd (F_tidegateref01_mix n 2166136261 (IntKind.wrap .u8 a0.fKind)) fun x2 =>
  cnd (decide (a0.fKind = 2))
    (F_tidegateref01_Hash_l1 n a0
      (fun k1_0_0y => some (k1_0_0y, 0)) n (x2, 0))
  <| F_tidegateref01_Hash_l2 n a0
    (fun k2_1_0y => some (k2_1_0y, 0)) n (x2, 7)
def F_tidegateref04_CheckKey_l1 (n : Nat) (a1 : (List Int)) (a0 : (List T_api_Schema)) (k1_0_0 : Option (Int)) : Nat → Int → Option (Int)
  | 0, _ => none
  | mv1_0 + 1, v1_0 =>
    cnd (decide (v1_0 < (((List.map aI (a1)).length : Nat) : Int)))
      (idx a1 v1_0 fun x41 =>
      cnd (decide (x41 < (-1)))
        (some 16)
      <| idx a1 v1_0 fun x42 =>
      idx a0 v1_0 fun x43 =>
      cnd (decide ((((List.map e_api_Field (x43.fFields)).length : Nat) : Int) ≤ x42))
        (some 16)
      <| F_tidegateref04_CheckKey_l1 n a1 a0 k1_0_0 mv1_0 (IntKind.wrap .i64 (v1_0 + 1)))
    <| k1_0_0
def F_tidegateref04_CheckKey (n : Nat) (a0 : (List T_api_Schema)) (a1 : (List Int)) : Option (Int) :=
  cnd (decide ((((List.map aI (a1)).length : Nat) : Int) = 0))
    (some 0)
  <| cnd (!decide ((((List.map aI (a1)).length : Nat) : Int) = (((List.map e_api_Schema (a0)).length : Nat) : Int)))
    (some 15)
  <| F_tidegateref04_CheckKey_l1 n a1 a0
    (some 0) n 0
def F_tidegateref04_KeyOf (n : Nat) (a0 : (List Int)) (a1 : T_api_Event) : Option (T_api_Value × Bool) :=
  cnd (decide ((((List.map aI (a0)).length : Nat) : Int) = 0))
    (some (⟨0, 0, ByteArray.empty⟩, true))
  <| idx a0 a1.fType fun x1 =>
  cnd (decide (x1 < 0))
    (some (⟨0, 0, ByteArray.empty⟩, false))
  <| idx a0 a1.fType fun x2 =>
  idx a1.fValues x2 fun x3 =>
  some (x3, true)
def F_tidegateref45_Group (n : Nat) (a0 : T_api_Value) : Option (Int × Int) :=
  bnd (F_tidegateref01_Hash n a0) fun x1 =>
  cnd (!decide (x1.2 = 0))
    (some (0, x1.2))
  <| nzx ((16 : Int)) <| some (((x1.1).tmod 16), 0)
def F_tidegateref45_Owner (n : Nat) (a0 : Int) (a1 : Int) : Option (Int) :=
  nzx ((16 : Int)) <| some (IntKind.wrap .i64 ((IntKind.wrap .i64 (a0 * a1)).tdiv 16))
def F_tidegateref46_Item (n : Nat) (a0 : T_api_Item) : Option (Int) :=
  cnd (decide (a0.fKind = 0))
    (cnd (!decide (a0.fNumber = 0))
      (some 2)
    <| some 0)
  <| cnd (decide (a0.fKind = 1))
    (cnd (decide (a0.fNumber < 0))
      (some 2)
    <| cnd (decide (1099511627776 < a0.fNumber))
      (some 2)
    <| cnd (!decide (a0.fEvent.fSource = 0))
      (some 3)
    <| cnd (!decide (a0.fEvent.fSeq = 0))
      (some 3)
    <| cnd (!decide (a0.fEvent.fType = 0))
      (some 3)
    <| cnd (!decide (a0.fEvent.fTime = 0))
      (some 3)
    <| cnd (!decide ((((List.map e_api_Value (a0.fEvent.fValues)).length : Nat) : Int) = 0))
      (some 3)
    <| some 0)
  <| cnd (decide (a0.fKind = 2))
    (cnd (decide (a0.fNumber < 1))
      (some 2)
    <| cnd (decide (1099511627776 < a0.fNumber))
      (some 2)
    <| cnd (!decide (a0.fEvent.fSource = 0))
      (some 3)
    <| cnd (!decide (a0.fEvent.fSeq = 0))
      (some 3)
    <| cnd (!decide (a0.fEvent.fType = 0))
      (some 3)
    <| cnd (!decide (a0.fEvent.fTime = 0))
      (some 3)
    <| cnd (!decide ((((List.map e_api_Value (a0.fEvent.fValues)).length : Nat) : Int) = 0))
      (some 3)
    <| some 0)
  <| some 1
def F_tidegateref47_Targets_l2 (n : Nat) (a2 : T_api_Item) (a1 : Int) (k1_0_0y : (List Bool)) (k2_1_0 : (List Int) → Option ((List Int))) : Nat → Int × (List Int) → Option ((List Int))
  | 0, _ => none
  | mv2_1 + 1, v2_1 =>
    cnd (decide (v2_1.1 < a1))
      (nat v2_1.1 (List.map AV.bool (k1_0_0y)).length fun x84 =>
      elt k1_0_0y x84 fun x85 =>
      cnd (x85)
        (app v2_1.2 [v2_1.1] 8 fun x86 =>
        F_tidegateref47_Targets_l2 n a2 a1 k1_0_0y k2_1_0 mv2_1 ((IntKind.wrap .i64 (v2_1.1 + 1)), x86))
      <| cnd (!decide (a2.fKind = 0))
        (app v2_1.2 [v2_1.1] 8 fun x87 =>
        F_tidegateref47_Targets_l2 n a2 a1 k1_0_0y k2_1_0 mv2_1 ((IntKind.wrap .i64 (v2_1.1 + 1)), x87))
      <| F_tidegateref47_Targets_l2 n a2 a1 k1_0_0y k2_1_0 mv2_1 ((IntKind.wrap .i64 (v2_1.1 + 1)), v2_1.2))
    <| k2_1_0 v2_1.2
def F_tidegateref47_Targets_l1 (n : Nat) (a2 : T_api_Item) (a1 : Int) (a0 : (List (List Int))) (k1_0_0 : (List Bool) → Option ((List Int))) : Nat → Int × (List Bool) → Option ((List Int))
  | 0, _ => none
  | mv1_0 + 1, v1_0 =>
    cnd (decide (v1_0.1 < (((List.map (fun q => AV.sl 1 (List.map aI q)) (a0)).length : Nat) : Int)))
      (cnd (!decide (a2.fKind = 0))
        (F_tidegateref47_Targets_l1 n a2 a1 a0 k1_0_0 mv1_0 ((IntKind.wrap .i64 (v1_0.1 + 1)), v1_0.2))
      <| idx a0 v1_0.1 fun x88 =>
      bnd (F_tidegateref04_KeyOf n x88 a2.fEvent) fun x89 =>
      cnd (x89.2)
        (bnd (F_tidegateref45_Group n x89.1) fun x90 =>
        bnd (F_tidegateref45_Owner n x90.1 a1) fun x91 =>
        nat x91 (List.map AV.bool (v1_0.2)).length fun x92 =>
        stx v1_0.2 x92 (fun x93 => true) fun x94 =>
        F_tidegateref47_Targets_l1 n a2 a1 a0 k1_0_0 mv1_0 ((IntKind.wrap .i64 (v1_0.1 + 1)), x94))
      <| F_tidegateref47_Targets_l1 n a2 a1 a0 k1_0_0 mv1_0 ((IntKind.wrap .i64 (v1_0.1 + 1)), v1_0.2))
    <| k1_0_0 v1_0.2
def F_tidegateref47_Targets (n : Nat) (a0 : (List (List Int))) (a1 : Int) (a2 : T_api_Item) : Option ((List Int)) :=
  mak a1 1 (false : Bool) fun x1 =>
  F_tidegateref47_Targets_l1 n a2 a1 a0
    (fun k1_0_0y => F_tidegateref47_Targets_l2 n a2 a1 k1_0_0y
    (fun k2_1_0y => some k2_1_0y) n (0, [])) n (0, x1)
def F_tidegateref47_Route_l1 (n : Nat) (a3 : T_api_Item) (a2 : Int) (a1 : (List (List Int))) (a0 : (List T_api_Schema)) (k1_0_0 : Option ((List Int) × Int)) : Nat → Int → Option ((List Int) × Int)
  | 0, _ => none
  | mv1_0 + 1, v1_0 =>
    cnd (decide (v1_0 < (((List.map (fun q => AV.sl 1 (List.map aI q)) (a1)).length : Nat) : Int)))
      (idx a1 v1_0 fun x46 =>
      bnd (F_tidegateref04_CheckKey n a0 x46) fun x47 =>
      cnd (!decide (x47 = 0))
        (some ([], x47))
      <| F_tidegateref47_Route_l1 n a3 a2 a1 a0 k1_0_0 mv1_0 (IntKind.wrap .i64 (v1_0 + 1)))
    <| k1_0_0
def F_tidegateref47_Route (n : Nat) (a0 : (List T_api_Schema)) (a1 : (List (List Int))) (a2 : Int) (a3 : T_api_Item) : Option ((List Int) × Int) :=
  bnd (F_tidegateref03_CheckAll n a0) fun x1 =>
  cnd (!decide (x1 = 0))
    (some ([], x1))
  <| cnd (decide (16 < (((List.map (fun q => AV.sl 1 (List.map aI q)) (a1)).length : Nat) : Int)))
    (some ([], 5))
  <| F_tidegateref47_Route_l1 n a3 a2 a1 a0
    (cnd (decide (a2 < 1))
    (some ([], 2))
  <| cnd (decide (8 < a2))
    (some ([], 2))
  <| bnd (F_tidegateref46_Item n a3) fun x42 =>
  cnd (!decide (x42 = 0))
    (some ([], x42))
  <| cnd (decide (a3.fKind = 0))
    (bnd (F_tidegateref04_Valid n a0 a3.fEvent) fun x43 =>
    cnd (!decide (x43 = 0))
      (some ([], x43))
    <| bnd (F_tidegateref47_Targets n a1 a2 a3) fun x44 =>
    some (x44, 0))
  <| bnd (F_tidegateref47_Targets n a1 a2 a3) fun x45 =>
  some (x45, 0)) n 0
def e_tidegatelaw47_Routing (x : T_tidegatelaw47_Routing) : AV := .agg [.sl 1 (List.map (fun q => AV.sl 1 (List.map aI q)) (x.fKeys)), aI (x.fWorkers)]
def F_tidegatelaw47_ReaderRoutes_l1 (n : Nat) (a2 : T_api_Item) (a1 : T_tidegatelaw47_Routing) (a0 : (List T_api_Schema)) (k1_0_0 : Option (Bool)) : Nat → Int → Option (Bool)
  | 0, _ => none
  | mv1_0 + 1, v1_0 =>
    cnd (decide (v1_0 < (((List.map (fun q => AV.sl 1 (List.map aI q)) (a1.fKeys)).length : Nat) : Int)))
      (idx a1.fKeys v1_0 fun x49 =>
      cnd (decide (30 < (((List.map aI (x49)).length : Nat) : Int)))
        (bnd (F_tidegatelaw47_awake n) fun x50 =>
        some x50)
      <| F_tidegatelaw47_ReaderRoutes_l1 n a2 a1 a0 k1_0_0 mv1_0 (IntKind.wrap .i64 (v1_0 + 1)))
    <| k1_0_0
def F_tidegatelaw47_ReaderRoutes (n : Nat) (a0 : (List T_api_Schema)) (a1 : T_tidegatelaw47_Routing) (a2 : T_api_Item) : Option (Bool) :=
  bnd (F_tidegateref03_Few n a0) fun x1 =>
  cnd (!(x1))
    (bnd (F_tidegatelaw47_awake n) fun x2 =>
    some x2)
  <| cnd (decide (20 < (((List.map (fun q => AV.sl 1 (List.map aI q)) (a1.fKeys)).length : Nat) : Int)))
    (bnd (F_tidegatelaw47_awake n) fun x3 =>
    some x3)
  <| cnd (decide (12 < (((List.map e_api_Value (a2.fEvent.fValues)).length : Nat) : Int)))
    (bnd (F_tidegatelaw47_awake n) fun x4 =>
    some x4)
  <| F_tidegatelaw47_ReaderRoutes_l1 n a2 a1 a0
    (bnd (F_reader_Route n a0 a1.fKeys a1.fWorkers a2) fun x45 =>
  bnd (F_tidegateref47_Route n a0 a1.fKeys a1.fWorkers a2) fun x46 =>
  bnd (F_tidegatelaw47_awake n) fun x47 =>
  cnd (x47)
    (bnd (F_tidegateref34_SameInts n x45.1 x46.1) fun x48 =>
    cnd (x48)
      (some (decide (x45.2 = x46.2)))
    <| some false)
  <| some false) n 0
end Go.Proofs.YtcbdhigllelmcaaGreat
namespace Go.Proofs.YtcbdhigllelmcaaGreat
open Go.ChangeShapes Go.WideShapes Go.ChangeAt Go.RowKit Go.Joins Go.Deep

section
variable {H : Type} {enc : TypeId × Value → H} {W : World} {base : Nat} {v : Value} {d : DataW H} {p : List MemPlace}
set_option maxRecDepth 100000
theorem fo_Item : FO enc W 53 7 (fun m : T_api_Item => (e_api_Item m).cells) := fun n cs x hl h => by
  obtain ⟨xs, n', _, _, _, hlen, hf⟩ := DataW.trod_struct Tryz.underlying53 h
  match xs, hlen with
  | [y0, y1, y2], _ =>
    have c0 : Tryz.prog.cellsOf 3 = 1 := by kernel_rfl
    have g0 : DataW.trod enc Tryz.prog W 0 (fun _ => true) true n' 3 ((cs.drop 0).take (Tryz.prog.cellsOf 3)) = some y0 := hf 0 _ rfl
    rw [c0] at g0
    obtain ⟨m0, h0⟩ := (fo_int Tryz.underlying3) n' _ _ (cut_len (by omega)) g0
    have c1 : Tryz.prog.cellsOf 51 = 5 := by kernel_rfl
    have g1 : DataW.trod enc Tryz.prog W 0 (fun _ => true) true n' 51 ((cs.drop 1).take (Tryz.prog.cellsOf 51)) = some y1 := hf 1 _ rfl
    rw [c1] at g1
    obtain ⟨m1, h1⟩ := (fo_Event) n' _ _ (cut_len (by omega)) g1
    have c2 : Tryz.prog.cellsOf 3 = 1 := by kernel_rfl
    have g2 : DataW.trod enc Tryz.prog W 0 (fun _ => true) true n' 3 ((cs.drop 6).take (Tryz.prog.cellsOf 3)) = some y2 := hf 2 _ rfl
    rw [c2] at g2
    obtain ⟨m2, h2⟩ := (fo_int Tryz.underlying3) n' _ _ (cut_len (by omega)) g2
    have r := (show CellsL W _ (cs.drop 0) from (.cut h0 (.cut h1 (.cut h2 (CellsL.done (by omega))))))
    exact ⟨⟨m0, m1, m2⟩, r⟩
theorem Item_arg (hv : Value.okWide Tryz.prog W .any base 53 v) (h : DataW.Trod enc Tryz.prog W 0 (fun _ => true) true 53 v d p) : ∃ m : T_api_Item, Rep W (fun _ => True) G0 (e_api_Item m) v :=
  arg_struct Tryz.underlying53 (by kernel_rfl) (fun _ => ⟨_, rfl⟩) fo_Item hv h
theorem fo_tidegatelaw47_Routing : FO enc W 48 2 (fun m : T_tidegatelaw47_Routing => (e_tidegatelaw47_Routing m).cells) := fun n cs x hl h => by
  obtain ⟨xs, n', _, _, _, hlen, hf⟩ := DataW.trod_struct Tryz.underlying48 h
  match xs, hlen with
  | [y0, y1], _ =>
    have c0 : Tryz.prog.cellsOf 46 = 1 := by kernel_rfl
    have g0 : DataW.trod enc Tryz.prog W 0 (fun _ => true) true n' 46 ((cs.drop 0).take (Tryz.prog.cellsOf 46)) = some y0 := hf 0 _ rfl
    rw [c0] at g0
    obtain ⟨m0, h0⟩ := (fo_sl (sz := 1) (a := (fun l : List Int => AV.sl 1 (l.map aI))) Tryz.underlying46 (by kernel_rfl) (by omega) inferInstance (fun _ => rfl) (fo_sl (sz := 1) (a := aI) Tryz.underlying23 (by kernel_rfl) (by omega) inferInstance (fun _ => rfl) (fo_int Tryz.underlying3))) n' _ _ (cut_len (by omega)) g0
    have c1 : Tryz.prog.cellsOf 3 = 1 := by kernel_rfl
    have g1 : DataW.trod enc Tryz.prog W 0 (fun _ => true) true n' 3 ((cs.drop 1).take (Tryz.prog.cellsOf 3)) = some y1 := hf 1 _ rfl
    rw [c1] at g1
    obtain ⟨m1, h1⟩ := (fo_int Tryz.underlying3) n' _ _ (cut_len (by omega)) g1
    have r := (show CellsL W _ (cs.drop 0) from (.cut h0 (.cut h1 (CellsL.done (by omega)))))
    exact ⟨⟨m0, m1⟩, r⟩
theorem tidegatelaw47_Routing_arg (hv : Value.okWide Tryz.prog W .any base 48 v) (h : DataW.Trod enc Tryz.prog W 0 (fun _ => true) true 48 v d p) : ∃ m : T_tidegatelaw47_Routing, Rep W (fun _ => True) G0 (e_tidegatelaw47_Routing m) v :=
  arg_struct Tryz.underlying48 (by kernel_rfl) (fun _ => ⟨_, rfl⟩) fo_tidegatelaw47_Routing hv h
end
end Go.Proofs.YtcbdhigllelmcaaGreat
namespace Go.Proofs.YtcbdhigllelmcaaGreat
open Go.RowKit

theorem mix64 (n : Nat) (h c : Int) (h0 : 0 ≤ h ∧ h < 4294967296) (h1 : 0 ≤ c ∧ c ≤ 255) : F_tidegateref01_mix n h c = some (mixI h c) := by
  unfold F_tidegateref01_mix
  rw [nzx_ok (by decide)]
  obtain ⟨a, rfl⟩ : ∃ a : Nat, h = (a : Int) := ⟨h.toNat, by omega⟩
  obtain ⟨b, rfl⟩ : ∃ b : Nat, c = (b : Int) := ⟨c.toNat, by omega⟩
  rw [wrap_in ((b : Nat) : Int) (by omega), ofInt_nat, ofInt_nat, BitVec.toNat_xor, BitVec.toNat_ofNat, BitVec.toNat_ofNat]
  rw [Nat.mod_eq_of_lt (show a < 2 ^ IntKind.bits .i64 by simp only [IntKind.bits]; omega), Nat.mod_eq_of_lt (show b < 2 ^ IntKind.bits .i64 by simp only [IntKind.bits]; omega)]
  have hx := xor_lt (n := 32) (show a < 2 ^ 32 by omega) (show b < 2 ^ 32 by omega)
  rw [wrap_in (((a ^^^ b : Nat)) : Int) (by omega), wrap_in ((((a ^^^ b : Nat)) : Int) * 16777619) (by omega), Int.tmod_eq_emod_of_nonneg (by omega)]
  unfold mixI mixN
  simp only [Int.toNat_natCast]
  congr 1
theorem hashB_cons (h c : Int) (l : List Int) : hashB h (c :: l) = hashB (mixI h c) l := rfl
theorem p_rhash_l1 (n : Nat) (v : Vl) (hl : v.fText.size ≤ 1000000) (K : Int → Option (Int × Int)) : ∀ (m k : Nat) (h : Int), k ≤ v.fText.size → v.fText.size < m + k → 0 ≤ h ∧ h < 4294967296 → F_tidegateref01_Hash_l1 n v K m (h, (k : Int)) = K (hashB h ((bytesI v.fText).drop k))
  | 0, k, h, h1, h2, h0 => by omega
  | m + 1, k, h, h1, h2, h0 => by
    unfold F_tidegateref01_Hash_l1
    have hz := bytesI_len v.fText
    simp only [cnd_if, idb_idx]
    by_cases h3 : k < v.fText.size
    · have h4 : k < (bytesI v.fText).length := by omega
      rw [if_pos (by omega), idx_nat h4, mix64 n h _ h0 (bytesI_b _ _ (List.getElem_mem h4)), bnd_some, wrapS k (by omega), p_rhash_l1 n v hl K m (k + 1) _ (by omega) (by omega) (mixI_nn _ _), dropK_cons h4]
      rfl
    · rw [if_neg (by omega), List.drop_eq_nil_of_le (by omega)]; rfl
theorem p_rhash_l2 (n : Nat) (v : Vl) (K : Int → Option (Int × Int)) : ∀ (k m : Nat) (h : Int), k < m → k ≤ 8 → 0 ≤ h ∧ h < 4294967296 → F_tidegateref01_Hash_l2 n v K m (h, (k : Int) - 1) = K (hashB h (shB v.fNum k))
  | 0, m + 1, h, h1, h2, h0 => by
    unfold F_tidegateref01_Hash_l2
    simp only [cnd_if]
    rw [if_neg (by omega)]; rfl
  | k + 1, m + 1, h, h1, h2, h0 => by
    unfold F_tidegateref01_Hash_l2
    simp only [cnd_if]
    have e : ((k + 1 : Nat) : Int) - 1 = (k : Int) := by omega
    have e2 : min (Int.toNat (8 * (k : Int))) (IntKind.bits .i64) = 8 * k := by simp only [IntKind.bits]; omega
    rw [e, if_pos (by omega), wrap_in (8 * (k : Int)) (by omega), shx_ok (by omega), e2, mix64 n h _ h0 (by rw [w8]; omega), bnd_some, wrap_in _ (by omega), p_rhash_l2 n v K k m _ (by omega) (by omega) (mixI_nn _ _), shB]
    rfl
theorem p_rhash (n : Nat) (v : Vl) (hn : 100 ≤ n) : F_tidegateref01_Hash n v = some (hashE v) := by
  unfold F_tidegateref01_Hash hashE
  rw [p_rval, bnd_some]
  simp only [cnd_not, cnd_if]
  by_cases h : valErr v = 0
  · rw [if_pos h, if_nne h, mix64 n _ _ (by decide) (by rw [w8]; omega), bnd_some]
    have hm := mixI_nn 2166136261 (IntKind.wrap .u8 v.fKind)
    by_cases h2 : v.fKind = 2
    · have ht := valErr_text h h2
      rw [if_pos h2]
      have := p_rhash_l1 n v (by omega) (fun y => some (y, 0)) n 0 (mixI 2166136261 (IntKind.wrap .u8 v.fKind)) (by omega) (by omega) hm
      simp only [Int.natCast_zero, List.drop_zero] at this
      rw [this]
      unfold hashV bytesV
      rw [if_pos h2, hashB_cons]
    · rw [if_neg h2]
      have := p_rhash_l2 n v (fun y => some (y, 0)) 8 n (mixI 2166136261 (IntKind.wrap .u8 v.fKind)) (by omega) (by omega) hm
      unfold hashV bytesV
      rw [if_neg h2, hashB_cons]
      exact this
  · rw [if_neg h, if_pos h]

theorem p_rgroup (n : Nat) (v : Vl) (hn : 100 ≤ n) : F_tidegateref45_Group n v = some (if valErr v ≠ 0 then (0, valErr v) else (grpV v, 0)) := by
  unfold F_tidegateref45_Group
  rw [p_rhash n v hn, bnd_some]
  simp only [cnd_not, cnd_if]
  unfold hashE
  by_cases h : valErr v = 0
  · rw [if_nne h, if_pos rfl, nzx_ok (by decide), if_nne h]
    have := hashV_nn v
    rw [Int.tmod_eq_emod_of_nonneg this.1, grpV]
  · rw [if_pos h, if_neg h, if_pos h]
theorem ownr_b {g w : Int} (hg : 0 ≤ g ∧ g ≤ 15) (hw : 1 ≤ w ∧ w ≤ 8) : 0 ≤ ownr g w ∧ ownr g w < w := by
  have := mul_b hg hw
  unfold ownr
  omega
theorem p_rowner (n : Nat) (g w : Int) (hg : 0 ≤ g ∧ g ≤ 15) (hw : 1 ≤ w ∧ w ≤ 8) : F_tidegateref45_Owner n g w = some (ownr g w) := by
  unfold F_tidegateref45_Owner
  rw [nzx_ok (by decide), own_eq hg hw]
theorem p_rcheckKey_l1 (n : Nat) (l : List Sch) (key : List Int) (hl : key.length = l.length) (hk : key.length ≤ 1000000) (K : Option Int) : ∀ (m k : Nat), k ≤ key.length → key.length < m + k →
    F_tidegateref04_CheckKey_l1 n key l K m (k : Int) = if keysErr (key.drop k) (l.drop k) = 0 then K else some (keysErr (key.drop k) (l.drop k))
  | 0, k, h1, h2 => by omega
  | m + 1, k, h1, h2 => by
    unfold F_tidegateref04_CheckKey_l1
    simp only [List.length_map, cnd_if]
    by_cases h : k < key.length
    · have h' : k < l.length := by omega
      rw [if_pos (by omega), idx_nat h, idx_nat h, idx_nat h', dropK_cons h, dropK_cons h', keysErr, wrapS k (by omega), p_rcheckKey_l1 n l key hl hk K m (k + 1) (by omega) (by omega)]
      by_cases h3 : key[k] < -1
      · rw [if_pos h3, if_pos (Or.inl h3)]; rfl
      · rw [if_neg h3]
        by_cases h4 : (l[k].fFields.length : Int) ≤ key[k]
        · rw [if_pos h4, if_pos (Or.inr h4)]; rfl
        · rw [if_neg h4, if_neg (show ¬ (key[k] < -1 ∨ (l[k].fFields.length : Int) ≤ key[k]) by omega)]
    · rw [if_neg (by omega), List.drop_eq_nil_of_le (by omega)]; rfl
theorem p_rcheckKey (n : Nat) (l : List Sch) (key : List Int) (hk : key.length ≤ 1000000) (hn : key.length < n) : F_tidegateref04_CheckKey n l key = some (keyErr l key) := by
  unfold F_tidegateref04_CheckKey keyErr
  simp only [List.length_map, cnd_not, cnd_if]
  by_cases h : key.length = 0
  · rw [if_pos (by omega), if_pos h]
  · rw [if_neg (by omega), if_neg h]
    by_cases h2 : key.length = l.length
    · rw [if_pos (by omega), if_nne h2]
      have := p_rcheckKey_l1 n l key h2 hk (some 0) n 0 (by omega) (by omega)
      simp only [Int.natCast_zero, List.drop_zero] at this
      rw [this]
      split <;> simp_all
    · rw [if_neg (by omega), if_pos h2]
theorem p_rkeyOf (n : Nat) (l : List Sch) (key : List Int) (e : Ev47) (he : evErr l e = 0) (hk : keyErr l key = 0) : F_tidegateref04_KeyOf n key e = some (keyOf key e) := by
  unfold F_tidegateref04_KeyOf keyOf
  simp only [List.length_map, cnd_if]
  by_cases h0 : key.length = 0
  · rw [if_pos (by omega), if_pos h0]; rfl
  · rw [if_neg (by omega), if_neg h0]
    obtain ⟨k, k1, k2, k3⟩ := key_at he hk h0
    rw [k1, k1, k2]
    by_cases h4 : 0 ≤ k
    · obtain ⟨v, v1, v2, _⟩ := k3 h4
      rw [if_neg (by omega), if_neg (by omega), v1, v2]
    · rw [if_pos (by omega), if_pos (by omega)]; rfl
theorem p_ritem (n : Nat) (x : It) : F_tidegateref46_Item n x = some (itmErr x) := by
  unfold F_tidegateref46_Item itmErr
  simp only [cnd_if, cnd_not, List.length_map]
  have key : ∀ (e : Ev47), (if e.fSource = 0 then (if e.fSeq = 0 then (if e.fType = 0 then (if e.fTime = 0 then (if ((e.fValues.length : Nat) : Int) = 0 then some (0 : Int) else some 3) else some 3) else some 3) else some 3) else some 3) = if emptyB e = false then some 3 else some 0 := fun e => by
    have hd : ∀ {p : Prop} [Decidable p], (decide p = false) ↔ ¬ p := fun {p} _ => decide_eq_false_iff_not
    unfold emptyB
    simp only [hd]
    (repeat' split) <;> first | rfl | (exfalso; omega)
  by_cases h0 : x.fKind = 0
  · rw [if_pos h0, if_pos h0]
    by_cases h1 : x.fNumber = 0
    · rw [if_pos h1, if_nne h1]
    · rw [if_neg h1, if_pos h1]
  · rw [if_neg h0, if_neg h0, key]
    by_cases h1 : x.fKind = 1
    · rw [if_pos h1, if_pos (Or.inl h1), h1]
      (repeat' split) <;> first | rfl | (exfalso; omega) | (exfalso; simp_all; done)
    · rw [if_neg h1]
      by_cases h2 : x.fKind = 2
      · rw [if_pos h2, if_pos (Or.inr h2), h2]
        (repeat' split) <;> first | rfl | (exfalso; omega) | (exfalso; simp_all; done)
      · rw [if_neg h2, if_neg (show ¬ (x.fKind = 1 ∨ x.fKind = 2) by omega)]
end Go.Proofs.YtcbdhigllelmcaaGreat
namespace Go.Proofs.YtcbdhigllelmcaaGreat
open Go.RowKit

theorem rngI_len (k j : Nat) : (rngI k j).length = j := by simp [rngI]
theorem p_tgt_l1z (n : Nat) (x : It) (w : Int) (keys : List (List Int)) (hl : keys.length ≤ 1000) (h0 : x.fKind ≠ 0) (K : List Bool → Option (List Int)) (bs : List Bool) : ∀ (f k : Nat), k ≤ keys.length → keys.length < f + k → F_tidegateref47_Targets_l1 n x w keys K f ((k : Int), bs) = K bs
  | 0, k, h1, h2 => by omega
  | f + 1, k, h1, h2 => by
    unfold F_tidegateref47_Targets_l1
    simp only [List.length_map, cnd_if, cnd_not]
    by_cases h : k < keys.length
    · rw [if_pos (by omega), if_neg h0, wrapS k (by omega), p_tgt_l1z n x w keys hl h0 K bs f (k + 1) (by omega) (by omega)]
    · rw [if_neg (by omega)]
def bitsI (w : Nat) (p : List Int) : List Bool := (rngI 0 w).map fun i => decide (i ∈ p)
theorem bitsI_len (w : Nat) (p : List Int) : (bitsI w p).length = w := by simp [bitsI, rngI_len]
theorem bitsI_get {w : Nat} {p : List Int} {i : Nat} (h : i < (bitsI w p).length) : (bitsI w p)[i] = decide ((i : Int) ∈ p) := by
  simp [bitsI, rngI]
theorem bitsI_set (w : Nat) (p : List Int) (i : Nat) (h : i < w) : (bitsI w p).set i true = bitsI w (p ++ [(i : Int)]) := by
  apply List.ext_getElem
  · simp [bitsI_len]
  · intro j h1 h2
    rw [List.getElem_set, bitsI_get, bitsI_get]
    by_cases e : i = j
    · subst e; simp
    · rw [if_neg e]
      have : ¬ (j : Int) = (i : Int) := by omega
      simp [this]
theorem p_tgt_l1 (n : Nat) (x : It) (w : Nat) (keys : List (List Int)) (l : List Sch) (hw : 1 ≤ (w : Int) ∧ (w : Int) ≤ 8) (hl : keys.length ≤ 1000) (h0 : x.fKind = 0) (he : evErr l x.fEvent = 0) (hk : ∀ key ∈ keys, keyErr l key = 0) (hn : 2000 ≤ n)
    (K : List Bool → Option (List Int)) : ∀ (f k : Nat) (p : List Int), k ≤ keys.length → keys.length < f + k → F_tidegateref47_Targets_l1 n x (w : Int) keys K f ((k : Int), bitsI w p) = K (bitsI w (p ++ hitsK (keys.drop k) x.fEvent w))
  | 0, k, p, h1, h2 => by omega
  | f + 1, k, p, h1, h2 => by
    unfold F_tidegateref47_Targets_l1
    simp only [List.length_map, cnd_if, cnd_not]
    by_cases h : k < keys.length
    · have hkk := hk _ (List.getElem_mem h)
      have hok := keyOf_ok he hkk
      rw [if_pos (by omega), if_pos h0, idx_nat h, p_rkeyOf n l keys[k] x.fEvent he hkk, bnd_some, dropK_cons h, wrapS k (by omega)]
      have eh : hitsK (keys[k] :: keys.drop (k + 1)) x.fEvent w = (if (keyOf keys[k] x.fEvent).2 = true then [ownr (grpV (keyOf keys[k] x.fEvent).1) w] else []) ++ hitsK (keys.drop (k + 1)) x.fEvent w := by
        unfold hitsK
        rw [List.filterMap_cons]
        split <;> rename_i h5 <;> split at h5 <;> simp_all
      rw [eh]
      cases h4 : (keyOf keys[k] x.fEvent).2 with
      | true =>
        rw [cnd_t, if_pos rfl, p_rgroup n _ (by omega), bnd_some, if_nne hok, p_rowner n _ (w : Int) (grpV_b _) hw, bnd_some]
        have ho := ownr_b (grpV_b (keyOf keys[k] x.fEvent).1) hw
        obtain ⟨i, hi⟩ : ∃ i : Nat, ownr (grpV (keyOf keys[k] x.fEvent).1) w = (i : Int) := ⟨(ownr (grpV (keyOf keys[k] x.fEvent).1) w).toNat, by omega⟩
        rw [hi] at ho ⊢
        rw [nat_nat (by rw [bitsI_len]; omega), stx_ok (by rw [bitsI_len]; omega), bitsI_set w p i (by omega), p_tgt_l1 n x w keys l hw hl h0 he hk hn K f (k + 1) _ (by omega) (by omega), List.append_assoc]
      | false =>
        rw [cnd_f, p_tgt_l1 n x w keys l hw hl h0 he hk hn K f (k + 1) _ (by omega) (by omega)]
        simp
    · rw [if_neg (by omega), List.drop_eq_nil_of_le (by omega)]; simp [hitsK]
theorem p_tgt_l2 (n : Nat) (x : It) (w : Nat) (p : List Int) (hw : w ≤ 1000) (K : List Int → Option (List Int)) : ∀ (f k : Nat) (acc : List Int), k ≤ w → w < f + k → acc.length ≤ k →
    F_tidegateref47_Targets_l2 n x (w : Int) (bitsI w p) K f ((k : Int), acc) = K (acc ++ (rngI k (w - k)).filter (fun i => decide (i ∈ p) || !decide (x.fKind = 0)))
  | 0, k, acc, h1, h2, h3 => by omega
  | f + 1, k, acc, h1, h2, h3 => by
    unfold F_tidegateref47_Targets_l2
    simp only [List.length_map, cnd_if, cnd_not]
    by_cases h : k < w
    · have hb : k < (bitsI w p).length := by rw [bitsI_len]; exact h
      rw [if_pos (by omega), nat_nat hb, elt_ok hb, bitsI_get, app_ok (by simp; omega) (by omega), wrapS k (by omega), show w - k = (w - (k + 1)) + 1 by omega, rngI_cons, List.filter_cons, p_tgt_l2 n x w p hw K f (k + 1) _ (by omega) (by omega) (by simp; omega), p_tgt_l2 n x w p hw K f (k + 1) _ (by omega) (by omega) (by omega)]
      by_cases h4 : (k : Int) ∈ p
      · rw [decide_eq_true h4, cnd_t, Bool.true_or, if_pos rfl, List.append_assoc]; rfl
      · rw [decide_eq_false h4, cnd_f, Bool.false_or]
        by_cases h5 : x.fKind = 0
        · rw [if_pos h5, decide_eq_true h5, if_neg (by decide)]
        · rw [if_neg h5, decide_eq_false h5, Bool.not_false, if_pos rfl, List.append_assoc]; rfl
    · rw [if_neg (by omega), show w - k = 0 by omega]; simp [rngI]
theorem p_tgt (n : Nat) (x : It) (w : Int) (keys : List (List Int)) (l : List Sch) (hw : 1 ≤ w ∧ w ≤ 8) (hl : keys.length ≤ 1000) (he : x.fKind = 0 → evErr l x.fEvent = 0) (hk : ∀ key ∈ keys, keyErr l key = 0) (hn : 2000 ≤ n) : F_tidegateref47_Targets n keys w x = some (tgt keys w x) := by
  unfold F_tidegateref47_Targets tgt
  obtain ⟨j, rfl⟩ : ∃ j : Nat, w = (j : Int) := ⟨w.toNat, by omega⟩
  rw [mak_ok (by omega) (by omega), Int.toNat_natCast]
  have e1 : (List.replicate j (false : Bool)) = bitsI j [] := by
    apply List.ext_getElem
    · simp [bitsI_len]
    · intro i h1 h2
      rw [bitsI_get]; simp
  rw [e1]
  by_cases h0 : x.fKind = 0
  · have := p_tgt_l1 n x j keys l hw hl h0 (he h0) hk hn (fun y => F_tidegateref47_Targets_l2 n x (j : Int) y (fun z => some z) n (0, [])) n 0 [] (by omega) (by omega)
    simp only [Int.natCast_zero, List.drop_zero, List.nil_append] at this
    rw [this]
    have g := p_tgt_l2 n x j (hitsK keys x.fEvent (j : Int)) (by omega) (fun z => some z) n 0 [] (by omega) (by omega) (by simp)
    simp only [Int.natCast_zero, List.nil_append, Nat.sub_zero] at g
    rw [g, if_pos h0]
    simp [h0]
  · have := p_tgt_l1z n x (j : Int) keys hl h0 (fun y => F_tidegateref47_Targets_l2 n x (j : Int) y (fun z => some z) n (0, [])) (bitsI j []) n 0 (by omega) (by omega)
    simp only [Int.natCast_zero] at this
    rw [this]
    have g := p_tgt_l2 n x j [] (by omega) (fun z => some z) n 0 [] (by omega) (by omega) (by simp)
    simp only [Int.natCast_zero, List.nil_append, Nat.sub_zero] at g
    rw [g, if_neg h0]
    simp [h0]
theorem p_rroute_l1 (n : Nat) (x : It) (w : Int) (keys : List (List Int)) (l : List Sch) (hl : keys.length ≤ 1000) (hkl : ∀ key ∈ keys, key.length ≤ 1000) (hn : 2000 ≤ n) (K : Option (List Int × Int)) : ∀ (f k : Nat), k ≤ keys.length → keys.length < f + k →
    F_tidegateref47_Route_l1 n x w keys l K f (k : Int) = if keysAll l (keys.drop k) = 0 then K else some ([], keysAll l (keys.drop k))
  | 0, k, h1, h2 => by omega
  | f + 1, k, h1, h2 => by
    unfold F_tidegateref47_Route_l1
    simp only [List.length_map, cnd_if, cnd_not]
    by_cases h : k < keys.length
    · have := hkl _ (List.getElem_mem h)
      rw [if_pos (by omega), idx_nat h, p_rcheckKey n l _ (by omega) (by omega), bnd_some, wrapS k (by omega), p_rroute_l1 n x w keys l hl hkl hn K f (k + 1) (by omega) (by omega), dropK_cons h, keysAll]
      by_cases h3 : keyErr l keys[k] = 0
      · rw [if_pos h3, if_pos h3]
      · rw [if_neg h3, if_neg h3, if_neg h3]
    · rw [if_neg (by omega), List.drop_eq_nil_of_le (by omega)]; rfl
theorem p_rRoute (n : Nat) (l : List Sch) (keys : List (List Int)) (w : Int) (x : It) (hl : keys.length ≤ 1000) (hkl : ∀ key ∈ keys, key.length ≤ 1000) (hv : x.fEvent.fValues.length ≤ 12) (hn : 2000 ≤ n) : F_tidegateref47_Route n l keys w x = some (routeS l keys w x) := by
  unfold F_tidegateref47_Route routeS
  simp only [List.length_map, cnd_if, cnd_not]
  rw [p_rall n l (by omega), bnd_some]
  by_cases h1 : allErr l = 0
  · rw [if_pos h1, if_nne h1]
    by_cases h2 : 16 < keys.length
    · rw [if_pos (by omega), if_pos h2]
    · rw [if_neg (by omega), if_neg h2]
      have := p_rroute_l1 n x w keys l hl hkl hn (if w < 1 then some ([], 2) else if 8 < w then some ([], 2) else bnd (F_tidegateref46_Item n x) fun x42 => if x42 = 0 then (if x.fKind = 0 then bnd (F_tidegateref04_Valid n l x.fEvent) fun x43 => if x43 = 0 then bnd (F_tidegateref47_Targets n keys w x) fun x44 => some (x44, 0) else some ([], x43) else
        bnd (F_tidegateref47_Targets n keys w x) fun x45 => some (x45, 0)) else some ([], x42)) n 0 (by omega) (by omega)
      simp only [Int.natCast_zero, List.drop_zero] at this
      rw [this]
      by_cases h3 : keysAll l keys = 0
      · rw [if_pos h3, if_nne h3]
        by_cases h4 : w < 1 ∨ 8 < w
        · rw [if_pos h4]
          split
          · rfl
          · rw [if_pos (by omega)]
        · rw [if_neg h4, if_neg (show ¬ w < 1 by omega), if_neg (show ¬ 8 < w by omega), p_ritem n x, bnd_some]
          by_cases h5 : itmErr x = 0
          · rw [if_pos h5, if_nne h5]
            by_cases h6 : x.fKind = 0
            · rw [if_pos h6, p_rvalidE n l x.fEvent (by omega) (by omega), bnd_some]
              by_cases h7 : evErr l x.fEvent = 0
              · rw [if_pos h7, if_neg (fun e => e.2 h7), p_tgt n x w keys l (by omega) hl (fun _ => h7) (keysAll_zero h3) hn, bnd_some]
              · rw [if_neg h7, if_pos ⟨h6, h7⟩]
            · rw [if_neg h6, if_neg (fun e => h6 e.1), p_tgt n x w keys l (by omega) hl (fun e => absurd e h6) (keysAll_zero h3) hn, bnd_some]
          · rw [if_neg h5, if_pos h5]
      · rw [if_neg h3, if_pos h3]
  · rw [if_neg h1, if_pos h1]

end Go.Proofs.YtcbdhigllelmcaaGreat
namespace Go.Proofs.YtcbdhigllelmcaaGreat
open Go.RowKit

theorem p_routes_l1 (n : Nat) (x : It) (rt : T_tidegatelaw47_Routing) (l : List Sch) (hl : rt.fKeys.length ≤ 1000) (hn : 10000 ≤ n) (K : Option Bool) (hK : (∀ key ∈ rt.fKeys, key.length ≤ 30) → K = some true) : ∀ (f k : Nat), k ≤ rt.fKeys.length → rt.fKeys.length < f + k → (∀ key ∈ rt.fKeys.take k, key.length ≤ 30) →
    F_tidegatelaw47_ReaderRoutes_l1 n x rt l K f (k : Int) = some true
  | 0, k, h1, h2, h3 => by omega
  | f + 1, k, h1, h2, h3 => by
    unfold F_tidegatelaw47_ReaderRoutes_l1
    simp only [List.length_map, cnd_if]
    by_cases h : k < rt.fKeys.length
    · rw [if_pos (by omega), idx_nat h]
      by_cases h4 : 30 < rt.fKeys[k].length
      · rw [if_pos (by omega), awake47 _ hn, bnd_some]
      · rw [if_neg (by omega), wrapS k (by omega)]
        refine p_routes_l1 n x rt l hl hn K hK f (k + 1) (by omega) (by omega) (fun key hkey => ?_)
        rw [takeK h] at hkey
        rcases List.mem_append.1 hkey with hkey | hkey
        · exact h3 key hkey
        · rw [List.mem_singleton.1 hkey]; omega
    · rw [if_neg (by omega)]
      rw [List.take_of_length_le (by omega)] at h3
      exact hK h3
theorem tgt_len (keys : List (List Int)) (w : Int) (x : It) : (tgt keys w x).length ≤ w.toNat := by
  unfold tgt
  split
  · have := List.length_filter_le (fun i => decide (i ∈ hitsK keys x.fEvent w)) (rngI 0 w.toNat)
    rw [rngI_len] at this
    exact this
  · rw [rngI_len]; exact Nat.le_refl _
theorem routeS_len (l : List Sch) (keys : List (List Int)) (w : Int) (x : It) : (routeS l keys w x).1.length ≤ 8 := by
  unfold routeS
  split
  · simp
  · split
    · simp
    · split
      · simp
      · split
        · simp
        · split
          · simp
          · split
            · simp
            · have := tgt_len keys w x
              simp only
              omega
theorem law_routes47 (l : List Sch) (rt : T_tidegatelaw47_Routing) (x : It) (hl : l.length ≤ 9223372036854775807) (n : Nat) (hn : 100000 + l.length ≤ n) : F_tidegatelaw47_ReaderRoutes n l rt x = some true := by
  unfold F_tidegatelaw47_ReaderRoutes
  obtain ⟨c, c1, c2⟩ := p_few03 n l hl (by omega)
  have aw := awake47 n (by omega)
  rw [c1, bnd_some]
  cases c with
  | false => simp only [cnd_not, cnd_f, aw, bnd_some]
  | true =>
    simp only [cnd_not, cnd_t, cnd_if, List.length_map, aw, bnd_some]
    by_cases h1 : 20 < rt.fKeys.length
    · rw [if_pos (by omega)]
    · rw [if_neg (by omega)]
      by_cases h2 : 12 < x.fEvent.fValues.length
      · rw [if_pos (by omega)]
      · rw [if_neg (by omega)]
        refine p_routes_l1 _ x rt l (by omega) (by omega) _ (fun hk => ?_) n 0 (by omega) (by omega) (by simp)
        rw [p_Route _ l rt.fKeys rt.fWorkers x (by omega) (fun key hkey => by have := hk key hkey; omega) (by omega) (by omega), p_rRoute _ l rt.fKeys rt.fWorkers x (by omega) (fun key hkey => by have := hk key hkey; omega) (by omega) (by omega)]
        have := routeS_len l rt.fKeys rt.fWorkers x
        simp only [bnd_some]
        rw [p_sameI _ _ _ (by omega) (by omega)]
        simp only [decide_true, bnd_some, cnd_t]

end Go.Proofs.YtcbdhigllelmcaaGreat
namespace Go.Proofs.YtcbdhigllelmcaaGreat
open Go.RowKit
def R_tidegateref01_mix (r : Int) : AV := aI (r)
theorem con_tidegateref01_mix {n : Nat} {a0 : Int} {a1 : Int} {r : Int} (hF : F_tidegateref01_mix n a0 a1 = some r) : Con E0 true 108 [aI (a0), .int .u8 (a1)] (R_tidegateref01_mix r) := by
  unfold F_tidegateref01_mix at hF
  refine Con.walk _ Tryz.func108 rfl (enters_of Tryz.func108 rfl rfl) rfl (Or.inr rfl) ?_
  repeat' first
    | (refine AW.step ?_; conv => whnf)
    | (refine CondX.o hF (fun hF => ?_) (fun hF => ?_))
    | (refine CondX.t ?_)
    | (refine CondX.f ?_)
    | (refine NzX.o hF (fun hF => ?_))
    | (refine And.intro ⟨by kernel_rfl, by kernel_rfl⟩ ?_)
    | (refine EqX.mk (by first | rfl | kernel_rfl) ?_)
    | (exact RetX.o hF (by repeat' first | exact Sub.nil _ | exact Sub.refl _ | refine Sub.agg ?_ | refine Sub.tup ?_ | refine Sub.fn ?_ | exact SubL.nil | refine SubL.cons ?_ ?_ | refine Sub.sl _ ?_ | exact SubE.nil | refine SubE.cons ?_ ?_))

def S_tidegateref01_Hash_l1 (a0 : T_api_Value) (v1_0 : Int × Int) : AS := ⟨[(1, .ptr 1 0), (5, aI (v1_0.1)), (6, aI (v1_0.2))], [(1, .box 97 [aI (a0.fKind), aI (a0.fNum), .str (a0.fText)])]⟩
theorem tidegateref01_Hash_l1_o {n N : Nat} {a0 : T_api_Value} {k1_0_0 : Int → Option (Int × Int)} {R : Exit → AS → Prop} {K : List KItem} {c : Code} {σ : AS} {v0 : Int × Int} {r : Int × Int} (hF : F_tidegateref01_Hash_l1 n a0 k1_0_0 N v0 = some r) (hl : LeX E0 47 σ (S_tidegateref01_Hash_l1 a0 v0)) (round : ∀ m v, F_tidegateref01_Hash_l1 n a0 k1_0_0 (m + 1) v = some r → AW E0 47 (thenA (fun σ' => ∃ v', F_tidegateref01_Hash_l1 n a0 k1_0_0 m v' = some r ∧ LeX E0 47 σ' (S_tidegateref01_Hash_l1 a0 v')) (AW E0 47 R K)) [.code c] .normal (S_tidegateref01_Hash_l1 a0 v)) : LoopX E0 47 (fun next σ' => AW E0 47 (thenA next (AW E0 47 R K)) [.code c] .normal σ') σ :=
  LoopA.o (S := S_tidegateref01_Hash_l1 a0) hF (fun _ => rfl) hl round
def S_tidegateref01_Hash_l2 (a0 : T_api_Value) (v2_1 : Int × Int) : AS := ⟨[(1, .ptr 1 0), (5, aI (v2_1.1)), (7, aI (v2_1.2))], [(1, .box 97 [aI (a0.fKind), aI (a0.fNum), .str (a0.fText)])]⟩
theorem tidegateref01_Hash_l2_o {n N : Nat} {a0 : T_api_Value} {k2_1_0 : Int → Option (Int × Int)} {R : Exit → AS → Prop} {K : List KItem} {c : Code} {σ : AS} {v0 : Int × Int} {r : Int × Int} (hF : F_tidegateref01_Hash_l2 n a0 k2_1_0 N v0 = some r) (hl : LeX E0 47 σ (S_tidegateref01_Hash_l2 a0 v0)) (round : ∀ m v, F_tidegateref01_Hash_l2 n a0 k2_1_0 (m + 1) v = some r → AW E0 47 (thenA (fun σ' => ∃ v', F_tidegateref01_Hash_l2 n a0 k2_1_0 m v' = some r ∧ LeX E0 47 σ' (S_tidegateref01_Hash_l2 a0 v')) (AW E0 47 R K)) [.code c] .normal (S_tidegateref01_Hash_l2 a0 v)) : LoopX E0 47 (fun next σ' => AW E0 47 (thenA next (AW E0 47 R K)) [.code c] .normal σ') σ :=
  LoopA.o (S := S_tidegateref01_Hash_l2 a0) hF (fun _ => rfl) hl round
def R_tidegateref01_Hash (r : Int × Int) : AV := .tup [aI (r.1), aI (r.2)]
theorem con_tidegateref01_Hash {n : Nat} {a0 : T_api_Value} {r : Int × Int} (hF : F_tidegateref01_Hash n a0 = some r) : Con E0 true 93 [.agg [aI (a0.fKind), aI (a0.fNum), .str (a0.fText)]] (R_tidegateref01_Hash r) := by
  unfold F_tidegateref01_Hash at hF
  refine Con.walk _ Tryz.func93 rfl (enters_of Tryz.func93 rfl rfl) rfl (Or.inr rfl) ?_
  repeat' first
    | (refine AW.step ?_; conv => whnf)
    | (refine CondX.o hF (fun hF => ?_) (fun hF => ?_))
    | (refine CondX.t ?_)
    | (refine CondX.f ?_)
    | (refine CallX.o hF R_tidegateref01_Check (fun a h => con_tidegateref01_Check h) (fun a hF => ?_))
    | (refine CallX.o hF R_tidegateref01_mix (fun a h => con_tidegateref01_mix h) (fun a hF => ?_))
    | (refine OpX.idb hF rfl rfl rfl rfl rfl rfl rfl rfl (fun b hF => ?_))
    | (exact ⟨_, hF, LeX.of [] rfl ⟨⟨rfl, rfl⟩, ⟨rfl, rfl⟩, ⟨rfl, rfl⟩, trivial⟩ ⟨⟨rfl, rfl⟩, trivial⟩⟩)
    | (refine tidegateref01_Hash_l1_o hF (LeX.of [] rfl ⟨⟨rfl, rfl⟩, ⟨rfl, rfl⟩, ⟨rfl, rfl⟩, trivial⟩ ⟨⟨rfl, rfl⟩, trivial⟩) (fun m v hF => ?_); unfold F_tidegateref01_Hash_l1 at hF)
    | (refine ShX.o hF (fun hF => ?_))
    | (refine tidegateref01_Hash_l2_o hF (LeX.of [] rfl ⟨⟨rfl, rfl⟩, ⟨rfl, rfl⟩, ⟨rfl, rfl⟩, trivial⟩ ⟨⟨rfl, rfl⟩, trivial⟩) (fun m v hF => ?_); unfold F_tidegateref01_Hash_l2 at hF)
    | (refine And.intro ⟨by kernel_rfl, by kernel_rfl⟩ ?_)
    | (refine EqX.mk (by first | rfl | kernel_rfl) ?_)
    | (exact RetX.o hF (by repeat' first | exact Sub.nil _ | exact Sub.refl _ | refine Sub.agg ?_ | refine Sub.tup ?_ | refine Sub.fn ?_ | exact SubL.nil | refine SubL.cons ?_ ?_ | refine Sub.sl _ ?_ | exact SubE.nil | refine SubE.cons ?_ ?_))

def S_tidegateref04_CheckKey_l1 (a1 : (List Int)) (a0 : (List T_api_Schema)) (v1_0 : Int) : AS := ⟨[(0, .sl 2 (List.map e_api_Schema (a0))), (1, .sl 1 (List.map aI (a1))), (5, aI (v1_0))], []⟩
theorem tidegateref04_CheckKey_l1_o {n N : Nat} {a1 : (List Int)} {a0 : (List T_api_Schema)} {k1_0_0 : Option (Int)} {R : Exit → AS → Prop} {K : List KItem} {c : Code} {σ : AS} {v0 : Int} {r : Int} (hF : F_tidegateref04_CheckKey_l1 n a1 a0 k1_0_0 N v0 = some r) (hl : LeX E0 38 σ (S_tidegateref04_CheckKey_l1 a1 a0 v0)) (round : ∀ m v, F_tidegateref04_CheckKey_l1 n a1 a0 k1_0_0 (m + 1) v = some r → AW E0 38 (thenA (fun σ' => ∃ v', F_tidegateref04_CheckKey_l1 n a1 a0 k1_0_0 m v' = some r ∧ LeX E0 38 σ' (S_tidegateref04_CheckKey_l1 a1 a0 v')) (AW E0 38 R K)) [.code c] .normal (S_tidegateref04_CheckKey_l1 a1 a0 v)) : LoopX E0 38 (fun next σ' => AW E0 38 (thenA next (AW E0 38 R K)) [.code c] .normal σ') σ :=
  LoopA.o (S := S_tidegateref04_CheckKey_l1 a1 a0) hF (fun _ => rfl) hl round
def R_tidegateref04_CheckKey (r : Int) : AV := aI (r)
end Go.Proofs.YtcbdhigllelmcaaGreat
namespace Go.Proofs.YtcbdhigllelmcaaGreat
open Go.RowKit
theorem con_tidegateref04_CheckKey {n : Nat} {a0 : (List T_api_Schema)} {a1 : (List Int)} {r : Int} (hF : F_tidegateref04_CheckKey n a0 a1 = some r) : Con E0 true 47 [.sl 2 (List.map e_api_Schema (a0)), .sl 1 (List.map aI (a1))] (R_tidegateref04_CheckKey r) := by
  unfold F_tidegateref04_CheckKey at hF
  refine Con.walk _ Tryz.func47 rfl (enters_of Tryz.func47 rfl rfl) rfl (Or.inr rfl) ?_
  repeat' first
    | (refine AW.step ?_; conv => whnf)
    | (refine CondX.o hF (fun hF => ?_) (fun hF => ?_))
    | (refine CondX.t ?_)
    | (refine CondX.f ?_)
    | (refine IdxX.o aI hF (fun x hF => ?_))
    | (refine IdxX.o e_api_Schema hF (fun x hF => ?_))
    | (exact ⟨_, hF, LeX.of [] rfl ⟨⟨rfl, rfl⟩, ⟨rfl, rfl⟩, ⟨rfl, rfl⟩, trivial⟩ trivial⟩)
    | (refine tidegateref04_CheckKey_l1_o hF (LeX.of [] rfl ⟨⟨rfl, rfl⟩, ⟨rfl, rfl⟩, ⟨rfl, rfl⟩, trivial⟩ trivial) (fun m v hF => ?_); unfold F_tidegateref04_CheckKey_l1 at hF)
    | (refine And.intro ⟨by kernel_rfl, by kernel_rfl⟩ ?_)
    | (refine EqX.mk (by first | rfl | kernel_rfl) ?_)
    | (exact RetX.o hF (by repeat' first | exact Sub.nil _ | exact Sub.refl _ | refine Sub.agg ?_ | refine Sub.tup ?_ | refine Sub.fn ?_ | exact SubL.nil | refine SubL.cons ?_ ?_ | refine Sub.sl _ ?_ | exact SubE.nil | refine SubE.cons ?_ ?_))

def R_tidegateref04_KeyOf (r : T_api_Value × Bool) : AV := .tup [.agg [aI (r.1.fKind), aI (r.1.fNum), .str (r.1.fText)], .bool (r.2)]
theorem con_tidegateref04_KeyOf {n : Nat} {a0 : (List Int)} {a1 : T_api_Event} {r : T_api_Value × Bool} (hF : F_tidegateref04_KeyOf n a0 a1 = some r) : Con E0 true 71 [.sl 1 (List.map aI (a0)), .agg [aI (a1.fSource), aI (a1.fSeq), aI (a1.fType), aI (a1.fTime), .sl 3 (List.map e_api_Value (a1.fValues))]] (R_tidegateref04_KeyOf r) := by
  unfold F_tidegateref04_KeyOf at hF
  refine Con.walk _ Tryz.func71 rfl (enters_of Tryz.func71 rfl rfl) rfl (Or.inr rfl) ?_
  repeat' first
    | (refine AW.step ?_; conv => whnf)
    | (refine CondX.o hF (fun hF => ?_) (fun hF => ?_))
    | (refine CondX.t ?_)
    | (refine CondX.f ?_)
    | (refine IdxX.o aI hF (fun x hF => ?_))
    | (refine IdxX.o e_api_Value hF (fun x hF => ?_))
    | (refine And.intro ⟨by kernel_rfl, by kernel_rfl⟩ ?_)
    | (refine EqX.mk (by first | rfl | kernel_rfl) ?_)
    | (exact RetX.o hF (by repeat' first | exact Sub.nil _ | exact Sub.refl _ | refine Sub.agg ?_ | refine Sub.tup ?_ | refine Sub.fn ?_ | exact SubL.nil | refine SubL.cons ?_ ?_ | refine Sub.sl _ ?_ | exact SubE.nil | refine SubE.cons ?_ ?_))

def R_tidegateref45_Group (r : Int × Int) : AV := .tup [aI (r.1), aI (r.2)]
theorem con_tidegateref45_Group {n : Nat} {a0 : T_api_Value} {r : Int × Int} (hF : F_tidegateref45_Group n a0 = some r) : Con E0 true 72 [.agg [aI (a0.fKind), aI (a0.fNum), .str (a0.fText)]] (R_tidegateref45_Group r) := by
  unfold F_tidegateref45_Group at hF
  refine Con.walk _ Tryz.func72 rfl (enters_of Tryz.func72 rfl rfl) rfl (Or.inr rfl) ?_
  repeat' first
    | (refine AW.step ?_; conv => whnf)
    | (refine CondX.o hF (fun hF => ?_) (fun hF => ?_))
    | (refine CondX.t ?_)
    | (refine CondX.f ?_)
    | (refine CallX.o hF R_tidegateref01_Hash (fun a h => con_tidegateref01_Hash h) (fun a hF => ?_))
    | (refine NzX.o hF (fun hF => ?_))
    | (refine And.intro ⟨by kernel_rfl, by kernel_rfl⟩ ?_)
    | (refine EqX.mk (by first | rfl | kernel_rfl) ?_)
    | (exact RetX.o hF (by repeat' first | exact Sub.nil _ | exact Sub.refl _ | refine Sub.agg ?_ | refine Sub.tup ?_ | refine Sub.fn ?_ | exact SubL.nil | refine SubL.cons ?_ ?_ | refine Sub.sl _ ?_ | exact SubE.nil | refine SubE.cons ?_ ?_))

def R_tidegateref45_Owner (r : Int) : AV := aI (r)
theorem con_tidegateref45_Owner {n : Nat} {a0 : Int} {a1 : Int} {r : Int} (hF : F_tidegateref45_Owner n a0 a1 = some r) : Con E0 true 73 [aI (a0), aI (a1)] (R_tidegateref45_Owner r) := by
  unfold F_tidegateref45_Owner at hF
  refine Con.walk _ Tryz.func73 rfl (enters_of Tryz.func73 rfl rfl) rfl (Or.inr rfl) ?_
  repeat' first
    | (refine AW.step ?_; conv => whnf)
    | (refine CondX.o hF (fun hF => ?_) (fun hF => ?_))
    | (refine CondX.t ?_)
    | (refine CondX.f ?_)
    | (refine NzX.o hF (fun hF => ?_))
    | (refine And.intro ⟨by kernel_rfl, by kernel_rfl⟩ ?_)
    | (refine EqX.mk (by first | rfl | kernel_rfl) ?_)
    | (exact RetX.o hF (by repeat' first | exact Sub.nil _ | exact Sub.refl _ | refine Sub.agg ?_ | refine Sub.tup ?_ | refine Sub.fn ?_ | exact SubL.nil | refine SubL.cons ?_ ?_ | refine Sub.sl _ ?_ | exact SubE.nil | refine SubE.cons ?_ ?_))

def R_tidegateref46_Item (r : Int) : AV := aI (r)
theorem con_tidegateref46_Item {n : Nat} {a0 : T_api_Item} {r : Int} (hF : F_tidegateref46_Item n a0 = some r) : Con E0 true 48 [.agg [aI (a0.fKind), aI (a0.fEvent.fSource), aI (a0.fEvent.fSeq), aI (a0.fEvent.fType), aI (a0.fEvent.fTime), .sl 3 (List.map e_api_Value (a0.fEvent.fValues)), aI (a0.fNumber)]] (R_tidegateref46_Item r) := by
  unfold F_tidegateref46_Item at hF
  refine Con.walk _ Tryz.func48 rfl (enters_of Tryz.func48 rfl rfl) rfl (Or.inr rfl) ?_
  repeat' first
    | (refine AW.step ?_; conv => whnf)
    | (refine CondX.o hF (fun hF => ?_) (fun hF => ?_))
    | (refine CondX.t ?_)
    | (refine CondX.f ?_)
    | (refine And.intro ⟨by kernel_rfl, by kernel_rfl⟩ ?_)
    | (refine EqX.mk (by first | rfl | kernel_rfl) ?_)
    | (exact RetX.o hF (by repeat' first | exact Sub.nil _ | exact Sub.refl _ | refine Sub.agg ?_ | refine Sub.tup ?_ | refine Sub.fn ?_ | exact SubL.nil | refine SubL.cons ?_ ?_ | refine Sub.sl _ ?_ | exact SubE.nil | refine SubE.cons ?_ ?_))

end Go.Proofs.YtcbdhigllelmcaaGreat
namespace Go.Proofs.YtcbdhigllelmcaaGreat
open Go.RowKit
def S_tidegateref47_Targets_l2 (a2 : T_api_Item) (a1 : Int) (k1_0_0y : (List Bool)) (v2_1 : Int × (List Int)) : AS := ⟨[(1, aI (a1)), (5, .ptr 5 0), (7, .row 16), (13, .row 7064), (14, aI (v2_1.1))], [(5, .box 53 [aI (a2.fKind), aI (a2.fEvent.fSource), aI (a2.fEvent.fSeq), aI (a2.fEvent.fType), aI (a2.fEvent.fTime), .sl 3 (List.map e_api_Value (a2.fEvent.fValues)), aI (a2.fNumber)]), (16, .row 4 1 (List.map AV.bool (k1_0_0y))), (7064, .row 3 1 (List.map aI (v2_1.2)))]⟩
theorem tidegateref47_Targets_l2_o {n N : Nat} {a2 : T_api_Item} {a1 : Int} {k1_0_0y : (List Bool)} {k2_1_0 : (List Int) → Option ((List Int))} {R : Exit → AS → Prop} {K : List KItem} {c : Code} {σ : AS} {v0 : Int × (List Int)} {r : (List Int)} (hF : F_tidegateref47_Targets_l2 n a2 a1 k1_0_0y k2_1_0 N v0 = some r) (hl : LeX E0 66 σ (S_tidegateref47_Targets_l2 a2 a1 k1_0_0y v0)) (round : ∀ m v, F_tidegateref47_Targets_l2 n a2 a1 k1_0_0y k2_1_0 (m + 1) v = some r → AW E0 66 (thenA (fun σ' => ∃ v', F_tidegateref47_Targets_l2 n a2 a1 k1_0_0y k2_1_0 m v' = some r ∧ LeX E0 66 σ' (S_tidegateref47_Targets_l2 a2 a1 k1_0_0y v')) (AW E0 66 R K)) [.code c] .normal (S_tidegateref47_Targets_l2 a2 a1 k1_0_0y v)) : LoopX E0 66 (fun next σ' => AW E0 66 (thenA next (AW E0 66 R K)) [.code c] .normal σ') σ :=
  LoopA.o (S := S_tidegateref47_Targets_l2 a2 a1 k1_0_0y) hF (fun _ => rfl) hl round
def S_tidegateref47_Targets_l1 (a2 : T_api_Item) (a1 : Int) (a0 : (List (List Int))) (v1_0 : Int × (List Bool)) : AS := ⟨[(0, .sl 1 (List.map (fun q => AV.sl 1 (List.map aI q)) (a0))), (1, aI (a1)), (5, .ptr 5 0), (7, .row 16), (8, aI (v1_0.1))], [(5, .box 53 [aI (a2.fKind), aI (a2.fEvent.fSource), aI (a2.fEvent.fSeq), aI (a2.fEvent.fType), aI (a2.fEvent.fTime), .sl 3 (List.map e_api_Value (a2.fEvent.fValues)), aI (a2.fNumber)]), (16, .row 4 1 (List.map AV.bool (v1_0.2)))]⟩
theorem tidegateref47_Targets_l1_o {n N : Nat} {a2 : T_api_Item} {a1 : Int} {a0 : (List (List Int))} {k1_0_0 : (List Bool) → Option ((List Int))} {R : Exit → AS → Prop} {K : List KItem} {c : Code} {σ : AS} {v0 : Int × (List Bool)} {r : (List Int)} (hF : F_tidegateref47_Targets_l1 n a2 a1 a0 k1_0_0 N v0 = some r) (hl : LeX E0 66 σ (S_tidegateref47_Targets_l1 a2 a1 a0 v0)) (round : ∀ m v, F_tidegateref47_Targets_l1 n a2 a1 a0 k1_0_0 (m + 1) v = some r → AW E0 66 (thenA (fun σ' => ∃ v', F_tidegateref47_Targets_l1 n a2 a1 a0 k1_0_0 m v' = some r ∧ LeX E0 66 σ' (S_tidegateref47_Targets_l1 a2 a1 a0 v')) (AW E0 66 R K)) [.code c] .normal (S_tidegateref47_Targets_l1 a2 a1 a0 v)) : LoopX E0 66 (fun next σ' => AW E0 66 (thenA next (AW E0 66 R K)) [.code c] .normal σ') σ :=
  LoopA.o (S := S_tidegateref47_Targets_l1 a2 a1 a0) hF (fun _ => rfl) hl round
def R_tidegateref47_Targets (r : (List Int)) : AV := .sl 1 (List.map aI (r))
theorem con_tidegateref47_Targets {n : Nat} {a0 : (List (List Int))} {a1 : Int} {a2 : T_api_Item} {r : (List Int)} (hF : F_tidegateref47_Targets n a0 a1 a2 = some r) : Con E0 false 50 [.sl 1 (List.map (fun q => AV.sl 1 (List.map aI q)) (a0)), aI (a1), .agg [aI (a2.fKind), aI (a2.fEvent.fSource), aI (a2.fEvent.fSeq), aI (a2.fEvent.fType), aI (a2.fEvent.fTime), .sl 3 (List.map e_api_Value (a2.fEvent.fValues)), aI (a2.fNumber)]] (R_tidegateref47_Targets r) := by
  unfold F_tidegateref47_Targets at hF
  refine Con.walk _ Tryz.func50 rfl (enters_of Tryz.func50 rfl rfl) rfl (Or.inl rfl) ?_
  repeat' first
    | (refine AW.step ?_; conv => whnf)
    | (refine CondX.o hF (fun hF => ?_) (fun hF => ?_))
    | (refine CondX.t ?_)
    | (refine CondX.f ?_)
    | (refine MakX.o AV.bool hF (by first | exact SubL.refl _ | (repeat' first | exact SubL.nil | refine SubL.cons ?_ ?_ | exact Sub.refl _ | exact Sub.nil _ | refine Sub.agg ?_)) (fun l hF => ?_))
    | (refine NatX.o hF (fun m hF => ?_))
    | (refine EltX.o AV.bool hF (fun x hF => ?_))
    | (refine AppX.o aI hF (by first | exact SubR.refl _ | (repeat' first | exact SubR.nil | refine SubR.cons ?_ ?_ | exact SubL.nil | refine SubL.cons ?_ ?_ | exact Sub.refl _ | exact Sub.nil _)) (fun l hF => ?_))
    | (exact ⟨_, hF, LeX.of [(7064, 64)] rfl ⟨⟨rfl, rfl⟩, ⟨rfl, rfl⟩, ⟨rfl, rfl⟩, ⟨rfl, rfl⟩, ⟨rfl, rfl⟩, trivial⟩ ⟨⟨rfl, rfl⟩, ⟨rfl, rfl⟩, ⟨rfl, rfl⟩, trivial⟩⟩)
    | (exact ⟨_, hF, LeX.of [] rfl ⟨⟨rfl, rfl⟩, ⟨rfl, rfl⟩, ⟨rfl, rfl⟩, ⟨rfl, rfl⟩, ⟨rfl, rfl⟩, trivial⟩ ⟨⟨rfl, rfl⟩, ⟨rfl, rfl⟩, ⟨rfl, rfl⟩, trivial⟩⟩)
    | (refine tidegateref47_Targets_l2_o hF (LeX.trans (LeX.adopt 13 7064 3 1 rfl rfl) (LeX.of [] rfl ⟨⟨rfl, rfl⟩, ⟨rfl, rfl⟩, ⟨rfl, rfl⟩, ⟨rfl, rfl⟩, ⟨rfl, rfl⟩, trivial⟩ ⟨⟨rfl, rfl⟩, ⟨rfl, rfl⟩, ⟨rfl, rfl⟩, trivial⟩)) (fun m v hF => ?_); unfold F_tidegateref47_Targets_l2 at hF)
    | (exact ⟨_, hF, LeX.of [] rfl ⟨⟨rfl, rfl⟩, ⟨rfl, rfl⟩, ⟨rfl, rfl⟩, ⟨rfl, rfl⟩, ⟨rfl, rfl⟩, trivial⟩ ⟨⟨rfl, rfl⟩, ⟨rfl, rfl⟩, trivial⟩⟩)
    | (refine IdxX.o (fun q => AV.sl 1 (List.map aI q)) hF (fun x hF => ?_))
    | (refine CallX.o hF R_tidegateref04_KeyOf (fun a h => con_tidegateref04_KeyOf h) (fun a hF => ?_))
    | (refine CallX.o hF R_tidegateref45_Group (fun a h => con_tidegateref45_Group h) (fun a hF => ?_))
    | (refine CallX.o hF R_tidegateref45_Owner (fun a h => con_tidegateref45_Owner h) (fun a hF => ?_))
    | (refine SetX.o AV.bool hF (fun x => rfl) (fun x => (by first | exact SubL.refl _ | (repeat' first | exact SubL.nil | refine SubL.cons ?_ ?_ | exact Sub.refl _ | exact Sub.nil _ | refine Sub.agg ?_))) (fun l hF => ?_))
    | (refine tidegateref47_Targets_l1_o hF (LeX.of [] rfl ⟨⟨rfl, rfl⟩, ⟨rfl, rfl⟩, ⟨rfl, rfl⟩, ⟨rfl, rfl⟩, ⟨rfl, rfl⟩, trivial⟩ ⟨⟨rfl, rfl⟩, ⟨rfl, rfl⟩, trivial⟩) (fun m v hF => ?_); unfold F_tidegateref47_Targets_l1 at hF)
    | (refine And.intro ⟨by kernel_rfl, by kernel_rfl⟩ ?_)
    | (refine EqX.mk (by first | rfl | kernel_rfl) ?_)
    | (exact RetX.o hF (by repeat' first | exact Sub.nil _ | exact Sub.refl _ | refine Sub.agg ?_ | refine Sub.tup ?_ | refine Sub.fn ?_ | exact SubL.nil | refine SubL.cons ?_ ?_ | refine Sub.sl _ ?_ | exact SubE.nil | refine SubE.cons ?_ ?_))

def S_tidegateref47_Route_l1 (a3 : T_api_Item) (a2 : Int) (a1 : (List (List Int))) (a0 : (List T_api_Schema)) (v1_0 : Int) : AS := ⟨[(0, .sl 2 (List.map e_api_Schema (a0))), (1, .sl 1 (List.map (fun q => AV.sl 1 (List.map aI q)) (a1))), (2, aI (a2)), (7, .ptr 7 0), (11, aI (v1_0))], [(7, .box 53 [aI (a3.fKind), aI (a3.fEvent.fSource), aI (a3.fEvent.fSeq), aI (a3.fEvent.fType), aI (a3.fEvent.fTime), .sl 3 (List.map e_api_Value (a3.fEvent.fValues)), aI (a3.fNumber)])]⟩
theorem tidegateref47_Route_l1_o {n N : Nat} {a3 : T_api_Item} {a2 : Int} {a1 : (List (List Int))} {a0 : (List T_api_Schema)} {k1_0_0 : Option ((List Int) × Int)} {R : Exit → AS → Prop} {K : List KItem} {c : Code} {σ : AS} {v0 : Int} {r : (List Int) × Int} (hF : F_tidegateref47_Route_l1 n a3 a2 a1 a0 k1_0_0 N v0 = some r) (hl : LeX E0 63 σ (S_tidegateref47_Route_l1 a3 a2 a1 a0 v0)) (round : ∀ m v, F_tidegateref47_Route_l1 n a3 a2 a1 a0 k1_0_0 (m + 1) v = some r → AW E0 63 (thenA (fun σ' => ∃ v', F_tidegateref47_Route_l1 n a3 a2 a1 a0 k1_0_0 m v' = some r ∧ LeX E0 63 σ' (S_tidegateref47_Route_l1 a3 a2 a1 a0 v')) (AW E0 63 R K)) [.code c] .normal (S_tidegateref47_Route_l1 a3 a2 a1 a0 v)) : LoopX E0 63 (fun next σ' => AW E0 63 (thenA next (AW E0 63 R K)) [.code c] .normal σ') σ :=
  LoopA.o (S := S_tidegateref47_Route_l1 a3 a2 a1 a0) hF (fun _ => rfl) hl round
def R_tidegateref47_Route (r : (List Int) × Int) : AV := .tup [.sl 1 (List.map aI (r.1)), aI (r.2)]
end Go.Proofs.YtcbdhigllelmcaaGreat
namespace Go.Proofs.YtcbdhigllelmcaaGreat
open Go.RowKit
theorem con_tidegateref47_Route {n : Nat} {a0 : (List T_api_Schema)} {a1 : (List (List Int))} {a2 : Int} {a3 : T_api_Item} {r : (List Int) × Int} (hF : F_tidegateref47_Route n a0 a1 a2 a3 = some r) : Con E0 false 19 [.sl 2 (List.map e_api_Schema (a0)), .sl 1 (List.map (fun q => AV.sl 1 (List.map aI q)) (a1)), aI (a2), .agg [aI (a3.fKind), aI (a3.fEvent.fSource), aI (a3.fEvent.fSeq), aI (a3.fEvent.fType), aI (a3.fEvent.fTime), .sl 3 (List.map e_api_Value (a3.fEvent.fValues)), aI (a3.fNumber)]] (R_tidegateref47_Route r) := by
  unfold F_tidegateref47_Route at hF
  refine Con.walk _ Tryz.func19 rfl (enters_of Tryz.func19 rfl rfl) rfl (Or.inl rfl) ?_
  repeat' first
    | (refine AW.step ?_; conv => whnf)
    | (refine CondX.o hF (fun hF => ?_) (fun hF => ?_))
    | (refine CondX.t ?_)
    | (refine CondX.f ?_)
    | (refine CallX.o hF R_tidegateref03_CheckAll (fun a h => con_tidegateref03_CheckAll h) (fun a hF => ?_))
    | (refine CallX.o hF R_tidegateref46_Item (fun a h => con_tidegateref46_Item h) (fun a hF => ?_))
    | (refine CallX.o hF R_tidegateref04_Valid (fun a h => con_tidegateref04_Valid h) (fun a hF => ?_))
    | (refine CallX.o hF R_tidegateref47_Targets (fun a h => con_tidegateref47_Targets h) (fun a hF => ?_))
    | (refine IdxX.o (fun q => AV.sl 1 (List.map aI q)) hF (fun x hF => ?_))
    | (refine CallX.o hF R_tidegateref04_CheckKey (fun a h => con_tidegateref04_CheckKey h) (fun a hF => ?_))
    | (exact ⟨_, hF, LeX.of [] rfl ⟨⟨rfl, rfl⟩, ⟨rfl, rfl⟩, ⟨rfl, rfl⟩, ⟨rfl, rfl⟩, ⟨rfl, rfl⟩, trivial⟩ ⟨⟨rfl, rfl⟩, trivial⟩⟩)
    | (refine tidegateref47_Route_l1_o hF (LeX.of [] rfl ⟨⟨rfl, rfl⟩, ⟨rfl, rfl⟩, ⟨rfl, rfl⟩, ⟨rfl, rfl⟩, ⟨rfl, rfl⟩, trivial⟩ ⟨⟨rfl, rfl⟩, trivial⟩) (fun m v hF => ?_); unfold F_tidegateref47_Route_l1 at hF)
    | (refine And.intro ⟨by kernel_rfl, by kernel_rfl⟩ ?_)
    | (refine EqX.mk (by first | rfl | kernel_rfl) ?_)
    | (exact RetX.o hF (by repeat' first | exact Sub.nil _ | exact Sub.refl _ | refine Sub.agg ?_ | refine Sub.tup ?_ | refine Sub.fn ?_ | exact SubL.nil | refine SubL.cons ?_ ?_ | refine Sub.sl _ ?_ | exact SubE.nil | refine SubE.cons ?_ ?_))

def S_tidegatelaw47_ReaderRoutes_l1 (a2 : T_api_Item) (a1 : T_tidegatelaw47_Routing) (a0 : (List T_api_Schema)) (v1_0 : Int) : AS := ⟨[(0, .sl 2 (List.map e_api_Schema (a0))), (4, .ptr 4 0), (5, .ptr 5 0), (7, aI (v1_0))], [(4, .box 48 [.sl 1 (List.map (fun q => AV.sl 1 (List.map aI q)) (a1.fKeys)), aI (a1.fWorkers)]), (5, .box 53 [aI (a2.fKind), aI (a2.fEvent.fSource), aI (a2.fEvent.fSeq), aI (a2.fEvent.fType), aI (a2.fEvent.fTime), .sl 3 (List.map e_api_Value (a2.fEvent.fValues)), aI (a2.fNumber)])]⟩
theorem tidegatelaw47_ReaderRoutes_l1_o {n N : Nat} {a2 : T_api_Item} {a1 : T_tidegatelaw47_Routing} {a0 : (List T_api_Schema)} {k1_0_0 : Option (Bool)} {R : Exit → AS → Prop} {K : List KItem} {c : Code} {σ : AS} {v0 : Int} {r : Bool} (hF : F_tidegatelaw47_ReaderRoutes_l1 n a2 a1 a0 k1_0_0 N v0 = some r) (hl : LeX E0 75 σ (S_tidegatelaw47_ReaderRoutes_l1 a2 a1 a0 v0)) (round : ∀ m v, F_tidegatelaw47_ReaderRoutes_l1 n a2 a1 a0 k1_0_0 (m + 1) v = some r → AW E0 75 (thenA (fun σ' => ∃ v', F_tidegatelaw47_ReaderRoutes_l1 n a2 a1 a0 k1_0_0 m v' = some r ∧ LeX E0 75 σ' (S_tidegatelaw47_ReaderRoutes_l1 a2 a1 a0 v')) (AW E0 75 R K)) [.code c] .normal (S_tidegatelaw47_ReaderRoutes_l1 a2 a1 a0 v)) : LoopX E0 75 (fun next σ' => AW E0 75 (thenA next (AW E0 75 R K)) [.code c] .normal σ') σ :=
  LoopA.o (S := S_tidegatelaw47_ReaderRoutes_l1 a2 a1 a0) hF (fun _ => rfl) hl round
def R_tidegatelaw47_ReaderRoutes (r : Bool) : AV := .bool (r)
theorem con_tidegatelaw47_ReaderRoutes {n : Nat} {a0 : (List T_api_Schema)} {a1 : T_tidegatelaw47_Routing} {a2 : T_api_Item} {r : Bool} (hF : F_tidegatelaw47_ReaderRoutes n a0 a1 a2 = some r) : Con E0 true 4 [.sl 2 (List.map e_api_Schema (a0)), .agg [.sl 1 (List.map (fun q => AV.sl 1 (List.map aI q)) (a1.fKeys)), aI (a1.fWorkers)], .agg [aI (a2.fKind), aI (a2.fEvent.fSource), aI (a2.fEvent.fSeq), aI (a2.fEvent.fType), aI (a2.fEvent.fTime), .sl 3 (List.map e_api_Value (a2.fEvent.fValues)), aI (a2.fNumber)]] (R_tidegatelaw47_ReaderRoutes r) := by
  unfold F_tidegatelaw47_ReaderRoutes at hF
  refine Con.walk _ Tryz.func4 rfl (enters_of Tryz.func4 rfl rfl) rfl (Or.inr rfl) ?_
  repeat' first
    | (refine AW.step ?_; conv => whnf)
    | (refine CondX.o hF (fun hF => ?_) (fun hF => ?_))
    | (refine CondX.t ?_)
    | (refine CondX.f ?_)
    | (refine CallX.o hF R_tidegateref03_Few (fun a h => con_tidegateref03_Few h) (fun a hF => ?_))
    | (refine CallX.o hF R_tidegatelaw47_awake (fun a h => con_tidegatelaw47_awake h) (fun a hF => ?_))
    | (refine CallX.o hF R_reader_Route (fun a h => con_reader_Route h) (fun a hF => ?_))
    | (refine CallX.o hF R_tidegateref47_Route (fun a h => con_tidegateref47_Route h) (fun a hF => ?_))
    | (refine CallX.o hF R_tidegateref34_SameInts (fun a h => con_tidegateref34_SameInts h) (fun a hF => ?_))
    | (refine IdxX.o (fun q => AV.sl 1 (List.map aI q)) hF (fun x hF => ?_))
    | (exact ⟨_, hF, LeX.of [] rfl ⟨⟨rfl, rfl⟩, ⟨rfl, rfl⟩, ⟨rfl, rfl⟩, ⟨rfl, rfl⟩, trivial⟩ ⟨⟨rfl, rfl⟩, ⟨rfl, rfl⟩, trivial⟩⟩)
    | (refine tidegatelaw47_ReaderRoutes_l1_o hF (LeX.of [] rfl ⟨⟨rfl, rfl⟩, ⟨rfl, rfl⟩, ⟨rfl, rfl⟩, ⟨rfl, rfl⟩, trivial⟩ ⟨⟨rfl, rfl⟩, ⟨rfl, rfl⟩, trivial⟩) (fun m v hF => ?_); unfold F_tidegatelaw47_ReaderRoutes_l1 at hF)
    | (refine And.intro ⟨by kernel_rfl, by kernel_rfl⟩ ?_)
    | (refine EqX.mk (by first | rfl | kernel_rfl) ?_)
    | (exact RetX.o hF (by repeat' first | exact Sub.nil _ | exact Sub.refl _ | refine Sub.agg ?_ | refine Sub.tup ?_ | refine Sub.fn ?_ | exact SubL.nil | refine SubL.cons ?_ ?_ | refine Sub.sl _ ?_ | exact SubE.nil | refine SubE.cons ?_ ?_))

end Go.Proofs.YtcbdhigllelmcaaGreat
namespace Go.Proofs.YtcbdhigllelmcaaGreat
open Go.RowKit
theorem routes_con47 (l : List Sch) (hl : l.length ≤ 9223372036854775807) (rt : T_tidegatelaw47_Routing) (x : It) : Con E0 true 4 [.sl 2 (l.map e_api_Schema), e_tidegatelaw47_Routing rt, e_api_Item x] (.bool true) := con_tidegatelaw47_ReaderRoutes (law_routes47 l rt x hl _ (Nat.le_refl _))
end Go.Proofs.YtcbdhigllelmcaaGreat
