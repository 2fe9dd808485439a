/- Contracts of the library, out of the shelf of the kit, at this program (written by the kit's lay-shelf and lay-plain). Contracts of the library's functions that are taken from the kit's shelf, in the form of the abstract walk. What some functions compute, over plain values. Printed by a program of mine (gen_fun.lean). Arguments opened: values, events, references to events, ints. Arguments opened: bytes. Plain laws of the forms of terms (G0). Layer 5: the comparisons, plainly; sorting by them. Layer 1: the order of values, plainly; sorting by it. The abstract walk: strings (their bytes, appended to a row of bytes), and literals that are own rows. The abstract walk: parts of the call's own rows (s[lo:]), and clear. The abstract walk: maps that hold rows of the call's own (m[k] = append(m[k], ..)). -/
import Derived.Shelf.Small.Strs
import Derived.Shelf.SlSortCmp.NoneTotal
import Derived.Test.YtkbopbgcjfcjjaaProg
import Derived.Test.YtkbopbgcjfcjjaaK07
import Derived.Lib.AppendStr
import Derived.Test.YtkbopbgcjfcjjaaK05
import GoSem.Instr.MapEntry
set_option linter.unusedVariables false
set_option linter.unusedSimpArgs false
set_option maxRecDepth 100000
set_option maxHeartbeats 8000000
namespace Go.Proofs
open Go.Shelf
open Go.RowKit in
def Try.lays106_ren : Go.Shelf.Ren := ⟨fun | 106 => 51 | 213 => 70 | 265 => 79 | n => n, fun | 9 => 9 | 3 => 3 | n => n, fun | n => n⟩
theorem Try.lays106 : Go.Proofs.Lays.n106 Try.prog Try.lays106_ren := {
  mixed := by kernel_rfl
  f106 := Try.func51.trans (congrArg some (by kernel_rfl))
  f213 := Try.func70.trans (congrArg some (by kernel_rfl))
  f265 := Try.func79.trans (congrArg some (by kernel_rfl))
  t3 := Try.underlying3
  a3 := Try.isAgg3
  z3 := Try.sizeOf3
  v3 := Try.zeroValue3
  t9 := Try.underlying9
  a9 := Try.isAgg9
  z9 := Try.sizeOf9
  v9 := Try.zeroValue9 }
open Go.RowKit in
theorem Try.strings_Compare (a b : ByteArray) (w : World) :
    Calls Try.prog 51 #[.string a, .string b] w fun e w' => e = .returned (.int .i64 (Lib.compareBytes a.data.toList b.data.toList)) ∧ w' = w := Any.strings_Compare Try.lays106 a b w
def Try.laysSlF06_f27_ren : Go.Shelf.Ren := ⟨fun | 6 => 27 | 15 => 47 | 14 => 46 | 28 => 67 | 29 => 68 | 20 => 59 | 21 => 60 | 22 => 61 | 23 => 62 | 24 => 63 | 25 => 64 | 26 => 65 | 27 => 66 | 46 => 74 | 47 => 75 | 48 => 76 | 49 => 77 | 50 => 78 | 57 => 88 | n => n, fun | 22 => 26 | 24 => 39 | 25 => 37 | 3 => 3 | 39 => 85 | 0 => 0 | 53 => 102 | 55 => 104 | 4 => 4 | 46 => 96 | 45 => 95 | 50 => 75 | 5 => 5 | 9 => 9 | 66 => 108 | 70 => 112 | 76 => 119 | 77 => 120 | n => n, fun | n => n⟩
theorem Try.laysSlF06_f27 : Go.Proofs.SlLaysF0.n6 Try.prog Try.laysSlF06_f27_ren := {
  mixed := by kernel_rfl
  f6 := ⟨Try.f27.name, by decide, Try.func27.trans (congrArg some (by kernel_rfl))⟩
  f14 := ⟨Try.f46.name, by decide, Try.func46.trans (congrArg some (by kernel_rfl))⟩
  f15 := Try.func47.trans (congrArg some (by kernel_rfl))
  f20 := ⟨Try.f59.name, by decide, Try.func59.trans (congrArg some (by kernel_rfl))⟩
  f21 := ⟨Try.f60.name, by decide, Try.func60.trans (congrArg some (by kernel_rfl))⟩
  f22 := ⟨Try.f61.name, by decide, Try.func61.trans (congrArg some (by kernel_rfl))⟩
  f23 := ⟨Try.f62.name, by decide, Try.func62.trans (congrArg some (by kernel_rfl))⟩
  f24 := ⟨Try.f63.name, by decide, Try.func63.trans (congrArg some (by kernel_rfl))⟩
  f25 := ⟨Try.f64.name, by decide, Try.func64.trans (congrArg some (by kernel_rfl))⟩
  f26 := ⟨Try.f65.name, by decide, Try.func65.trans (congrArg some (by kernel_rfl))⟩
  f27 := ⟨Try.f66.name, by decide, Try.func66.trans (congrArg some (by kernel_rfl))⟩
  f28 := Try.func67.trans (congrArg some (by kernel_rfl))
  f29 := Try.func68.trans (congrArg some (by kernel_rfl))
  f46 := ⟨Try.f74.name, by decide, Try.func74.trans (congrArg some (by kernel_rfl))⟩
  f47 := Try.func75.trans (congrArg some (by kernel_rfl))
  f48 := Try.func76.trans (congrArg some (by kernel_rfl))
  f49 := ⟨Try.f77.name, by decide, Try.func77.trans (congrArg some (by kernel_rfl))⟩
  f50 := ⟨Try.f78.name, by decide, Try.func78.trans (congrArg some (by kernel_rfl))⟩
  f57 := ⟨Try.f88.name, by decide, Try.func88.trans (congrArg some (by kernel_rfl))⟩
  t0 := Try.underlying0
  a0 := Try.isAgg0
  z0 := Try.sizeOf0
  v0 := Try.zeroValue0
  t3 := Try.underlying3
  a3 := Try.isAgg3
  z3 := Try.sizeOf3
  v3 := Try.zeroValue3
  t4 := Try.underlying4
  a4 := Try.isAgg4
  z4 := Try.sizeOf4
  v4 := Try.zeroValue4
  t5 := Try.underlying5
  a5 := Try.isAgg5
  z5 := Try.sizeOf5
  v5 := Try.zeroValue5
  t9 := Try.underlying9
  a9 := Try.isAgg9
  z9 := Try.sizeOf9
  v9 := Try.zeroValue9
  t22 := Try.underlying26
  a22 := Try.isAgg26
  z22 := Try.sizeOf26
  v22 := Try.zeroValue26
  t25 := Try.underlying37
  a25 := Try.isAgg37
  z25 := Try.sizeOf37
  v25 := Try.zeroValue37
  t39 := Try.underlying85
  a39 := Try.isAgg85
  z39 := Try.sizeOf85
  v39 := Try.zeroValue85
  t45 := Try.underlying95
  a45 := Try.isAgg95
  z45 := Try.sizeOf95
  v45 := Try.zeroValue95
  t46 := Try.underlying96
  a46 := Try.isAgg96
  z46 := Try.sizeOf96
  v46 := Try.zeroValue96
  t50 := Try.underlying75
  a50 := Try.isAgg75
  z50 := Try.sizeOf75
  v50 := Try.zeroValue75
  t53 := Try.underlying102
  a53 := Try.isAgg102
  z53 := Try.sizeOf102
  v53 := Try.zeroValue102
  t55 := Try.underlying104
  a55 := Try.isAgg104
  z55 := Try.sizeOf104
  v55 := Try.zeroValue104
  t66 := Try.underlying108
  a66 := Try.isAgg108
  z66 := Try.sizeOf108
  v66 := Try.zeroValue108
  t70 := Try.underlying112
  a70 := Try.isAgg112
  z70 := Try.sizeOf112
  v70 := Try.zeroValue112
  t76 := Try.underlying119
  a76 := Try.isAgg119
  z76 := Try.sizeOf119
  v76 := Try.zeroValue119
  t77 := Try.underlying120
  a77 := Try.isAgg120
  z77 := Try.sizeOf120
  v77 := Try.zeroValue120 }
def Try.laysSlF06_f55_ren : Go.Shelf.Ren := ⟨fun | 6 => 55 | 15 => 47 | 14 => 72 | 28 => 67 | 29 => 68 | 20 => 80 | 21 => 81 | 22 => 82 | 23 => 83 | 24 => 84 | 25 => 85 | 26 => 86 | 27 => 87 | 46 => 89 | 47 => 75 | 48 => 76 | 49 => 90 | 50 => 91 | 57 => 92 | n => n, fun | 22 => 22 | 24 => 41 | 25 => 74 | 3 => 3 | 39 => 85 | 0 => 0 | 53 => 102 | 55 => 104 | 4 => 4 | 46 => 96 | 45 => 95 | 50 => 75 | 5 => 5 | 9 => 9 | 66 => 108 | 70 => 112 | 76 => 119 | 77 => 120 | n => n, fun | n => n⟩
theorem Try.laysSlF06_f55 : Go.Proofs.SlLaysF0.n6 Try.prog Try.laysSlF06_f55_ren := {
  mixed := by kernel_rfl
  f6 := ⟨Try.f55.name, by decide, Try.func55.trans (congrArg some (by kernel_rfl))⟩
  f14 := ⟨Try.f72.name, by decide, Try.func72.trans (congrArg some (by kernel_rfl))⟩
  f15 := Try.func47.trans (congrArg some (by kernel_rfl))
  f20 := ⟨Try.f80.name, by decide, Try.func80.trans (congrArg some (by kernel_rfl))⟩
  f21 := ⟨Try.f81.name, by decide, Try.func81.trans (congrArg some (by kernel_rfl))⟩
  f22 := ⟨Try.f82.name, by decide, Try.func82.trans (congrArg some (by kernel_rfl))⟩
  f23 := ⟨Try.f83.name, by decide, Try.func83.trans (congrArg some (by kernel_rfl))⟩
  f24 := ⟨Try.f84.name, by decide, Try.func84.trans (congrArg some (by kernel_rfl))⟩
  f25 := ⟨Try.f85.name, by decide, Try.func85.trans (congrArg some (by kernel_rfl))⟩
  f26 := ⟨Try.f86.name, by decide, Try.func86.trans (congrArg some (by kernel_rfl))⟩
  f27 := ⟨Try.f87.name, by decide, Try.func87.trans (congrArg some (by kernel_rfl))⟩
  f28 := Try.func67.trans (congrArg some (by kernel_rfl))
  f29 := Try.func68.trans (congrArg some (by kernel_rfl))
  f46 := ⟨Try.f89.name, by decide, Try.func89.trans (congrArg some (by kernel_rfl))⟩
  f47 := Try.func75.trans (congrArg some (by kernel_rfl))
  f48 := Try.func76.trans (congrArg some (by kernel_rfl))
  f49 := ⟨Try.f90.name, by decide, Try.func90.trans (congrArg some (by kernel_rfl))⟩
  f50 := ⟨Try.f91.name, by decide, Try.func91.trans (congrArg some (by kernel_rfl))⟩
  f57 := ⟨Try.f92.name, by decide, Try.func92.trans (congrArg some (by kernel_rfl))⟩
  t0 := Try.underlying0
  a0 := Try.isAgg0
  z0 := Try.sizeOf0
  v0 := Try.zeroValue0
  t3 := Try.underlying3
  a3 := Try.isAgg3
  z3 := Try.sizeOf3
  v3 := Try.zeroValue3
  t4 := Try.underlying4
  a4 := Try.isAgg4
  z4 := Try.sizeOf4
  v4 := Try.zeroValue4
  t5 := Try.underlying5
  a5 := Try.isAgg5
  z5 := Try.sizeOf5
  v5 := Try.zeroValue5
  t9 := Try.underlying9
  a9 := Try.isAgg9
  z9 := Try.sizeOf9
  v9 := Try.zeroValue9
  t22 := Try.underlying22
  a22 := Try.isAgg22
  z22 := Try.sizeOf22
  v22 := Try.zeroValue22
  t25 := Try.underlying74
  a25 := Try.isAgg74
  z25 := Try.sizeOf74
  v25 := Try.zeroValue74
  t39 := Try.underlying85
  a39 := Try.isAgg85
  z39 := Try.sizeOf85
  v39 := Try.zeroValue85
  t45 := Try.underlying95
  a45 := Try.isAgg95
  z45 := Try.sizeOf95
  v45 := Try.zeroValue95
  t46 := Try.underlying96
  a46 := Try.isAgg96
  z46 := Try.sizeOf96
  v46 := Try.zeroValue96
  t50 := Try.underlying75
  a50 := Try.isAgg75
  z50 := Try.sizeOf75
  v50 := Try.zeroValue75
  t53 := Try.underlying102
  a53 := Try.isAgg102
  z53 := Try.sizeOf102
  v53 := Try.zeroValue102
  t55 := Try.underlying104
  a55 := Try.isAgg104
  z55 := Try.sizeOf104
  v55 := Try.zeroValue104
  t66 := Try.underlying108
  a66 := Try.isAgg108
  z66 := Try.sizeOf108
  v66 := Try.zeroValue108
  t70 := Try.underlying112
  a70 := Try.isAgg112
  z70 := Try.sizeOf112
  v70 := Try.zeroValue112
  t76 := Try.underlying119
  a76 := Try.isAgg119
  z76 := Try.sizeOf119
  v76 := Try.zeroValue119
  t77 := Try.underlying120
  a77 := Try.isAgg120
  z77 := Try.sizeOf120
  v77 := Try.zeroValue120 }
end Go.Proofs
namespace Go.Proofs.Ytkbopbgcjfcjjaa
open Go.RowKit

def F_strCmp (n : Nat) (a b : ByteArray) : Option Int := some (Lib.compareBytes a.data.toList b.data.toList)
def R_strCmp (r : Int) : AV := aI r
theorem strCmp_gen {E : Env} (hP : E.P = Try.prog) (he : Enters E 51) {n : Nat} {a b : ByteArray} {r : Int} (hF : F_strCmp n a b = some r) : Con E true 51 [.str a, .str b] (R_strCmp r) := by
  injection hF with hF
  subst hF
  refine ⟨he, fun S w vs ⟨hl, hr⟩ => ?_⟩
  have e := getD2 hl
  have h0 : Rep w S G0 (.str a) (vs.getD 0 undef) := hr 0 (by simp)
  have h1 : Rep w S G0 (.str b) (vs.getD 1 undef) := hr 1 (by simp)
  rw [h0.str_inv, h1.str_inv] at e
  rw [e, hP]
  refine (Try.strings_Compare a b w).mono ?_
  rintro e w' ⟨rfl, rfl⟩
  exact ⟨_, rfl, ⟨Below.refl _ _, fun _ => Nat.le_refl _⟩, .int _ _⟩
theorem con_strCmp_d {n : Nat} {a b : ByteArray} {r : Int} (hF : F_strCmp n a b = some r) : Con E0d true 51 [.str a, .str b] (R_strCmp r) := strCmp_gen (E := E0d) rfl (enters_of Try.func51 rfl rfl) hF
end Go.Proofs.Ytkbopbgcjfcjjaa
namespace Go.Proofs.Ytkbopbgcjfcjjaa
open Go.RowKit
structure T_api_Value where
  fKind : Int
  fNum : Int
  fText : ByteArray
deriving DecidableEq, Inhabited
def e_api_Value (x : T_api_Value) : AV := .agg [aI (x.fKind), aI (x.fNum), .str (x.fText)]
structure T_api_Event where
  fSource : Int
  fSeq : Int
  fType : Int
  fTime : Int
  fValues : (List T_api_Value)
deriving DecidableEq, Inhabited
def e_api_Event (x : T_api_Event) : AV := .agg [aI (x.fSource), aI (x.fSeq), aI (x.fType), aI (x.fTime), .sl 3 (List.map e_api_Value (x.fValues))]
structure T_api_Ref where
  fTime : Int
  fSource : Int
  fSeq : Int
deriving DecidableEq, Inhabited
def F_event_Ref_d (n : Nat) (a0 : T_api_Event) : Option (T_api_Ref) :=
  some (⟨a0.fTime, a0.fSource, a0.fSeq⟩)
def F_cmp_isNaN_d (n : Nat) (a0 : Int) : Option (Bool) :=
  some (!decide (a0 = a0))
def F_cmp_Compare_d (n : Nat) (a0 : Int) (a1 : Int) : Option (Int) :=
  bnd (F_cmp_isNaN_d n a0) fun x1 =>
  bnd (F_cmp_isNaN_d n a1) fun x2 =>
  cnd (x1)
    (cnd (x2)
      (some 0)
    <| some (-1))
  <| cnd (x2)
    (some 1)
  <| cnd (decide (a0 < a1))
    (some (-1))
  <| cnd (decide (a1 < a0))
    (some 1)
  <| some 0
def F_cmp_Or_d_l1 (n : Nat) (a0 : (List Int)) (k1_0_0 : Option (Int)) : Nat → Int → Option (Int)
  | 0, _ => none
  | mv1_0 + 1, v1_0 =>
    cnd (decide (v1_0 < (((List.map aI (a0)).length : Nat) : Int)))
      (idx a0 v1_0 fun x41 =>
      cnd (!decide (x41 = 0))
        (some x41)
      <| F_cmp_Or_d_l1 n a0 k1_0_0 mv1_0 (IntKind.wrap .i64 (v1_0 + 1)))
    <| k1_0_0
def F_cmp_Or_d (n : Nat) (a0 : (List Int)) : Option (Int) :=
  F_cmp_Or_d_l1 n a0
    (some 0) n 0
def F_event_Compare_d (n : Nat) (a0 : T_api_Event) (a1 : T_api_Event) : Option (Int) :=
  bnd (F_event_Ref_d n a0) fun x1 =>
  bnd (F_event_Ref_d n a1) fun x2 =>
  cnd ((decide (x1.fTime = x2.fTime) && (decide (x1.fSource = x2.fSource) && (decide (x1.fSeq = x2.fSeq) && true))))
    (some 0)
  <| bnd (F_cmp_Compare_d n a0.fTime a1.fTime) fun x3 =>
  bnd (F_cmp_Compare_d n a0.fSource a1.fSource) fun x4 =>
  bnd (F_cmp_Compare_d n a0.fSeq a1.fSeq) fun x5 =>
  bnd (F_cmp_Or_d n ([x3, x4, x5])) fun x6 =>
  some x6
def F_value_Compare_1_d (n : Nat) (a0 : T_api_Value) (a1 : T_api_Value) : Option (Int) :=
  bnd (F_cmp_Compare_d n a0.fKind a1.fKind) fun x1 =>
  some x1
def F_value_Compare_2_d (n : Nat) (a0 : T_api_Value) (a1 : T_api_Value) : Option (Int) :=
  bnd (F_cmp_Compare_d n a0.fNum a1.fNum) fun x1 =>
  some x1
def F_value_Compare_d_l1 (n : Nat) (a1 : T_api_Value) (a0 : T_api_Value) (k1_0_0 : Option (Int)) : Nat → Int → Option (Int)
  | 0, _ => none
  | mv1_0 + 1, v1_0 =>
    cnd (decide (v1_0 < 2))
      (cnd (decide (v1_0 = 0))
        (bnd (F_value_Compare_1_d n a0 a1) fun x42 =>
      cnd (!decide (x42 = 0))
        (some x42)
      <| F_value_Compare_d_l1 n a1 a0 k1_0_0 mv1_0 (IntKind.wrap .i64 (v1_0 + 1)))
      <| cnd (decide (v1_0 = 1))
        (bnd (F_value_Compare_2_d n a0 a1) fun x43 =>
      cnd (!decide (x43 = 0))
        (some x43)
      <| F_value_Compare_d_l1 n a1 a0 k1_0_0 mv1_0 (IntKind.wrap .i64 (v1_0 + 1)))
      <| none)
    <| k1_0_0
def F_value_Compare_d (n : Nat) (a0 : T_api_Value) (a1 : T_api_Value) : Option (Int) :=
  F_value_Compare_d_l1 n a1 a0
    (bnd (F_strCmp n a0.fText a1.fText) fun x41 =>
  some x41) n 0
end Go.Proofs.Ytkbopbgcjfcjjaa
namespace Go.Proofs.Ytkbopbgcjfcjjaa
open Go.ChangeShapes Go.WideShapes Go.ChangeAt Go.RowKit Go.Joins Go.Deep

section
variable {H : Type} {enc : TypeId × Value → H} {W : World} {base : Nat} {v : Value} {d : DataW H} {p : List MemPlace}
set_option maxRecDepth 100000
theorem value_each (n : Nat) (cs : List Value) (x : DataW H × List MemPlace) (hl : cs.length = 3) (h : DataW.trod enc Try.prog W 0 (fun _ => true) true n 39 cs = some x) : ∃ m : T_api_Value, CellsOf W e_api_Value m cs := by
  obtain ⟨c0, c1, c2, rfl⟩ := list3 hl
  obtain ⟨y0, y1, y2, n', _, _, h0, h1, h2⟩ := trod_struct3 Try.underlying39 h
  have e : Try.prog.cellsOf 3 = 1 := by kernel_rfl
  have e' : Try.prog.cellsOf 9 = 1 := by kernel_rfl
  simp only [e, e', List.drop_zero, List.take_succ_cons, List.take_zero, List.drop_succ_cons] at h0 h1 h2
  obtain ⟨z0, rfl⟩ := icell_open h0
  obtain ⟨z1, rfl⟩ := icell_open h1
  obtain ⟨s, e2, _⟩ := DataW.trod_string Try.underlying9 h2
  simp only [List.cons.injEq, and_true] at e2
  subst e2
  refine ⟨⟨z0, z1, s⟩, rfl, fun j hj => ?_⟩
  have hj' : j < 3 := hj
  rcases j with _ | _ | _ | j
  · exact ⟨.int _ _, rfl⟩
  · exact ⟨.int _ _, rfl⟩
  · exact ⟨.str _, rfl⟩
  · omega
theorem list5 {l : List Value} (h : l.length = 5) : ∃ a b c d e, l = [a, b, c, d, e] := by
  match l, h with
  | [a, b, c, d, e], _ => exact ⟨a, b, c, d, e, rfl⟩
theorem event_each (n : Nat) (cs : List Value) (x : DataW H × List MemPlace) (hl : cs.length = 5) (h : DataW.trod enc Try.prog W 0 (fun _ => true) true n 41 cs = some x) : ∃ m : T_api_Event, CellsOf W e_api_Event m cs := by
  obtain ⟨c0, c1, c2, c3, c4, rfl⟩ := list5 hl
  obtain ⟨u0, u1, u2, u3, u4, n'', _, g0, g1, g2, g3, g4⟩ := trod_struct5 Try.underlying41 h
  have e : Try.prog.cellsOf 3 = 1 := by kernel_rfl
  have e'' : Try.prog.cellsOf 26 = 1 := by kernel_rfl
  simp only [e, e'', List.drop_zero, List.take_succ_cons, List.take_zero, List.drop_succ_cons] at g0 g1 g2 g3 g4
  obtain ⟨z1, rfl⟩ := icell_open g0
  obtain ⟨z2, rfl⟩ := icell_open g1
  obtain ⟨z3, rfl⟩ := icell_open g2
  obtain ⟨z4, rfl⟩ := icell_open g3
  obtain ⟨vs, hv⟩ := sl_open (a := e_api_Value) (sz := 3) Try.underlying26 (by kernel_rfl) (by omega) inferInstance (fun _ => rfl) value_each g4
  refine ⟨⟨z1, z2, z3, z4, vs⟩, rfl, fun j hj => ?_⟩
  have hj' : j < 5 := hj
  rcases j with _ | _ | _ | _ | _ | j
  · exact ⟨.int _ _, rfl⟩
  · exact ⟨.int _ _, rfl⟩
  · exact ⟨.int _ _, rfl⟩
  · exact ⟨.int _ _, rfl⟩
  · exact ⟨hv, hv.one_sl⟩
  · omega
theorem evs_open (hv : Value.okWide Try.prog W .any base 22 v) (h : DataW.Trod enc Try.prog W 0 (fun _ => true) true 22 v d p) : ∃ l : List T_api_Event, Rep W (fun _ => True) G0 (.sl 5 (l.map e_api_Event)) v :=
  slArg_open Try.underlying22 (by kernel_rfl) (by omega) inferInstance (fun _ => rfl) event_each hv h
theorem ints_open (hv : Value.okWide Try.prog W .any base 23 v) (h : DataW.Trod enc Try.prog W 0 (fun _ => true) true 23 v d p) : ∃ l : List Int, Rep W (fun _ => True) G0 (.sl 1 (l.map aI)) v :=
  slArg_open Try.underlying23 (by kernel_rfl) (by omega) inferInstance (fun _ => rfl) int_each hv h
end
end Go.Proofs.Ytkbopbgcjfcjjaa
namespace Go.Proofs.Ytkbopbgcjfcjjaa
open Go.ChangeShapes Go.WideShapes Go.ChangeAt Go.RowKit Go.Joins Go.Deep

section
variable {H : Type} {enc : TypeId × Value → H} {W : World} {base : Nat} {v : Value} {d : DataW H} {p : List MemPlace}
set_option maxRecDepth 100000
end
end Go.Proofs.Ytkbopbgcjfcjjaa
namespace Go.Proofs.Ytkbopbgcjfcjjaa
open Go.RowKit
def R_event_Ref_d (r : T_api_Ref) : AV := .agg [aI (r.fTime), aI (r.fSource), aI (r.fSeq)]
theorem con_event_Ref_d {n : Nat} {a0 : T_api_Event} {r : T_api_Ref} (hF : F_event_Ref_d n a0 = some r) : Con E0d true 57 [.agg [aI (a0.fSource), aI (a0.fSeq), aI (a0.fType), aI (a0.fTime), .sl 3 (List.map e_api_Value (a0.fValues))]] (R_event_Ref_d r) := by
  unfold F_event_Ref_d at hF
  refine Con.walk _ Try.func57 rfl (enters_of Try.func57 rfl rfl) rfl (Or.inr rfl) ?_
  repeat' first
    | (refine AW.step ?_; conv => whnf)
    | (refine CondX.o hF (fun hF => ?_) (fun hF => ?_))
    | (refine CondX.t ?_)
    | (refine CondX.f ?_)
    | (refine And.intro ⟨by kernel_rfl, by kernel_rfl⟩ ?_)
    | (refine EqX.mk (by first | rfl | kernel_rfl) ?_)
    | (exact RetX.o hF (by repeat' first | exact Sub.nil _ | exact Sub.refl _ | refine Sub.agg ?_ | refine Sub.tup ?_ | refine Sub.fn ?_ | exact SubL.nil | refine SubL.cons ?_ ?_ | refine Sub.sl _ ?_ | exact SubE.nil | refine SubE.cons ?_ ?_))

def R_cmp_isNaN_d (r : Bool) : AV := .bool (r)
theorem con_cmp_isNaN_d {n : Nat} {a0 : Int} {r : Bool} (hF : F_cmp_isNaN_d n a0 = some r) : Con E0d true 69 [aI (a0)] (R_cmp_isNaN_d r) := by
  unfold F_cmp_isNaN_d at hF
  refine Con.walk _ Try.func69 rfl (enters_of Try.func69 rfl rfl) rfl (Or.inr rfl) ?_
  repeat' first
    | (refine AW.step ?_; conv => whnf)
    | (refine CondX.o hF (fun hF => ?_) (fun hF => ?_))
    | (refine CondX.t ?_)
    | (refine CondX.f ?_)
    | (refine And.intro ⟨by kernel_rfl, by kernel_rfl⟩ ?_)
    | (refine EqX.mk (by first | rfl | kernel_rfl) ?_)
    | (exact RetX.o hF (by repeat' first | exact Sub.nil _ | exact Sub.refl _ | refine Sub.agg ?_ | refine Sub.tup ?_ | refine Sub.fn ?_ | exact SubL.nil | refine SubL.cons ?_ ?_ | refine Sub.sl _ ?_ | exact SubE.nil | refine SubE.cons ?_ ?_))

def R_cmp_Compare_d (r : Int) : AV := aI (r)
theorem con_cmp_Compare_d {n : Nat} {a0 : Int} {a1 : Int} {r : Int} (hF : F_cmp_Compare_d n a0 a1 = some r) : Con E0d true 49 [aI (a0), aI (a1)] (R_cmp_Compare_d r) := by
  unfold F_cmp_Compare_d at hF
  refine Con.walk _ Try.func49 rfl (enters_of Try.func49 rfl rfl) rfl (Or.inr rfl) ?_
  repeat' first
    | (refine AW.step ?_; conv => whnf)
    | (refine CondX.o hF (fun hF => ?_) (fun hF => ?_))
    | (refine CondX.t ?_)
    | (refine CondX.f ?_)
    | (refine CallX.o hF R_cmp_isNaN_d (fun a h => con_cmp_isNaN_d h) (fun a hF => ?_))
    | (refine And.intro ⟨by kernel_rfl, by kernel_rfl⟩ ?_)
    | (refine EqX.mk (by first | rfl | kernel_rfl) ?_)
    | (exact RetX.o hF (by repeat' first | exact Sub.nil _ | exact Sub.refl _ | refine Sub.agg ?_ | refine Sub.tup ?_ | refine Sub.fn ?_ | exact SubL.nil | refine SubL.cons ?_ ?_ | refine Sub.sl _ ?_ | exact SubE.nil | refine SubE.cons ?_ ?_))

def S_cmp_Or_d_l1 (a0 : (List Int)) (v1_0 : Int) : AS := ⟨[(3, aI (0)), (6, .sl 1 (List.map aI (a0))), (7, aI ((((List.map aI (a0)).length : Nat) : Int))), (8, aI (v1_0))], []⟩
theorem cmp_Or_d_l1_o {n N : Nat} {a0 : (List Int)} {k1_0_0 : Option (Int)} {R : Exit → AS → Prop} {K : List KItem} {c : Code} {σ : AS} {v0 : Int} {r : Int} (hF : F_cmp_Or_d_l1 n a0 k1_0_0 N v0 = some r) (hl : LeX E0d 18 σ (S_cmp_Or_d_l1 a0 v0)) (round : ∀ m v, F_cmp_Or_d_l1 n a0 k1_0_0 (m + 1) v = some r → AW E0d 18 (thenA (fun σ' => ∃ v', F_cmp_Or_d_l1 n a0 k1_0_0 m v' = some r ∧ LeX E0d 18 σ' (S_cmp_Or_d_l1 a0 v')) (AW E0d 18 R K)) [.code c] .normal (S_cmp_Or_d_l1 a0 v)) : LoopX E0d 18 (fun next σ' => AW E0d 18 (thenA next (AW E0d 18 R K)) [.code c] .normal σ') σ :=
  LoopA.o (S := S_cmp_Or_d_l1 a0) hF (fun _ => rfl) hl round
def R_cmp_Or_d (r : Int) : AV := aI (r)
theorem con_cmp_Or_d {n : Nat} {a0 : (List Int)} {r : Int} (hF : F_cmp_Or_d n a0 = some r) : Con E0d true 58 [.sl 1 (List.map aI (a0))] (R_cmp_Or_d r) := by
  unfold F_cmp_Or_d at hF
  refine Con.walk _ Try.func58 rfl (enters_of Try.func58 rfl rfl) rfl (Or.inr rfl) ?_
  repeat' first
    | (refine AW.step ?_; conv => whnf)
    | (refine CondX.o hF (fun hF => ?_) (fun hF => ?_))
    | (refine CondX.t ?_)
    | (refine CondX.f ?_)
    | (refine IdxX.o aI hF (fun x hF => ?_))
    | (exact ⟨_, hF, LeX.of [] rfl ⟨⟨rfl, rfl⟩, ⟨rfl, rfl⟩, ⟨rfl, rfl⟩, ⟨rfl, rfl⟩, trivial⟩ trivial⟩)
    | (refine cmp_Or_d_l1_o hF (LeX.of [] rfl ⟨⟨rfl, rfl⟩, ⟨rfl, rfl⟩, ⟨rfl, rfl⟩, ⟨rfl, rfl⟩, trivial⟩ trivial) (fun m v hF => ?_); unfold F_cmp_Or_d_l1 at hF)
    | (refine And.intro ⟨by kernel_rfl, by kernel_rfl⟩ ?_)
    | (refine EqX.mk (by first | rfl | kernel_rfl) ?_)
    | (exact RetX.o hF (by repeat' first | exact Sub.nil _ | exact Sub.refl _ | refine Sub.agg ?_ | refine Sub.tup ?_ | refine Sub.fn ?_ | exact SubL.nil | refine SubL.cons ?_ ?_ | refine Sub.sl _ ?_ | exact SubE.nil | refine SubE.cons ?_ ?_))

def R_event_Compare_d (r : Int) : AV := aI (r)
theorem con_event_Compare_d {n : Nat} {a0 : T_api_Event} {a1 : T_api_Event} {r : Int} (hF : F_event_Compare_d n a0 a1 = some r) : Con E0d true 40 [.agg [aI (a0.fSource), aI (a0.fSeq), aI (a0.fType), aI (a0.fTime), .sl 3 (List.map e_api_Value (a0.fValues))], .agg [aI (a1.fSource), aI (a1.fSeq), aI (a1.fType), aI (a1.fTime), .sl 3 (List.map e_api_Value (a1.fValues))]] (R_event_Compare_d r) := by
  unfold F_event_Compare_d at hF
  refine Con.walk _ Try.func40 rfl (enters_of Try.func40 rfl rfl) rfl (Or.inr rfl) ?_
  repeat' first
    | (refine AW.step ?_; conv => whnf)
    | (refine CondX.o hF (fun hF => ?_) (fun hF => ?_))
    | (refine CondX.t ?_)
    | (refine CondX.f ?_)
    | (refine CallX.o hF R_event_Ref_d (fun a h => con_event_Ref_d h) (fun a hF => ?_))
    | (refine CallX.o hF R_cmp_Compare_d (fun a h => con_cmp_Compare_d h) (fun a hF => ?_))
    | (refine CallX.o hF R_cmp_Or_d (fun a h => con_cmp_Or_d h) (fun a hF => ?_))
    | (refine And.intro ⟨by kernel_rfl, by kernel_rfl⟩ ?_)
    | (refine EqX.mk (by first | rfl | kernel_rfl) ?_)
    | (exact RetX.o hF (by repeat' first | exact Sub.nil _ | exact Sub.refl _ | refine Sub.agg ?_ | refine Sub.tup ?_ | refine Sub.fn ?_ | exact SubL.nil | refine SubL.cons ?_ ?_ | refine Sub.sl _ ?_ | exact SubE.nil | refine SubE.cons ?_ ?_))

def R_value_Compare_1_d (r : Int) : AV := aI (r)
theorem con_value_Compare_1_d {n : Nat} {a0 : T_api_Value} {a1 : T_api_Value} {r : Int} (hF : F_value_Compare_1_d n a0 a1 = some r) : Con E0d true 48 [.agg [aI (a0.fKind), aI (a0.fNum), .str (a0.fText)], .agg [aI (a1.fKind), aI (a1.fNum), .str (a1.fText)]] (R_value_Compare_1_d r) := by
  unfold F_value_Compare_1_d at hF
  refine Con.walk _ Try.func48 rfl (enters_of Try.func48 rfl rfl) rfl (Or.inr rfl) ?_
  repeat' first
    | (refine AW.step ?_; conv => whnf)
    | (refine CondX.o hF (fun hF => ?_) (fun hF => ?_))
    | (refine CondX.t ?_)
    | (refine CondX.f ?_)
    | (refine CallX.o hF R_cmp_Compare_d (fun a h => con_cmp_Compare_d h) (fun a hF => ?_))
    | (refine And.intro ⟨by kernel_rfl, by kernel_rfl⟩ ?_)
    | (refine EqX.mk (by first | rfl | kernel_rfl) ?_)
    | (exact RetX.o hF (by repeat' first | exact Sub.nil _ | exact Sub.refl _ | refine Sub.agg ?_ | refine Sub.tup ?_ | refine Sub.fn ?_ | exact SubL.nil | refine SubL.cons ?_ ?_ | refine Sub.sl _ ?_ | exact SubE.nil | refine SubE.cons ?_ ?_))

def R_value_Compare_2_d (r : Int) : AV := aI (r)
theorem con_value_Compare_2_d {n : Nat} {a0 : T_api_Value} {a1 : T_api_Value} {r : Int} (hF : F_value_Compare_2_d n a0 a1 = some r) : Con E0d true 50 [.agg [aI (a0.fKind), aI (a0.fNum), .str (a0.fText)], .agg [aI (a1.fKind), aI (a1.fNum), .str (a1.fText)]] (R_value_Compare_2_d r) := by
  unfold F_value_Compare_2_d at hF
  refine Con.walk _ Try.func50 rfl (enters_of Try.func50 rfl rfl) rfl (Or.inr rfl) ?_
  repeat' first
    | (refine AW.step ?_; conv => whnf)
    | (refine CondX.o hF (fun hF => ?_) (fun hF => ?_))
    | (refine CondX.t ?_)
    | (refine CondX.f ?_)
    | (refine CallX.o hF R_cmp_Compare_d (fun a h => con_cmp_Compare_d h) (fun a hF => ?_))
    | (refine And.intro ⟨by kernel_rfl, by kernel_rfl⟩ ?_)
    | (refine EqX.mk (by first | rfl | kernel_rfl) ?_)
    | (exact RetX.o hF (by repeat' first | exact Sub.nil _ | exact Sub.refl _ | refine Sub.agg ?_ | refine Sub.tup ?_ | refine Sub.fn ?_ | exact SubL.nil | refine SubL.cons ?_ ?_ | refine Sub.sl _ ?_ | exact SubE.nil | refine SubE.cons ?_ ?_))

def S_value_Compare_d_l1 (a1 : T_api_Value) (a0 : T_api_Value) (v1_0 : Int) : AS := ⟨[(2, .ptr 2 0), (3, .ptr 3 0), (8, .sl 1 [.fn 48 [], .fn 50 []]), (9, aI (2)), (10, aI (v1_0))], [(2, .box 39 [aI (a0.fKind), aI (a0.fNum), .str (a0.fText)]), (3, .box 39 [aI (a1.fKind), aI (a1.fNum), .str (a1.fText)])]⟩
theorem value_Compare_d_l1_o {n N : Nat} {a1 : T_api_Value} {a0 : T_api_Value} {k1_0_0 : Option (Int)} {R : Exit → AS → Prop} {K : List KItem} {c : Code} {σ : AS} {v0 : Int} {r : Int} (hF : F_value_Compare_d_l1 n a1 a0 k1_0_0 N v0 = some r) (hl : LeX E0d 27 σ (S_value_Compare_d_l1 a1 a0 v0)) (round : ∀ m v, F_value_Compare_d_l1 n a1 a0 k1_0_0 (m + 1) v = some r → AW E0d 27 (thenA (fun σ' => ∃ v', F_value_Compare_d_l1 n a1 a0 k1_0_0 m v' = some r ∧ LeX E0d 27 σ' (S_value_Compare_d_l1 a1 a0 v')) (AW E0d 27 R K)) [.code c] .normal (S_value_Compare_d_l1 a1 a0 v)) : LoopX E0d 27 (fun next σ' => AW E0d 27 (thenA next (AW E0d 27 R K)) [.code c] .normal σ') σ :=
  LoopA.o (S := S_value_Compare_d_l1 a1 a0) hF (fun _ => rfl) hl round
def R_value_Compare_d (r : Int) : AV := aI (r)
theorem con_value_Compare_d {n : Nat} {a0 : T_api_Value} {a1 : T_api_Value} {r : Int} (hF : F_value_Compare_d n a0 a1 = some r) : Con E0d true 28 [.agg [aI (a0.fKind), aI (a0.fNum), .str (a0.fText)], .agg [aI (a1.fKind), aI (a1.fNum), .str (a1.fText)]] (R_value_Compare_d r) := by
  unfold F_value_Compare_d at hF
  refine Con.walk _ Try.func28 rfl (enters_of Try.func28 rfl rfl) rfl (Or.inr rfl) ?_
  repeat' first
    | (refine AW.step ?_; conv => whnf)
    | (refine CondX.o hF (fun hF => ?_) (fun hF => ?_))
    | (refine CondX.t ?_)
    | (refine CondX.f ?_)
    | (refine CallX.o hF R_strCmp (fun a h => con_strCmp_d h) (fun a hF => ?_))
    | (refine IdxX.o2 hF (fun hF => ?_) (fun hF => ?_))
    | (refine CallX.o hF R_value_Compare_1_d (fun a h => con_value_Compare_1_d h) (fun a hF => ?_))
    | (exact ⟨_, hF, LeX.of [] rfl ⟨⟨rfl, rfl⟩, ⟨rfl, rfl⟩, ⟨rfl, rfl⟩, ⟨rfl, rfl⟩, ⟨rfl, rfl⟩, trivial⟩ ⟨⟨rfl, rfl⟩, ⟨rfl, rfl⟩, trivial⟩⟩)
    | (refine CallX.o hF R_value_Compare_2_d (fun a h => con_value_Compare_2_d h) (fun a hF => ?_))
    | (refine value_Compare_d_l1_o hF (LeX.of [] rfl ⟨⟨rfl, rfl⟩, ⟨rfl, rfl⟩, ⟨rfl, rfl⟩, ⟨rfl, rfl⟩, ⟨rfl, rfl⟩, trivial⟩ ⟨⟨rfl, rfl⟩, ⟨rfl, rfl⟩, trivial⟩) (fun m v hF => ?_); unfold F_value_Compare_d_l1 at hF)
    | (refine And.intro ⟨by kernel_rfl, by kernel_rfl⟩ ?_)
    | (refine EqX.mk (by first | rfl | kernel_rfl) ?_)
    | (exact RetX.o hF (by repeat' first | exact Sub.nil _ | exact Sub.refl _ | refine Sub.agg ?_ | refine Sub.tup ?_ | refine Sub.fn ?_ | exact SubL.nil | refine SubL.cons ?_ ?_ | refine Sub.sl _ ?_ | exact SubE.nil | refine SubE.cons ?_ ?_))

end Go.Proofs.Ytkbopbgcjfcjjaa
namespace Go.Proofs.Ytkbopbgcjfcjjaa
open Go.RowKit

section
variable {α β : Type}
theorem cnd_t (x y : Option β) : cnd true x y = x := by unfold cnd; rfl
theorem cnd_f (x y : Option β) : cnd false x y = y := by unfold cnd; rfl
theorem cnd_if (p : Prop) [Decidable p] (x y : Option β) : cnd (decide p) x y = if p then x else y := by
  by_cases h : p <;> simp [h, cnd_t, cnd_f]
theorem cnd_not (b : Bool) (x y : Option β) : cnd (!b) x y = cnd b y x := by cases b <;> simp [cnd_t, cnd_f]
theorem cnd_b (b : Bool) (x y : Option β) : cnd b x y = if b = true then x else y := by cases b <;> simp [cnd_t, cnd_f]
theorem bnd_some (a : α) (k : α → Option β) : bnd (some a) k = k a := by unfold bnd; rfl
theorem bndR_some (a : α) (k : α → Option β) : bndR (some a) k = k a := by unfold bndR; rfl
theorem bndC_some (a : α) (k : α → Option β) : bndC (some a) k = k a := by unfold bndC; rfl
theorem reg_eq (x : Option β) : reg x = x := by unfold reg; rfl
theorem frz_eq (i : Nat) (x : Option β) : frz i x = x := by unfold frz; rfl
theorem idx_nat {l : List α} {i : Nat} (h : i < l.length) (k : α → Option β) : idx l (i : Int) k = k l[i] := by
  unfold idx
  simp [h]
theorem idx_zero {x : α} {l : List α} (k : α → Option β) : idx (x :: l) 0 k = k x := by unfold idx; simp
theorem nat_nat {i len : Nat} (h : i < len) (k : Nat → Option β) : nat (i : Int) len k = k i := by
  unfold nat
  simp [h]
theorem elt_ok {l : List α} {m : Nat} (h : m < l.length) (k : α → Option β) : elt l m k = k l[m] := by unfold elt; simp [h]
theorem app_ok {l m : List α} {bytes : Nat} (h : l.length + m.length ≤ 1000000000) (hb : bytes ≤ 100000) (k : List α → Option β) : app l m bytes k = k (l ++ m) := by
  unfold app
  have h2 := Nat.mul_le_mul h hb
  rw [if_pos ⟨by omega, by omega⟩]
theorem mak_ok {n : Nat} {bytes : Nat} (h : n ≤ 1000000000) (hb : bytes ≤ 100000) (z : α) (k : List α → Option β) : mak (n : Int) bytes z k = k (List.replicate n z) := by
  unfold mak
  have h2 := Nat.mul_le_mul hb h
  rw [if_pos ⟨by omega, by simp only [Int.toNat_natCast]; omega, by simp only [Int.toNat_natCast]; omega⟩]
  simp only [Int.toNat_natCast]
theorem sls_ok {l : List α} {a b : Nat} (h1 : a ≤ b) (h2 : b ≤ l.length) (k : List α → Option β) : sls l (a : Int) (b : Int) k = k ((l.take b).drop a) := by
  unfold sls
  rw [if_pos (by omega)]
  simp
theorem shx_ok {b : Int} (h : 0 ≤ b) (x : Option β) : shx b x = x := by unfold shx; simp [h]
theorem wrapS (k : Nat) (h : k ≤ 1000000000000) : IntKind.wrap .i64 ((k : Int) + 1) = ((k + 1 : Nat) : Int) := by rw [wrap_in _ (by omega)]; omega
end
end Go.Proofs.Ytkbopbgcjfcjjaa
namespace Go.Proofs.Ytkbopbgcjfcjjaa
open Go.RowKit

theorem Con.lo {fr : Bool} {f : FuncId} {avs : List AV} {res : AV} (h : Con E0d fr f avs res) : Con E0 fr f avs res :=
  ⟨h.1, fun S w vs ha => (h.2 S w vs ha).mono fun e w' ⟨v, h1, h2, h3⟩ => ⟨v, h1, belE0 h2.1, h3⟩⟩

def cmpI (a b : Int) : Int := if a < b then -1 else if b < a then 1 else 0
def or3 (a b c : Int) : Int := if a = 0 then (if b = 0 then c else b) else a
theorem f_cmp (n : Nat) (a b : Int) : F_cmp_Compare_d n a b = some (cmpI a b) := by
  unfold F_cmp_Compare_d F_cmp_isNaN_d
  simp only [bnd_some, decide_true, Bool.not_true, cnd_f, cnd_if, cmpI]
  split
  · rfl
  · split <;> rfl
theorem f_or3 (n : Nat) (a b c : Int) : F_cmp_Or_d (n + 4) [a, b, c] = some (or3 a b c) := by
  have w0 : IntKind.wrap .i64 ((0 : Int) + 1) = 1 := by decide
  have w1 : IntKind.wrap .i64 ((1 : Int) + 1) = 2 := by decide
  have w2 : IntKind.wrap .i64 ((2 : Int) + 1) = 3 := by decide
  unfold F_cmp_Or_d or3
  simp only [F_cmp_Or_d_l1, List.map_cons, List.map_nil, List.length_cons, List.length_nil, cnd_if, cnd_not, w0, w1, w2]
  simp only [idx]
  by_cases ha : a = 0
  · by_cases hb : b = 0
    · by_cases hc : c = 0 <;> simp [ha, hb, hc]
    · simp [ha, hb]
  · simp [ha]
def evCmp (a b : T_api_Event) : Int := or3 (cmpI a.fTime b.fTime) (cmpI a.fSource b.fSource) (cmpI a.fSeq b.fSeq)
theorem f_evCmp (n : Nat) (a b : T_api_Event) : F_event_Compare_d (n + 4) a b = some (evCmp a b) := by
  unfold F_event_Compare_d F_event_Ref_d
  simp only [bnd_some, f_cmp, f_or3, Bool.and_true, cnd_b, Bool.and_eq_true, decide_eq_true_eq]
  split
  · rename_i h
    obtain ⟨h1, h2, h3⟩ := h
    simp [evCmp, or3, cmpI, h1, h2, h3]
  · rfl
theorem evCmp_lt (a b : T_api_Event) : evCmp a b < 0 ↔ a.fTime < b.fTime ∨ (a.fTime = b.fTime ∧ (a.fSource < b.fSource ∨ (a.fSource = b.fSource ∧ a.fSeq < b.fSeq))) := by
  unfold evCmp or3 cmpI
  split <;> split <;> (try split) <;> (try split) <;> (try split) <;> (try split) <;> omega
theorem evCmp_swo : Go.Sort.SWO (ltOf evCmp) := by
  have h : ∀ x y, ltOf evCmp x y = decide (x.fTime < y.fTime ∨ (x.fTime = y.fTime ∧ (x.fSource < y.fSource ∨ (x.fSource = y.fSource ∧ x.fSeq < y.fSeq)))) := fun x y => by
    unfold ltOf; exact decide_eq_decide.2 (evCmp_lt x y)
  refine ⟨fun x => ?_, fun x y z h1 h2 => ?_, fun x y z h1 h2 => ?_⟩ <;> simp only [h, decide_eq_true_eq, decide_eq_false_iff_not] at * <;> omega
def F_evCmp (n : Nat) (a b : T_api_Event) : Option Int := some (evCmp a b)
theorem con_evCmp_d (a b : T_api_Event) : Con E0d true 40 [e_api_Event a, e_api_Event b] (.int .i64 (evCmp a b)) := con_event_Compare_d (f_evCmp 6 a b)
theorem con_evCmp {n : Nat} {a b : T_api_Event} {r : Int} (hF : F_evCmp n a b = some r) : Con E0 true 40 [e_api_Event a, e_api_Event b] (R_event_Compare_d r) := by
  injection hF with hF; subst hF; exact (con_event_Compare_d (f_evCmp 6 a b)).lo
def F_cmpI (n : Nat) (a b : Int) : Option Int := some (cmpI a b)
theorem con_cmpI {n : Nat} {a b : Int} {r : Int} (hF : F_cmpI n a b = some r) : Con E0 true 49 [aI a, aI b] (R_cmp_Compare_d r) := by
  injection hF with hF; subst hF; exact (con_cmp_Compare_d (f_cmp 0 a b)).lo
theorem con_cmpOr {n : Nat} {l : List Int} {r : Int} (hF : F_cmp_Or_d n l = some r) : Con E0 true 58 [.sl 1 (List.map aI l)] (R_cmp_Or_d r) := (con_cmp_Or_d hF).lo
theorem sortEv_con {n : Nat} {l l' : List T_api_Event} (hF : F_sort evCmp n l = some l') : ConC true E0 55 [.row 0, .fn 40 []] 41 5 (l.map e_api_Event) 41 5 (l'.map e_api_Event) (.tup []) :=
  sort_gen (Ed := E0d) rfl rfl (enters_of Try.func55 rfl rfl) (enters_of Try.func40 rfl rfl) (by omega) (fun x => ⟨_, rfl, rfl⟩)
    (fun α _ enc hk h1 cf hO blk off cap d w hcmp hH hblk hsz => AnyQ.slices_SortFunc Try.laysSlF06_f55 5 Try.isAgg41 Try.sizeOf41 enc hk h1 cf hO 40 #[] blk off cap d w (enters_of Try.func40 rfl rfl) hcmp hH hblk hsz)
    (fun p cap fv w => AnyF.slices_SortFunc_none Try.laysSlF06_f55 p cap fv w) con_evCmp_d evCmp_swo hF
end Go.Proofs.Ytkbopbgcjfcjjaa
namespace Go.Proofs.Ytkbopbgcjfcjjaa
open Go.RowKit

abbrev cb := Lib.compareBytes
theorem ba_inj {a b : ByteArray} (h : a.data.toList = b.data.toList) : a = b := by
  obtain ⟨x⟩ := a
  obtain ⟨y⟩ := b
  have : x = y := by simpa using h
  rw [this]
theorem u8_tri (a b : UInt8) : a < b ∨ a = b ∨ b < a := by
  rcases Nat.lt_trichotomy a.toNat b.toNat with h | h | h
  · exact Or.inl h
  · exact Or.inr (Or.inl (UInt8.toNat_inj.1 h))
  · exact Or.inr (Or.inr h)
theorem u8_irr (a : UInt8) : ¬ a < a := Nat.lt_irrefl a.toNat
theorem u8_asym {a b : UInt8} (h : a < b) : ¬ b < a := Nat.lt_asymm (a := a.toNat) (b := b.toNat) h
theorem u8_trans {a b c : UInt8} (h : a < b) (k : b < c) : a < c := Nat.lt_trans (n := a.toNat) (m := b.toNat) (k := c.toNat) h k
theorem cb_cons (a b : UInt8) (x y : List UInt8) : cb (a :: x) (b :: y) = if a < b then -1 else if b < a then 1 else cb x y := rfl
theorem cb_zero : ∀ a b : List UInt8, cb a b = 0 ↔ a = b
  | [], [] => by simp [cb, Lib.compareBytes]
  | [], _ :: _ => by simp [cb, Lib.compareBytes]
  | _ :: _, [] => by simp [cb, Lib.compareBytes]
  | a :: x, b :: y => by
    rw [cb_cons]
    rcases u8_tri a b with h | h | h
    · rw [if_pos h]
      constructor
      · intro e; cases e
      · intro e; injection e with e; subst e; exact absurd h (u8_irr _)
    · subst h
      rw [if_neg (u8_irr a), if_neg (u8_irr a), cb_zero x y]
      simp
    · rw [if_neg (u8_asym h), if_pos h]
      constructor
      · intro e; cases e
      · intro e; injection e with e; subst e; exact absurd h (u8_irr _)
theorem cb_neg : ∀ a b : List UInt8, cb b a = - cb a b
  | [], [] => rfl
  | [], _ :: _ => rfl
  | _ :: _, [] => rfl
  | a :: x, b :: y => by
    rw [cb_cons, cb_cons]
    rcases u8_tri a b with h | h | h
    · rw [if_neg (u8_asym h), if_pos h, if_pos h]; rfl
    · subst h
      simp only [if_neg (u8_irr a)]
      exact cb_neg x y
    · rw [if_pos h, if_neg (u8_asym h), if_pos h]
theorem cb_trans : ∀ a b c : List UInt8, cb a b < 0 → cb b c < 0 → cb a c < 0
  | [], [], _, h, _ => by simp [cb, Lib.compareBytes] at h
  | [], _ :: _, [], _, k => by simp [cb, Lib.compareBytes] at k
  | [], _ :: _, _ :: _, _, _ => by simp [cb, Lib.compareBytes]
  | _ :: _, [], _, h, _ => by simp [cb, Lib.compareBytes] at h
  | _ :: _, _ :: _, [], _, k => by simp [cb, Lib.compareBytes] at k
  | a :: x, b :: y, c :: z, h, k => by
    rw [cb_cons] at h k ⊢
    rcases u8_tri a b with h1 | h1 | h1
    · rcases u8_tri b c with h2 | h2 | h2
      · rw [if_pos (u8_trans h1 h2)]; decide
      · subst h2; rw [if_pos h1]; decide
      · rw [if_neg (u8_asym h2), if_pos h2] at k; exact absurd k (by decide)
    · subst h1
      rw [if_neg (u8_irr a), if_neg (u8_irr a)] at h
      rcases u8_tri a c with h2 | h2 | h2
      · rw [if_pos h2]; decide
      · subst h2
        rw [if_neg (u8_irr a), if_neg (u8_irr a)] at k ⊢
        exact cb_trans x y z h k
      · rw [if_neg (u8_asym h2), if_pos h2] at k; exact absurd k (by decide)
    · rw [if_neg (u8_asym h1), if_pos h1] at h; exact absurd h (by decide)
theorem less_cb : ∀ a b : List UInt8, Op.bytesLess a b = decide (cb a b < 0)
  | [], [] => rfl
  | [], _ :: _ => rfl
  | _ :: _, [] => rfl
  | a :: x, b :: y => by
    rw [cb_cons]
    show (decide (a < b) || (a == b && Op.bytesLess x y)) = _
    rcases u8_tri a b with h | h | h
    · rw [if_pos h, decide_eq_true h]; rfl
    · subst h
      rw [if_neg (u8_irr a), if_neg (u8_irr a), decide_eq_false (u8_irr a), less_cb x y]
      simp
    · rw [if_neg (u8_asym h), if_pos h, decide_eq_false (u8_asym h)]
      have : (a == b) = false := by
        cases hb : a == b with
        | false => rfl
        | true => rw [eq_of_beq hb] at h; exact absurd h (u8_irr _)
      rw [this]
      rfl
theorem cb_one : ∀ a b : List UInt8, cb a b = -1 ∨ cb a b = 0 ∨ cb a b = 1
  | [], [] => Or.inr (Or.inl rfl)
  | [], _ :: _ => Or.inl rfl
  | _ :: _, [] => Or.inr (Or.inr rfl)
  | a :: x, b :: y => by
    rw [cb_cons]
    split
    · exact Or.inl rfl
    · split
      · exact Or.inr (Or.inr rfl)
      · exact cb_one x y
abbrev Va := T_api_Value
def vaCmp (a b : Va) : Int := or3 (cmpI a.fKind b.fKind) (cmpI a.fNum b.fNum) (cb a.fText.data.toList b.fText.data.toList)
theorem cmpI_zero (a b : Int) : cmpI a b = 0 ↔ a = b := by unfold cmpI; split <;> (try split) <;> omega
theorem vaCmp_zero (a b : Va) : vaCmp a b = 0 ↔ a = b := by
  unfold vaCmp or3
  obtain ⟨k, n, t⟩ := a
  obtain ⟨k', n', t'⟩ := b
  simp only [T_api_Value.mk.injEq]
  by_cases h1 : k = k'
  · rw [if_pos ((cmpI_zero _ _).2 h1)]
    by_cases h2 : n = n'
    · rw [if_pos ((cmpI_zero _ _).2 h2), cb_zero]
      constructor
      · intro h; exact ⟨h1, h2, ba_inj h⟩
      · intro h; rw [h.2.2]
    · rw [if_neg (fun h => h2 ((cmpI_zero _ _).1 h))]
      constructor
      · intro h; exact absurd ((cmpI_zero _ _).1 h) h2
      · intro h; exact absurd h.2.1 h2
  · rw [if_neg (fun h => h1 ((cmpI_zero _ _).1 h))]
    constructor
    · intro h; exact absurd ((cmpI_zero _ _).1 h) h1
    · intro h; exact absurd h.1 h1
theorem vaCmp_lt (a b : Va) : vaCmp a b < 0 ↔ a.fKind < b.fKind ∨ (a.fKind = b.fKind ∧ (a.fNum < b.fNum ∨ (a.fNum = b.fNum ∧ cb a.fText.data.toList b.fText.data.toList < 0))) := by
  unfold vaCmp or3 cmpI
  split <;> split <;> (try split) <;> (try split) <;> (try split) <;> (try split) <;> omega
theorem vaCmp_gt (a b : Va) : 0 < vaCmp a b ↔ vaCmp b a < 0 := by
  rw [vaCmp_lt, cb_neg]
  unfold vaCmp or3 cmpI
  split <;> split <;> (try split) <;> (try split) <;> (try split) <;> (try split) <;> omega
theorem vaCmp_irr (a : Va) : ¬ vaCmp a a < 0 := by rw [(vaCmp_zero a a).2 rfl]; decide
theorem vaCmp_trans {a b c : Va} (h : vaCmp a b < 0) (k : vaCmp b c < 0) : vaCmp a c < 0 := by
  rw [vaCmp_lt] at h k ⊢
  have := cb_trans a.fText.data.toList b.fText.data.toList c.fText.data.toList
  omega
theorem vaCmp_tri (a b : Va) : vaCmp a b < 0 ∨ a = b ∨ vaCmp b a < 0 := by
  rcases Int.lt_trichotomy (vaCmp a b) 0 with h | h | h
  · exact Or.inl h
  · exact Or.inr (Or.inl ((vaCmp_zero a b).1 h))
  · exact Or.inr (Or.inr ((vaCmp_gt a b).1 h))
theorem vaCmp_swo : Go.Sort.SWO (ltOf vaCmp) := by
  have h : ∀ x y, ltOf vaCmp x y = decide (vaCmp x y < 0) := fun x y => rfl
  refine ⟨fun x => ?_, fun x y z h1 h2 => ?_, fun x y z h1 h2 => ?_⟩ <;> simp only [h, decide_eq_true_eq, decide_eq_false_iff_not] at *
  · exact vaCmp_irr x
  · exact vaCmp_trans h1 h2
  · intro h3
    rcases vaCmp_tri y x with h | h | h
    · rcases vaCmp_tri z y with k | k | k
      · exact vaCmp_irr x (vaCmp_trans (vaCmp_trans h3 k) h)
      · subst k; exact h1 h3
      · exact h2 k
    · subst h; exact h2 h3
    · exact h1 h
theorem vaCmp_ties (l : List Va) : ∀ x ∈ l, ∀ y ∈ l, ltOf vaCmp x y = false → ltOf vaCmp y x = false → x = y := fun x _ y _ h1 h2 => by
  have h1 : ¬ vaCmp x y < 0 := of_decide_eq_false h1
  have h2 : ¬ vaCmp y x < 0 := of_decide_eq_false h2
  rcases vaCmp_tri x y with h | h | h
  · exact absurd h h1
  · exact h
  · exact absurd h h2
theorem f_vaCmp (n : Nat) (hn : 3 ≤ n) (a b : Va) : F_value_Compare_d n a b = some (vaCmp a b) := by
  obtain ⟨m, rfl⟩ : ∃ m, n = m + 3 := ⟨n - 3, by omega⟩
  have w0 : IntKind.wrap .i64 ((0 : Int) + 1) = 1 := by decide
  have w1 : IntKind.wrap .i64 ((1 : Int) + 1) = 2 := by decide
  unfold F_value_Compare_d vaCmp or3
  simp only [F_value_Compare_d_l1, F_value_Compare_1_d, F_value_Compare_2_d, f_cmp, bnd_some, cnd_if, F_strCmp, w0, w1]
  by_cases h1 : cmpI a.fKind b.fKind = 0
  · by_cases h2 : cmpI a.fNum b.fNum = 0
    · simp [h1, h2, cnd_t, cnd_f, cb]
    · simp [h1, h2, cnd_t, cnd_f]
  · simp [h1, cnd_t, cnd_f]
theorem con_vaCmp_d (a b : Va) : Con E0d true 28 [e_api_Value a, e_api_Value b] (.int .i64 (vaCmp a b)) := con_value_Compare_d (f_vaCmp 6 (by omega) a b)
theorem sortVa_con {n : Nat} {l l' : List Va} (hF : F_sort vaCmp n l = some l') : ConC true E0 27 [.row 0, .fn 28 []] 39 3 (l.map e_api_Value) 39 3 (l'.map e_api_Value) (.tup []) :=
  sort_gen (Ed := E0d) rfl rfl (enters_of Try.func27 rfl rfl) (enters_of Try.func28 rfl rfl) (by omega) (fun x => ⟨_, rfl, rfl⟩)
    (fun α _ enc hk h1 cf hO blk off cap d w hcmp hH hblk hsz => AnyQ.slices_SortFunc Try.laysSlF06_f27 3 Try.isAgg39 Try.sizeOf39 enc hk h1 cf hO 28 #[] blk off cap d w (enters_of Try.func28 rfl rfl) hcmp hH hblk hsz)
    (fun p cap fv w => AnyF.slices_SortFunc_none Try.laysSlF06_f27 p cap fv w) con_vaCmp_d vaCmp_swo hF
end Go.Proofs.Ytkbopbgcjfcjjaa
namespace Go.Proofs.Ytkbopbgcjfcjjaa
open Go.RowKit

section
variable {P : Program}
end
section
variable {cx : Cx} {o : Oper} {σ : AS}
end
end Go.Proofs.Ytkbopbgcjfcjjaa
namespace Go.Proofs.Ytkbopbgcjfcjjaa
open Go.RowKit

section
variable {cx : Cx} {o : Oper} {σ : AS}
theorem row_val {γ : Gam} {τ : AS} {a : Act} {w : World} {id : Nat} {ty sz : Nat} {xs : List AV} (hst : StG cx γ τ a w) (hl : τ.find id = some (.row ty sz xs)) :
    ∃ s vs, γ id = some (some (s.ownBlock, s)) ∧ s.oneCell' = true ∧ w.ownsRow cx.w0.heap.size ty sz s xs.length vs ∧ (∀ k (hk : k < xs.length), (xs[k]).cells.length = sz) ∧
      (∀ k (hk : k < xs.length) j (hj : j < (xs[k]).cells.length), Rep w (Sg cx.S0 cx.w0.heap.size γ) G0 ((xs[k]).cells[j]) (vs.getD (k * sz + j) undef)) ∧ ∀ u ∈ vs, u.oneCell' = true := by
  have hme := hst.me id
  rw [hl] at hme
  obtain ⟨d, hd', s, vs, hde, h1, hown, hlen, hr, hone⟩ := hme
  subst hde
  exact ⟨s, vs, hd', h1, hown, hlen, hr, hone⟩
theorem r_slice_sub {T e esz eb ty id lo : Nat} {x y : Operand} {i : TyI} {k : IntKind} {xs : List AV} (ho : o.op = .slice T x (some y) none none) (hd : dok cx o = true) (hxo : opdOk x = true) (hyo : opdOk y = true) (hx : σ.eval x = .row id) (hy : σ.eval y = .int k (lo : Int)) (hT : lkT cx.E.tab T = some i) (hs : i.shape = .slc e esz eb) (hz : esz ≠ 0)
    (hl : σ.find id = some (.row ty esz xs)) (hlo : lo ≤ xs.length) : OpRule cx o σ (.der (.sub esz lo) id) [id] [] :=
  rule_val hd fun τ γ a w hh1 hh2 hst => by
    obtain ⟨m1, m2, m3⟩ := slice_mem ho
    have hev := hst.ev x hxo
    rw [hh1 x m1, hx] at hev
    obtain ⟨hu, hce, _⟩ := und_slc (cx.E.ok T i hT) hs
    have hsz := size_of_cells hce hz w
    obtain ⟨s, us, hd', hone1, hown, _⟩ := row_val (id := id) hst (by rw [hh2 id (by simp)]; exact hl)
    have hB : ∀ c, xs.length ≤ c → (Instr.sliceBounds true xs.length c (some (a.eval y)) none none).run cx.P w = .ok (lo, xs.length, c) w := fun c hc =>
      bounds_run (σ := σ) (l := lo) (h := xs.length) (c := c) (n := xs.length) (lo := some y) (hi := none) hst hyo rfl (fun z hz => hh1 z (m2 z hz)) (fun z hz => by cases hz) (by simp [bndA, hy]) (by simp [bndA]) hlo hc
    rcases hown.2 with ⟨hv, h0⟩ | ⟨g, cap, cur, hv, _, _, hn2, _⟩
    · have hx0 : xs.length = 0 := h0
      have hl0 : lo = 0 := by omega
      have hB := hB 0 (by omega)
      rw [hx0] at hB
      subst hv
      refine ⟨.slice none 0 0, ?_, .der hd' (fun g s e => by injection e with e; injection e with _ e; subst e; rfl)⟩
      simp only [execOp, ho, hev.row_inv hd', Option.map_none, Option.map_some, Sem.run_bind, Sem.run_pure, Result.andThen_ok]
      simp [Instr.sliceAt, Instr.slice, run_underlying hu, hB, hsz, pure]
    · have hB := hB cap hn2
      subst hv
      refine ⟨.slice (some (if cap = lo then ⟨g, 0, none⟩ else ⟨g, 0 + lo * esz, none⟩)) (xs.length - lo) (cap - lo), ?_, .der hd' (fun g s e => by injection e with e; injection e with _ e; subst e; rfl)⟩
      simp only [execOp, ho, hev.row_inv hd', Option.map_none, Option.map_some, Sem.run_bind, Sem.run_pure, Result.andThen_ok]
      simp [Instr.sliceAt, Instr.slice, run_underlying hu, hB, hsz, pure, Addr.add_lit]
      split <;> rfl
theorem sub_val {γ : Gam} {τ : AS} {a : Act} {w : World} {id ty sz lo : Nat} {xs : List AV} {v : Value} (hst : StG cx γ τ a w) (hl : τ.find id = some (.row ty sz xs)) (hv : Rep w (Sg cx.S0 cx.w0.heap.size γ) γ (.der (.sub sz lo) id) v) (hlo : lo < xs.length) :
    ∃ g cap cur us, γ id = some (some (some g, .slice (some ⟨g, 0, none⟩) xs.length cap)) ∧ v = .slice (some ⟨g, lo * sz, none⟩) (xs.length - lo) (cap - lo) ∧ xs.length ≤ cap ∧ w.ownsRow cx.w0.heap.size ty sz (.slice (some ⟨g, 0, none⟩) xs.length cap) xs.length us ∧ w.heap[g]? = some (.cells cur ty (0, 0)) ∧ cur.size = cap * sz ∧ cur.toList.take (xs.length * sz) = us ∧ (∀ k (hk : k < xs.length), (xs[k]).cells.length = sz) ∧
      (∀ k (hk : k < xs.length) j (hj : j < (xs[k]).cells.length), Rep w (Sg cx.S0 cx.w0.heap.size γ) G0 ((xs[k]).cells[j]) (us.getD (k * sz + j) undef)) ∧ ∀ u ∈ us, u.oneCell' = true := by
  obtain ⟨s, us, hd', hone1, hown, hlen, hr, hone⟩ := row_val hst hl
  have hown0 := hown
  rcases hown.2 with ⟨hs, h0⟩ | ⟨g, cap, cur, hs, _, hh, hn2, _, hcs, htk⟩
  · omega
  · subst hs
    refine ⟨g, cap, cur, us, hd', ?_, hn2, hown0, hh, hcs, htk, hlen, hr, hone⟩
    rw [hv.der_inv hd']
    have : ¬ cap = lo := by omega
    simp [Dv.of, this]
theorem zeroCells_get (z : Array Value) (n q j : Nat) (hq : q < n) (hj : j < z.size) : (Builtin.zeroCells z n).toList.getD (q * z.size + j) undef = z.getD j undef := by
  have hlt : q * z.size + j < n * z.size := by
    have : (q + 1) * z.size ≤ n * z.size := Nat.mul_le_mul_right _ hq
    rw [Nat.succ_mul] at this
    omega
  have hmod : (q * z.size + j) % z.size = j := by rw [Nat.mul_comm, Nat.mul_add_mod, Nat.mod_eq_of_lt hj]
  rw [List.getD_eq_getElem?_getD]
  simp [Builtin.zeroCells, hlt, hmod, Array.getD, hj]
def clrL {α : Type} (l : List α) (lo : Nat) (z : α) : List α := l.take lo ++ List.replicate (l.length - lo) z
theorem clrL_length {α : Type} (l : List α) (lo : Nat) (z : α) (h : lo ≤ l.length) : (clrL l lo z).length = l.length := by simp [clrL]; omega
theorem clrL_map {α β : Type} (f : α → β) (l : List α) (lo : Nat) (z : α) : clrL (l.map f) lo (f z) = (clrL l lo z).map f := by simp [clrL]
theorem r_clear_sub {T id e esz eb lo : Nat} {x : Operand} {i ie : TyI} {xs : List AV} (ho : o.op = .call { callee := .builtin .clear, args := #[x], argTypes := #[T] }) (hd : dok cx o = true) (hxo : opdOk x = true) (hx : σ.eval x = .der (.sub esz lo) id) (hl : σ.find id = some (.row e esz xs)) (hT : lkT cx.E.tab T = some i) (hs : i.shape = .slc e esz eb) (he : lkT cx.E.tab e = some ie) (hz : esz ≠ 0)
    (hzo : zeroOk ie = true) (hone0 : ie.zero.cells.all (·.oneCell') = true) (hlo : lo ≤ xs.length) : OpRule cx o σ (.tup []) [id] [(id, .row e esz (clrL xs lo (zeroA ie)))] := by
  refine ⟨fun id e he => lkE_one he, fun τ h1 h2 a w Q K ⟨γ, hst⟩ hK => wp_in (fun c hc => by rw [ho] at hc; cases hc) ?_⟩
  have hev := hst.ev x hxo
  rw [h1 x (by simp [ho, Op.operands, Call.operands]), hx] at hev
  obtain ⟨hu, hce, _⟩ := und_slc (cx.E.ok T i hT) hs
  have hok := cx.E.ok e ie he
  have hsz : ie.sz = esz := hok.cells.symm.trans hce
  obtain ⟨hzc, hzs⟩ := zeroA_cells hzo
  have hzs' : ie.zero.cells.size = esz := hzs.trans hsz
  have hcl : (zeroA ie).cells.length = esz := by rw [hzc, List.length_map, Array.length_toList, hzs']
  have hall : ∀ v ∈ ie.zero.cells, v.oneCell' = true := by
    rw [Array.all_eq_true_iff_forall_mem] at hone0
    exact hone0
  have hf : τ.find id = some (.row e esz xs) := by rw [h2 id (by simp)]; exact hl
  have hlen' := clrL_length xs lo (zeroA ie) hlo
  unfold Oper.wp
  by_cases hlt : lo < xs.length
  · obtain ⟨g, cap, cur, us, hd', ex, hcap, hown, hh, hcs, htk, hlen, hr, hone⟩ := sub_val (id := id) hst hf hev hlt
    have hown0 := hown
    obtain ⟨hul, _⟩ := hown
    have hnl : (Builtin.zeroCells ie.zero.cells (xs.length - lo)).toList.length = (xs.length - lo) * esz := by simp [Builtin.zeroCells, hzs']
    have hadd : lo * esz + (xs.length - lo) * esz = xs.length * esz := by rw [← Nat.add_mul]; congr 1; omega
    have hcapm : xs.length * esz ≤ cap * esz := Nat.mul_le_mul_right _ hcap
    have hz1 : ∀ v ∈ (Builtin.zeroCells ie.zero.cells (xs.length - lo)).toList, v.oneCell' = true := fun v hv => by
      obtain ⟨q, hq, rfl⟩ := List.mem_iff_getElem.1 hv
      rw [hnl] at hq
      have hpos : 0 < ie.zero.cells.size := by omega
      have hmod := Nat.mod_lt q hpos
      simp only [Builtin.zeroCells, Array.toList_map, List.getElem_map, Array.getElem_toList, Array.getElem_range]
      rw [getElem!_pos ie.zero.cells _ hmod]
      exact hall _ (Array.getElem_mem _)
    have hrun := run_storeCells_at cx.P g (lo * esz) e (Builtin.zeroCells ie.zero.cells (xs.length - lo)).toList 0 cur w hh (by rw [hnl]; omega) hz1
    simp only [Nat.add_zero, hnl] at hrun
    generalize hnw : (Builtin.zeroCells ie.zero.cells (xs.length - lo)).toList = news at hrun hnl hz1
    generalize hcur' : (cur.toList.take (lo * esz) ++ news ++ cur.toList.drop (lo * esz + (xs.length - lo) * esz)).toArray = cur' at hrun
    have hne : xs.length - lo ≠ 0 := by omega
    have hrun1 : (Builtin.clear_ #[T] 0 #[a.eval x]).run cx.P w = .ok (.tuple #[]) (w.setRow g cur') := by
      obtain ⟨m, hm⟩ : ∃ m, xs.length - lo = m + 1 := ⟨xs.length - lo - 1, by omega⟩
      rw [hm] at hnw ex
      simp only [Builtin.clear_, ex]
      simp [run_underlying hu, hok.zeroV w, hnw, hrun, pure]
    have hty : ∀ ty, (Builtin.clear_ #[T] ty #[a.eval x]) = (Builtin.clear_ #[T] 0 #[a.eval x]) := fun ty => rfl
    have hex : (execOp a.eval o).run cx.P w = .ok (.value (.tuple #[])) (w.setRow g cur') := by
      simp only [execOp, ho, resolve, invoke, builtin, List.map_toArray, List.map_cons, List.map_nil, hty, Sem.run_bind, hrun1, Result.andThen_ok, Sem.run_pure]
    rw [hex]
    have hblk := setRow_heap w g cur cur' e (0, 0) hh
    have hoth : ∀ q, q ≠ g → (w.setRow g cur').heap[q]? = w.heap[q]? := fun q hq => setRow_other w g q _ hq
    have hzz : w.heap.size ≤ (w.setRow g cur').heap.size := by simp
    have hgr : w.grownBy (w.setRow g cur') (some g) := ⟨rfl, rfl, rfl, hzz, fun k hk hne => hoth k (fun e => hne (by rw [e]))⟩
    have hdr : w.drawn ≤ (w.setRow g cur').drawn := Nat.le_refl _
    have hgo : own γ g := own.mk hd'
    have hns : ∀ b, Sg cx.S0 cx.w0.heap.size γ b → b ≠ g := fun b hS e => by
      subst e
      rcases hS with ⟨_, h⟩ | ⟨_, h⟩
      · have := (hst.ge b hgo).1.1; omega
      · exact h hgo
    generalize w.setRow g cur' = w' at *
    have htk' : cur'.toList.take (xs.length * esz) = us.take (lo * esz) ++ news := by
      rw [← hcur']
      simp only [← htk]
      rw [List.toList_toArray, List.take_append, List.take_of_length_le (by simp; omega)]
      have : (List.take (lo * esz) cur.toList ++ news).length = xs.length * esz := by simp [hnl]; omega
      rw [this, Nat.sub_self, List.take_zero, List.append_nil, List.take_take, Nat.min_eq_left (by omega)]
    refine hK _ _ (row_turned (v := .slice (some ⟨g, 0, none⟩) xs.length cap) (us' := us.take (lo * esz) ++ news) hst (fun _ => hdr) hd' (dok_iff hd) hgr ?_ (fun k hk => ?_) (fun k hk j hj => ?_) (fun u hu => ?_) (.tup #[] rfl (fun j hj => absurd hj (by simp))))
    · rw [hlen']
      rcases hown0.2 with ⟨h, _⟩ | ⟨g', cap', cu, hv', hb', _, _, hm', _, _⟩
      · cases h
      · injection hv' with e1 e2 e3
        injection e1 with e1
        injection e1 with e1 _ _
        subst e1
        subst e3
        refine ⟨by simp [hnl]; omega, Or.inr ⟨g, cap, cur', rfl, hb', hblk, hcap, hm', ?_, htk'⟩⟩
        rw [← hcur']
        simp [hnl]
        omega
    · rw [hlen'] at hk
      simp only [clrL, List.getElem_append]
      split
      · rw [List.getElem_take]; exact hlen k _
      · rw [List.getElem_replicate]; exact hcl
    · rw [hlen'] at hk
      have hlt1 : (us.take (lo * esz)).length = lo * esz := by simp; omega
      by_cases hkl : k < lo
      · have hel : (clrL xs lo (zeroA ie))[k]'(by rw [hlen']; exact hk) = xs[k] := by
          simp only [clrL, List.getElem_append]
          rw [dif_pos (by simp; omega), List.getElem_take]
        rw [hel] at hj
        have hj' : j < esz := by rw [← hlen k hk]; exact hj
        have hlt2 : k * esz + j < lo * esz := by
          have : (k + 1) * esz ≤ lo * esz := Nat.mul_le_mul_right _ hkl
          rw [Nat.succ_mul] at this
          omega
        have e1 : (us.take (lo * esz) ++ news).getD (k * esz + j) undef = us.getD (k * esz + j) undef := by
          rw [List.getD_eq_getElem?_getD, List.getElem?_append_left (by omega), List.getElem?_take_of_lt hlt2, ← List.getD_eq_getElem?_getD]
        rw [e1]
        simp only [hel]
        exact (hr k hk j hj).mono hzz (fun b hS hlt => ⟨hoth b (hns b hS), Or.inl hS, fun e => hns b hS (by injection e with e; exact e.symm)⟩)
      · have hel : (clrL xs lo (zeroA ie))[k]'(by rw [hlen']; exact hk) = zeroA ie := by
          simp only [clrL, List.getElem_append]
          rw [dif_neg (by simp; omega), List.getElem_replicate]
        rw [hel] at hj
        have hj' : j < esz := by rw [← hcl]; exact hj
        have hle : lo * esz ≤ k * esz := Nat.mul_le_mul_right _ (by omega)
        have e1 : (us.take (lo * esz) ++ news).getD (k * esz + j) undef = ie.zero.cells.getD j undef := by
          rw [List.getD_eq_getElem?_getD, List.getElem?_append_right (by omega), hlt1, ← List.getD_eq_getElem?_getD, ← hnw]
          have := zeroCells_get ie.zero.cells (xs.length - lo) (k - lo) j (by omega) (by omega)
          rw [← this, hzs', Nat.sub_mul]
          congr 1
          omega
        rw [e1]
        simp only [hel, hzc, List.getElem_map]
        have hj2 : j < ie.zero.cells.size := by omega
        have : ie.zero.cells.getD j undef = ie.zero.cells[j] := by simp [Array.getD, hj2]
        rw [this]
        simpa using rep_ofV _ _ _ (ie.zero.cells[j])
    · rcases List.mem_append.1 hu with hu | hu
      · exact hone u (List.mem_of_mem_take hu)
      · exact hz1 u hu
  · have hlx : lo = xs.length := by omega
    have hex : (execOp a.eval o).run cx.P w = .ok (.value (.tuple #[])) w := by
      obtain ⟨s, us, hd', hone1, hown, _⟩ := row_val (id := id) hst hf
      have hsl : ∃ A c, a.eval x = .slice A 0 c := by
        rw [hev.der_inv hd']
        rcases hown.2 with ⟨hv, h0⟩ | ⟨g, cap, cur, hv, _⟩
        · subst hv; exact ⟨none, 0, rfl⟩
        · subst hv; exact ⟨_, _, by show Value.slice _ (xs.length - lo) _ = _; rw [hlx, Nat.sub_self]⟩
      obtain ⟨A, c, hsl⟩ := hsl
      simp only [execOp, ho, resolve, invoke, builtin, List.map_toArray, List.map_cons, List.map_nil, Builtin.clear_, hsl]
      cases A <;> simp [run_underlying hu, pure]
    rw [hex]
    have hid : clrL xs lo (zeroA ie) = xs := by simp [clrL, hlx]
    rw [hid] at hK
    obtain ⟨s, us, hd', hone1, hown, hlen, hr, hone⟩ := row_val (id := id) hst hf
    have hns : ∀ b, Sg cx.S0 cx.w0.heap.size γ b → s.ownBlock ≠ some b := fun b hS e => by
      have hgo : own γ b := own.mk (by rw [hd', e])
      rcases hS with ⟨_, h⟩ | ⟨_, h⟩
      · have := (hst.ge b hgo).1.1; omega
      · exact h hgo
    exact hK _ _ (row_turned (v := s) (us' := us) hst (fun _ => Nat.le_refl _) hd' (dok_iff hd) (World.grownBy.refl _ _) hown hlen (fun k hk j hj => (hr k hk j hj).mono (Nat.le_refl _) (fun b hS _ => ⟨rfl, Or.inl hS, hns b hS⟩)) hone (.tup #[] rfl (fun j hj => absurd hj (by simp))))
end
end Go.Proofs.Ytkbopbgcjfcjjaa
namespace Go.Proofs.Ytkbopbgcjfcjjaa
open Go.RowKit

section
variable {P : Program} {w : World} {S : Nat → Prop}
theorem entry_run {T kt et : TypeId} {k : AV} {vk z : Value} {g clock : Nat} {es : Array MapEntry} {ks : List AV} {r : Option Nat} (hT : P.underlying T = some (.map kt et)) (ht : keyFl P kt k = true) (hk : Rep w S G0 k vk) (hb : w.heap[g]? = some (.map es clock)) (hl : es.size = ks.length)
    (he : ∀ j (h : j < es.toList.length) (h' : j < ks.length), Rep w S G0 ks[j] (es.toList[j]).key) (hz : (zeroValue et).run P w = .ok z w) (hf : findK k ks 0 = some r) :
    (∀ j, r = some j → j < es.size ∧ (Instr.mapEntry T (.map (some g)) vk).run P w = .ok (.tuple #[(es.toList.getD j default).val, goInt (es.toList.getD j default).born]) { w with heap := w.heap.setIfInBounds g (.map (es.modify j fun e => { e with key := vk }) clock) }) ∧
    (r = none → (Instr.mapEntry T (.map (some g)) vk).run P w = .ok (.tuple #[z, goInt clock]) { w with heap := w.heap.setIfInBounds g (.map (es.push ⟨vk, z, clock⟩) (clock + 1)) }) := by
  obtain ⟨f1, f2⟩ := findKey_run ht hk es.toList (ks.map fun k => (k, AV.any)) r (by simpa using hl) (fun j h h' => ⟨by simpa using he j h (by simpa using h'), by simp only [List.getElem_map]; exact .any _⟩) (by simpa [Function.comp_def] using hf)
  refine ⟨fun j hr => ?_, fun hr => ?_⟩
  · subst hr
    have hj := f2 j rfl
    have hje : j < es.size := by simpa using hj
    obtain ⟨_, h2, h3⟩ := findK_at hf
    simp only [Nat.sub_zero] at h2 h3
    have hv : es[j].key = vk := (eqK_val h3 hk (by simpa using he j hj h2)).symm
    refine ⟨hje, ?_⟩
    simp [Instr.mapEntry, run_underlying hT, MapKept.run_getObj_map hb, checkK _ ht hk, f1, MapKept.run_setObj_map _ hb, Result.andThen, hje, hv, stayK ht hk]
  · subst hr
    simp [Instr.mapEntry, run_underlying hT, MapKept.run_getObj_map hb, checkK _ ht hk, f1, hz, MapKept.run_setObj_map _ hb, Result.andThen]
end

def conV (g : Nat) (vs : Array Value) : Option (Option Nat × Value) := some (none, .tuple (#[.map (some g)] ++ vs))
theorem mem_conV {g b : Nat} {vs : Array Value} : b ∈ blks (conV g vs) ↔ b = g ∨ ∃ j, blkOf (vs.getD j undef) = some b := by
  simp only [conV, blks, Option.toList_none, List.nil_append, nestOf, Array.toList_append, List.filterMap_append, List.mem_append]
  constructor
  · rintro (h | h)
    · left; simpa [blkOf] using h
    · right
      obtain ⟨v, hv, hb⟩ := List.mem_filterMap.1 h
      obtain ⟨j, hj, rfl⟩ := List.mem_iff_getElem.1 hv
      have hj' : j < vs.size := by simpa using hj
      exact ⟨j, by simpa [Array.getD, hj'] using hb⟩
  · rintro (h | ⟨j, h⟩)
    · left; simp [blkOf, h]
    · right
      by_cases hj : j < vs.size
      · exact List.mem_filterMap.2 ⟨vs[j], by simp, by simpa [Array.getD, hj] using h⟩
      · simp [Array.getD, hj, undef, blkOf] at h
theorem con0 (x : Value) (vs : Array Value) : (#[x] ++ vs).getD 0 undef = x := by
  rw [Array.getD_eq_getD_getElem?, Array.getElem?_append_left (by simp)]; rfl
theorem conV_turn {γ : Gam} {id g : Nat} {vs vs' : Array Value} (h : γ id = some (conV g vs')) : Turn γ id (conV g vs) :=
  ⟨_, _, rfl, h, rfl, rfl, fun φ => by cases φ <;> simp only [Dv.of, con0]⟩
theorem own_blk {w : World} {B ty sz n : Nat} {s : Value} {vs : List Value} (h : w.ownsRow B ty sz s n vs) : s.ownBlock = blkOf s ∧ nestOf s = [] := by
  rcases h.2 with ⟨rfl, _⟩ | ⟨g, cap, cur, rfl, _⟩ <;> exact ⟨rfl, rfl⟩
theorem blks_row {s : Value} {b : Nat} (h : s.ownBlock = blkOf s) (hn : nestOf s = []) : b ∈ blks (some (s.ownBlock, s)) ↔ blkOf s = some b := by
  simp [blks, hn, h]

section
variable {cx : Cx} {o : Oper} {σ : AS}
theorem mpn_val {γ : Gam} {τ : AS} {a : Act} {w : World} {id : Nat} {ps : List (AV × NE)} {v : Value} (hst : StG cx γ τ a w) (hl : τ.find id = some (.mpn ps)) (hv : Rep w (Sg cx.S0 cx.w0.heap.size γ) γ (.der .con id) v) :
    ∃ g es vs, γ id = some (conV g vs) ∧ v = .map (some g) ∧ w.heap[g]? = some (.map es ps.length) ∧ es.size = ps.length ∧ vs.size = ps.length ∧ (∀ j (h : j < es.toList.length), (es.toList[j]).born = j) ∧
      (∀ j (h : j < es.toList.length) (h' : j < ps.length), Rep w (Sg cx.S0 cx.w0.heap.size γ) G0 (ps[j]).1 (es.toList[j]).key) ∧ (∀ j (h : j < es.toList.length) (h' : j < ps.length), (ps[j]).2 ≠ .hole → (es.toList[j]).val = vs.getD j undef) ∧ (∀ j (h' : j < ps.length), NRep w (Sg cx.S0 cx.w0.heap.size γ) cx.w0.heap.size (vs.getD j undef) (ps[j]).2) ∧ DisB (some g) vs := by
  have hme := hst.me id
  rw [hl] at hme
  obtain ⟨d, hd', g, es, vs, hde, r⟩ := hme
  subst hde
  refine ⟨g, es, vs, hd', ?_, r⟩
  rw [hv.der_inv hd']
  exact con0 _ _
def nLen (ps : List (AV × NE)) : Option Nat → Option Nat
  | none => some 0
  | some j => match ps[j]? with
    | some (_, .row _ _ xs) => some xs.length
    | _ => none
theorem r_lookup_n {T kt et id n : Nat} {x y : Operand} {i ie : TyI} {k : AV} {ps : List (AV × NE)} {r : Option Nat} (ho : o.op = .lookup T x y false) (hd : dok cx o = true) (hxo : opdOk x = true) (hyo : opdOk y = true) (hx : σ.eval x = .der .con id) (hy : σ.eval y = k) (hl : σ.find id = some (.mpn ps))
    (hT : lkT cx.E.tab T = some i) (hs : i.shape = .map kt et) (he : lkT cx.E.tab et = some ie) (hz : ie.zero = .slice none 0 0) (hk : keyFl cx.P kt k = true) (hf : findK k (ps.map (·.1)) 0 = some r) (hn : nLen ps r = some n) : OpRule cx o σ (.slen n) [id] [] :=
  rule_val hd fun τ γ a w h1 h2 hst => by
    have ex := hst.ev x hxo
    rw [h1 x (by simp [ho, Op.operands]), hx] at ex
    have ey := hst.ev y hyo
    rw [h1 y (by simp [ho, Op.operands]), hy] at ey
    obtain ⟨g, es, vs, hg, hv, hh, hl', hsz, hbn, hkk, hvv, hnn, hdb⟩ := mpn_val hst (by rw [h2 id (by simp)]; exact hl) ex
    have hT' := und_map (cx.E.ok T i hT) hs
    have hk0 := ey.flat (w' := w) (S' := Sg cx.S0 cx.w0.heap.size γ) (γ' := G0) (keyFl_flat hk)
    obtain ⟨f1, f2⟩ := findKey_run hk hk0 es.toList (ps.map fun p => (p.1, AV.any)) r (by simpa using hl') (fun j h h' => ⟨by simpa using hkk j h (by simpa using h'), by simp only [List.getElem_map]; exact .any _⟩) (by simpa [Function.comp_def] using hf)
    have hzr := (cx.E.ok et ie he).zeroV w
    rw [hz] at hzr
    cases r with
    | none =>
      simp only [nLen, Option.some.injEq] at hn
      subst hn
      exact ⟨.slice none 0 0, by simp [execOp, ho, hv, Instr.lookup, run_underlying hT', MapKept.run_getObj_map hh, checkK _ hk hk0, f1, hzr, Result.andThen, pure], .slen _ _ _⟩
    | some j =>
      have hj := f2 j rfl
      have hj' : j < ps.length := by simp at hj; omega
      simp only [nLen, List.getElem?_eq_getElem hj'] at hn
      have h3 := hnn j hj'
      have h4 := hvv j hj hj'
      generalize hp : ps[j] = p at *
      obtain ⟨pk, pv⟩ := p
      cases pv with
      | row ty sz xs =>
        simp only [Option.some.injEq] at hn
        subst hn
        obtain ⟨_, us, hown, _⟩ := h3
        have h4 := h4 (by simp)
        have hval : ∃ A c, (es.toList.getD j default).val = .slice A xs.length c := by
          rw [List.getD_eq_getElem?_getD, List.getElem?_eq_getElem hj, Option.getD_some, h4]
          rcases hown.2 with ⟨e, h0⟩ | ⟨g', cap, cur, e, _⟩
          · rw [e]; exact ⟨none, 0, by rw [h0]⟩
          · rw [e]; exact ⟨_, _, rfl⟩
        obtain ⟨A, c, hval⟩ := hval
        refine ⟨.slice A xs.length c, ?_, .slen _ _ _⟩
        rw [← hval]
        simp [execOp, ho, hv, Instr.lookup, run_underlying hT', MapKept.run_getObj_map hh, checkK _ hk hk0, f1, Result.andThen, pure]
      | mp => simp at hn
      | hole => simp at hn
theorem r_len_slen {T n : Nat} {x : Operand} {i : TyI} {e esz eb : Nat} (ho : o.op = .call { callee := .builtin .len, args := #[x], argTypes := #[T] }) (hd : dok cx o = true) (hxo : opdOk x = true) (hx : σ.eval x = .slen n) (hT : lkT cx.E.tab T = some i) (hs : i.shape = .slc e esz eb) : OpRule cx o σ (.int .i64 (n : Int)) [] [] :=
  rule_val hd fun τ γ a w h1 h2 hst => by
    have hev := hst.ev x hxo
    rw [h1 x (by simp [ho, Op.operands, Call.operands]), hx] at hev
    obtain ⟨hu, _, _⟩ := und_slc (cx.E.ok T i hT) hs
    refine ⟨.int .i64 (n : Int), ?_, .int _ _⟩
    cases hq : a.eval x with
    | slice A m c =>
      rw [hq] at hev
      cases hev
      simp [execOp, ho, resolve, invoke, builtin, Builtin.len_, hq, run_underlying hu, goInt, pure]
    | _ => rw [hq] at hev; cases hev
def entN (ty sz : Nat) (k : AV) (ps : List (AV × NE)) : Option Nat → Option (List (AV × NE) × Nat × List AV)
  | none => some (ps ++ [(k, .hole)], ps.length, [])
  | some j => match ps[j]? with
    | some (_, .row ty' sz' xs) => match Nat.beq ty' ty && Nat.beq sz' sz with
      | true => some (ps.set j (k, .hole), j, xs)
      | false => none
    | _ => none
theorem lkE_two {d d' id : Nat} {e e' e'' : Ent} (he : lkE [(d, e), (d', e')] id = some e'') : id ∈ [d, d'] := by
  simp only [lkE] at he
  cases hb : Nat.beq d id with
  | true => simp [Nat.eq_of_beq_eq_true hb]
  | false =>
    rw [hb] at he
    cases hb2 : Nat.beq d' id with
    | true => simp [Nat.eq_of_beq_eq_true hb2]
    | false => rw [hb2] at he; cases he
theorem lkE_two_at {d d' : Nat} {e e' : Ent} (hne : d ≠ d') (i : Nat) : lkE [(d, e), (d', e')] i = if i = d then some e else if i = d' then some e' else none := by
  simp only [lkE]
  by_cases h1 : i = d
  · subst h1; simp
  · rw [if_neg h1]
    have : Nat.beq d i = false := by cases hb : Nat.beq d i with | true => exact absurd (Nat.eq_of_beq_eq_true hb).symm h1 | false => rfl
    rw [this]
    by_cases h2 : i = d'
    · subst h2; simp
    · rw [if_neg h2]
      have : Nat.beq d' i = false := by cases hb : Nat.beq d' i with | true => exact absurd (Nat.eq_of_beq_eq_true hb).symm h2 | false => rfl
      rw [this]
theorem con_step {γ γ' : Gam} {τ : AS} {a : Act} {w : World} {dst : Option Nat} {id q g : Nat} {es' : Array MapEntry} {vs vs' : Array Value} {qs : List (AV × NE)} {e : Ent} {av : AV} {v : Value} (hst : StG cx γ τ a w) (hd : ∀ x, dst = some x → cx.E.np ≤ x ∧ x < cx.nt) (hne : id ≠ q) (hid : γ id = some (conV g vs)) (hid' : γ' id = some (conV g vs')) (hoth : ∀ i, i ≠ id → i ≠ q → γ' i = γ i)
    (hq : ∀ x, γ q = some x → γ' q = some none) (hown : ∀ b, own γ' b ↔ own γ b) (hinj : ∀ b d, γ' q = some d → b ∈ blks d → b ∉ blks (conV g vs') ∧ (∀ i d', i ≠ id → i ≠ q → γ i = some d' → b ∉ blks d')) (hsub : ∀ i d' b, i ≠ id → i ≠ q → γ i = some d' → b ∈ blks d' → b ∉ blks (conV g vs'))
    (hsz : es'.size = qs.length) (hvz : vs'.size = qs.length) (hbn : ∀ j (h : j < es'.toList.length), (es'.toList[j]).born = j) (hkk : ∀ j (h : j < es'.toList.length) (h' : j < qs.length), Rep w (Sg cx.S0 cx.w0.heap.size γ) G0 (qs[j]).1 (es'.toList[j]).key)
    (hvv : ∀ j (h : j < es'.toList.length) (h' : j < qs.length), (qs[j]).2 ≠ .hole → (es'.toList[j]).val = vs'.getD j undef) (hnn : ∀ j (h' : j < qs.length), NRep w (Sg cx.S0 cx.w0.heap.size γ) cx.w0.heap.size (vs'.getD j undef) (qs[j]).2) (hdb : DisB (some g) vs')
    (hlt : g < w.heap.size)
    (he : ∀ w' : World, w.heap.size ≤ w'.heap.size → (∀ k, k ≠ g → w'.heap[k]? = w.heap[k]?) → (∀ b, Sg cx.S0 cx.w0.heap.size γ b → b < w.heap.size → w'.heap[b]? = w.heap[b]? ∧ Sg cx.S0 cx.w0.heap.size γ' b) → ∃ x, γ' q = some x ∧ EntRep w' (Sg cx.S0 cx.w0.heap.size γ') γ' cx.w0.heap.size x e)
    (hv : ∀ w' : World, Rep w' (Sg cx.S0 cx.w0.heap.size γ') γ' av v) :
    St cx (τ.upd dst av [(id, .mpn qs), (q, e)]) (a.put dst v) { w with heap := w.heap.setIfInBounds g (.map es' qs.length) } := by
  have hgo : own γ g := ⟨id, _, hid, mem_conV.2 (Or.inl rfl)⟩
  have hgl := hst.ge g hgo
  have hothw : ∀ k, k ≠ g → ({ w with heap := w.heap.setIfInBounds g (.map es' qs.length) } : World).heap[k]? = w.heap[k]? := fun k hk => by simp [Array.getElem?_setIfInBounds, Ne.symm hk]
  have hg' : ({ w with heap := w.heap.setIfInBounds g (.map es' qs.length) } : World).heap[g]? = some (.map es' qs.length) := by simp [Array.getElem?_setIfInBounds, hlt]
  have hz' : w.heap.size ≤ ({ w with heap := w.heap.setIfInBounds g (.map es' qs.length) } : World).heap.size := by simp
  have hdr : w.drawn ≤ ({ w with heap := w.heap.setIfInBounds g (.map es' qs.length) } : World).drawn := Nat.le_refl _
  have hbel : Below cx.w0.heap.size w ({ w with heap := w.heap.setIfInBounds g (.map es' qs.length) } : World) := ⟨rfl, rfl, rfl, hz', fun k hk => hothw k (by have := hgl.1.1; omega)⟩
  generalize ({ w with heap := w.heap.setIfInBounds g (.map es' qs.length) } : World) = w' at *
  have hns : ∀ b, Sg cx.S0 cx.w0.heap.size γ b → b ≠ g := fun b hS e => by
    subst e
    rcases hS with ⟨_, h⟩ | ⟨_, h⟩
    · have := hgl.1.1; omega
    · exact h hgo
  have hSS : ∀ b, Sg cx.S0 cx.w0.heap.size γ b → Sg cx.S0 cx.w0.heap.size γ' b := fun b hb => hb.elim Or.inl (fun ⟨h1, h2⟩ => Or.inr ⟨h1, fun ho => h2 ((hown b).1 ho)⟩)
  have hk : ∀ b, Sg cx.S0 cx.w0.heap.size γ b → b < w.heap.size → w'.heap[b]? = w.heap[b]? ∧ Sg cx.S0 cx.w0.heap.size γ' b := fun b hS _ => ⟨hothw b (hns b hS), hSS b hS⟩
  refine ⟨γ', hst.step hd hz' hk (fun i x hx => ?_) (fun i hi => ?_) (fun i e0 hi => ?_) (fun i i' b d d' hi hi' m m' => ?_) (fun b hb => ?_) (hst.below.trans hbel) (hv w') (fun b hno _ => ⟨hothw b (fun e => hno (e ▸ hgo)), fun ho => hno ((hown b).1 ho)⟩) (fun _ => hdr)⟩
  · by_cases h1 : i = id
    · subst h1; rw [hid] at hx; injection hx with hx; subst hx; exact Or.inr (Or.inr (conV_turn hid'))
    · by_cases h2 : i = q
      · subst h2; exact Or.inr (Or.inl (hq x hx))
      · exact Or.inl ((hoth i h1 h2).trans hx)
  · rw [lkE_two_at hne] at hi
    by_cases h1 : i = id
    · rw [if_pos h1] at hi; cases hi
    · rw [if_neg h1] at hi
      by_cases h2 : i = q
      · rw [if_pos h2] at hi; cases hi
      · refine ⟨hoth i h1 h2, fun b d hi hm => hothw b (fun e => h1 ?_)⟩
        subst e
        exact hst.inj _ _ _ _ _ hi hid hm (mem_conV.2 (Or.inl rfl))
  · rw [lkE_two_at hne] at hi
    by_cases h1 : i = id
    · subst h1
      rw [if_pos rfl] at hi
      injection hi with hi
      subst hi
      refine ⟨_, hid', g, es', vs', rfl, hg', hsz, hvz, hbn, fun j h h' => (hkk j h h').mono hz' hk, hvv, fun j h' => (hnn j h').moved hz' hk (fun g1 hg1 => hothw g1 (fun e => hdb.2 j g1 (by rw [e]) hg1)), hdb⟩
    · rw [if_neg h1] at hi
      by_cases h2 : i = q
      · subst h2
        rw [if_pos rfl] at hi
        injection hi with hi
        subst hi
        exact he w' hz' hothw hk
      · rw [if_neg h2] at hi; cases hi
  · have sym : ∀ i i' d d', γ' i = some d → γ' i' = some d' → b ∈ blks d → b ∈ blks d' → i = id → i = i' := fun i i' d d' hi hi' m m' h1 => by
      subst h1
      rw [hid'] at hi
      injection hi with hi
      subst hi
      by_cases h2 : i' = i
      · exact h2.symm
      · by_cases h3 : i' = q
        · subst h3; exact absurd m (hinj b d' hi' m').1
        · rw [hoth i' h2 h3] at hi'
          exact absurd m (hsub i' d' b h2 h3 hi' m')
    by_cases h1 : i = id
    · exact sym i i' d d' hi hi' m m' h1
    · by_cases h2 : i' = id
      · exact (sym i' i d' d hi' hi m' m h2).symm
      · by_cases h3 : i = q
        · by_cases h4 : i' = q
          · rw [h3, h4]
          · subst h3
            rw [hoth i' h2 h4] at hi'
            exact absurd m' ((hinj b d hi m).2 i' d' h2 h4 hi')
        · by_cases h4 : i' = q
          · subst h4
            rw [hoth i h1 h3] at hi
            exact absurd m ((hinj b d' hi' m').2 i d h1 h3 hi)
          · rw [hoth i h1 h3] at hi
            rw [hoth i' h2 h4] at hi'
            exact hst.inj _ _ _ _ _ hi hi' m m'
  · have := hst.ge b ((hown b).1 hb)
    exact ⟨this.1, Nat.lt_of_lt_of_le this.2 hz'⟩
theorem getD_push (vs : Array Value) (x : Value) (j : Nat) : (vs.push x).getD j undef = if j = vs.size then x else vs.getD j undef := by
  simp only [Array.getD_eq_getD_getElem?, Array.getElem?_push]
  by_cases h : j = vs.size
  · rw [if_pos h, if_pos h]; rfl
  · rw [if_neg h, if_neg h]
theorem getD_setB (vs : Array Value) (x : Value) (p j : Nat) (hp : p < vs.size) : (vs.setIfInBounds p x).getD j undef = if j = p then x else vs.getD j undef := by
  simp only [Array.getD_eq_getD_getElem?, Array.getElem?_setIfInBounds]
  by_cases h : j = p
  · subst h; rw [if_pos rfl, if_pos hp, if_pos rfl]; rfl
  · rw [if_neg h, if_neg (fun e => h e.symm)]
theorem nrep_row {w : World} {S : Nat → Prop} {B ty sz : Nat} {v : Value} {xs : List AV} (h : NRep w S B v (.row ty sz xs)) : ∃ us, w.ownsRow B ty sz v xs.length us := by
  obtain ⟨_, us, h, _⟩ := h; exact ⟨us, h⟩
theorem entry_val {γ : Gam} {τ : AS} {a : Act} {w : World} {id g ty sz p kt et T : Nat} {ps qs : List (AV × NE)} {es : Array MapEntry} {vs : Array Value} {k : AV} {vk : Value} {r : Option Nat} {xs : List AV}
    (hh : w.heap[g]? = some (.map es ps.length)) (hl : es.size = ps.length) (hsz : vs.size = ps.length) (hbn : ∀ j (h : j < es.toList.length), (es.toList[j]).born = j)
    (hkk : ∀ j (h : j < es.toList.length) (h' : j < ps.length), Rep w (Sg cx.S0 cx.w0.heap.size γ) G0 (ps[j]).1 (es.toList[j]).key) (hvv : ∀ j (h : j < es.toList.length) (h' : j < ps.length), (ps[j]).2 ≠ .hole → (es.toList[j]).val = vs.getD j undef)
    (hnn : ∀ j (h' : j < ps.length), NRep w (Sg cx.S0 cx.w0.heap.size γ) cx.w0.heap.size (vs.getD j undef) (ps[j]).2) (hdb : DisB (some g) vs) (hT : cx.P.underlying T = some (.map kt et)) (hk : keyFl cx.P kt k = true) (hk0 : Rep w (Sg cx.S0 cx.w0.heap.size γ) G0 k vk) (hz : (zeroValue et).run cx.P w = .ok (.slice none 0 0) w)
    (hf : findK k (ps.map (·.1)) 0 = some r) (hent : entN ty sz k ps r = some (qs, p, xs)) :
    ∃ s es' vs', (Instr.mapEntry T (.map (some g)) vk).run cx.P w = .ok (.tuple #[s, goInt p]) { w with heap := w.heap.setIfInBounds g (.map es' qs.length) } ∧ es'.size = qs.length ∧ vs'.size = qs.length ∧ (∀ j (h : j < es'.toList.length), (es'.toList[j]).born = j) ∧
      (∀ j (h : j < es'.toList.length) (h' : j < qs.length), Rep w (Sg cx.S0 cx.w0.heap.size γ) G0 (qs[j]).1 (es'.toList[j]).key) ∧ (∀ j (h : j < es'.toList.length) (h' : j < qs.length), (qs[j]).2 ≠ .hole → (es'.toList[j]).val = vs'.getD j undef) ∧
      (∀ j (h' : j < qs.length), NRep w (Sg cx.S0 cx.w0.heap.size γ) cx.w0.heap.size (vs'.getD j undef) (qs[j]).2) ∧ NRep w (Sg cx.S0 cx.w0.heap.size γ) cx.w0.heap.size s (.row ty sz xs) ∧ DisB (some g) vs' ∧
      (∀ i b, blkOf (vs'.getD i undef) = some b → blkOf (vs.getD i undef) = some b) ∧ (∀ i b, blkOf (vs.getD i undef) = some b → blkOf s = some b ∨ blkOf (vs'.getD i undef) = some b) ∧ (∀ b, blkOf s = some b → (∃ j, blkOf (vs.getD j undef) = some b) ∧ ∀ i, blkOf (vs'.getD i undef) ≠ some b) := by
  obtain ⟨e1, e2⟩ := entry_run hT hk hk0 hh (ks := ps.map (·.1)) (by simpa using hl) (fun j h h' => by simpa using hkk j h (by simpa using h')) hz hf
  cases r with
  | none =>
    have hrun := e2 rfl
    simp only [entN, Option.some.injEq, Prod.mk.injEq] at hent
    obtain ⟨rfl, rfl, rfl⟩ := hent
    have hnone : ∀ i, i ≥ vs.size → vs.getD i undef = undef := fun i hi => by rw [Array.getD_eq_getD_getElem?, Array.getElem?_eq_none hi]; rfl
    have hb1 : ∀ i b, blkOf ((vs.push .nilFunc).getD i undef) = some b ↔ blkOf (vs.getD i undef) = some b := fun i b => by
      rw [getD_push]
      by_cases h : i = vs.size
      · rw [if_pos h, h, hnone _ (Nat.le_refl _)]; simp [blkOf, undef]
      · rw [if_neg h]
    refine ⟨.slice none 0 0, es.push ⟨vk, .slice none 0 0, ps.length⟩, vs.push .nilFunc, by rw [hrun, List.length_append, List.length_singleton], by simp [hl], by simp [hsz], fun j h => ?_, fun j h h' => ?_, fun j h h' hne => ?_, fun j h' => ?_, ⟨rfl, [], World.ownsRow_nil _ _ _ _, fun k hk => absurd hk (by simp), fun k hk => absurd hk (by simp), fun u hu => by cases hu⟩,
      ⟨fun i j b hi hj => hdb.1 i j b ((hb1 i b).1 hi) ((hb1 j b).1 hj), fun i b hb hi => hdb.2 i b hb ((hb1 i b).1 hi)⟩, fun i b h => (hb1 i b).1 h, fun i b h => Or.inr ((hb1 i b).2 h), fun b h => by simp [blkOf] at h⟩
    · simp only [Array.toList_push, List.getElem_append]
      split
      · exact hbn j _
      · rename_i hnj
        have hje : j = ps.length := by simp at h hnj; omega
        simp only [List.getElem_singleton]
        exact hje.symm
    · simp only [Array.toList_push, List.getElem_append]
      by_cases hj : j < ps.length
      · rw [dif_pos hj, dif_pos (by simp; omega)]; exact hkk j _ _
      · rw [dif_neg hj, dif_neg (by simp; omega)]; simpa using hk0
    · simp only [Array.toList_push, List.getElem_append] at hne ⊢
      by_cases hj : j < ps.length
      · rw [dif_pos hj] at hne
        rw [dif_pos (by simp; omega), getD_push, if_neg (by omega)]
        exact hvv j _ _ hne
      · rw [dif_neg hj] at hne
        simp at hne
    · rw [getD_push]
      by_cases hj : j < ps.length
      · rw [if_neg (by omega), List.getElem_append_left hj]; exact hnn j hj
      · have : j = ps.length := by simp at h'; omega
        subst this
        rw [if_pos hsz.symm, List.getElem_append_right (Nat.le_refl _)]
        simp only [Nat.sub_self, List.getElem_singleton]
        rfl
  | some j0 =>
    obtain ⟨hj0, hrun⟩ := e1 j0 rfl
    have hj0' : j0 < ps.length := by omega
    have hjt : j0 < es.toList.length := by simpa using hj0
    simp only [entN, List.getElem?_eq_getElem hj0'] at hent
    have hn0 := hnn j0 hj0'
    have hv0 := hvv j0 hjt hj0'
    have hk00 : (ps[j0]).1 = (ps[j0]).1 := rfl
    generalize hp : ps[j0] = pe at hent hn0 hv0
    obtain ⟨pk, pv⟩ := pe
    cases pv with
    | mp => simp at hent
    | hole => simp at hent
    | row ty' sz' xs' =>
      simp only at hent
      split at hent
      · rename_i hb
        simp only [Bool.and_eq_true] at hb
        have e1 := Nat.eq_of_beq_eq_true hb.1
        have e2 := Nat.eq_of_beq_eq_true hb.2
        subst e1
        subst e2
        simp only [Option.some.injEq, Prod.mk.injEq] at hent
        obtain ⟨rfl, rfl, rfl⟩ := hent
        have hv0 := hv0 (by simp)
        have hjs : j0 < vs.size := by omega
        have hg : ∀ i, (vs.setIfInBounds j0 .nilFunc).getD i undef = if i = j0 then .nilFunc else vs.getD i undef := fun i => getD_setB _ _ _ _ hjs
        have hb1 : ∀ i b, blkOf ((vs.setIfInBounds j0 .nilFunc).getD i undef) = some b → i ≠ j0 ∧ blkOf (vs.getD i undef) = some b := fun i b h => by
          rw [hg] at h
          by_cases h' : i = j0
          · rw [if_pos h'] at h; simp [blkOf] at h
          · rw [if_neg h'] at h; exact ⟨h', h⟩
        refine ⟨vs.getD j0 undef, es.modify j0 fun e => { e with key := vk }, vs.setIfInBounds j0 .nilFunc, ?_, by simp [hl], by simp [hsz], fun j h => ?_, fun j h h' => ?_, fun j h h' hne => ?_, fun j h' => ?_, hn0,
          ⟨fun i j b hi hj => hdb.1 i j b (hb1 i b hi).2 (hb1 j b hj).2, fun i b hb hi => hdb.2 i b hb (hb1 i b hi).2⟩, fun i b h => (hb1 i b h).2, fun i b h => ?_, fun b h => ⟨⟨j0, h⟩, fun i hi => (hb1 i b hi).1 (hdb.1 _ _ _ (hb1 i b hi).2 h)⟩⟩
        · rw [hrun, List.length_set, List.getD_eq_getElem?_getD, List.getElem?_eq_getElem hjt, Option.getD_some, hv0, hbn j0 hjt]
        · simp only [Array.toList_modify, List.getElem_modify]
          split
          · rename_i e; subst e; exact hbn _ hjt
          · exact hbn j (by simpa using h)
        · have hjp : j < ps.length := by simpa using h'
          have hje : j < es.toList.length := by simp; omega
          simp only [Array.toList_modify, List.getElem_modify, List.getElem_set]
          by_cases hjj : j0 = j
          · rw [if_pos hjj, if_pos hjj]; exact hk0
          · rw [if_neg hjj, if_neg hjj]; exact hkk j hje hjp
        · have hjp : j < ps.length := by simpa using h'
          have hje : j < es.toList.length := by simp; omega
          simp only [List.getElem_set] at hne
          by_cases hjj : j0 = j
          · rw [if_pos hjj] at hne; simp at hne
          · rw [if_neg hjj] at hne
            simp only [Array.toList_modify, List.getElem_modify]
            rw [if_neg hjj, hg, if_neg (fun e => hjj e.symm)]
            exact hvv j hje hjp hne
        · have hjp : j < ps.length := by simpa using h'
          rw [hg]
          simp only [List.getElem_set]
          by_cases hjj : j0 = j
          · rw [if_pos hjj, if_pos hjj.symm]; rfl
          · rw [if_neg hjj, if_neg (fun e => hjj e.symm)]; exact hnn j hjp
        · rw [hg]
          by_cases h' : i = j0
          · subst h'; exact Or.inl h
          · rw [if_neg h']; exact Or.inr h
      · cases hent
theorem r_mapEntry_n {T kt et id d ty sz p : Nat} {x y : Operand} {i ie : TyI} {k : AV} {ps qs : List (AV × NE)} {xs : List AV} {r : Option Nat} (ho : o.op = .mapEntry T x y) (hdst : o.dst = some d) (hd : dok cx o = true) (hxo : opdOk x = true) (hyo : opdOk y = true) (hx : σ.eval x = .der .con id) (hy : σ.eval y = k) (hl : σ.find id = some (.mpn ps)) (hn : σ.find d = none) (hne : id ≠ d)
    (hT : lkT cx.E.tab T = some i) (hs : i.shape = .map kt et) (he : lkT cx.E.tab et = some ie) (hz : ie.zero = .slice none 0 0) (hk : keyFl cx.P kt k = true) (hf : findK k (ps.map (·.1)) 0 = some r) (hent : entN ty sz k ps r = some (qs, p, xs)) : OpRule cx o σ (.tup [.row d, .int .i64 (p : Int)]) [id, d] [(id, .mpn qs), (d, .row ty sz xs)] := by
  refine ⟨fun i e he => lkE_two he, fun τ h1 h2 a w Q K ⟨γ, hst⟩ hK => wp_in (fun c hc => by rw [ho] at hc; cases hc) ?_⟩
  have ex := hst.ev x hxo
  rw [h1 x (by simp [ho, Op.operands]), hx] at ex
  have ey := hst.ev y hyo
  rw [h1 y (by simp [ho, Op.operands]), hy] at ey
  obtain ⟨g, es, vs, hg, hv, hh, hl', hsz, hbn, hkk, hvv, hnn, hdb⟩ := mpn_val hst (by rw [h2 id (by simp)]; exact hl) ex
  have hT' := und_map (cx.E.ok T i hT) hs
  have hk0 := ey.flat (w' := w) (S' := Sg cx.S0 cx.w0.heap.size γ) (γ' := G0) (keyFl_flat hk)
  have hzr := (cx.E.ok et ie he).zeroV w
  rw [hz] at hzr
  obtain ⟨s, es', vs', hrun, c1, c2, c3, c4, c5, c6, c7, c8, c9, c10, c11⟩ := entry_val (τ := τ) (a := a) (id := id) hh hl' hsz hbn hkk hvv hnn hdb hT' hk hk0 hzr hf hent
  have hex : (execOp a.eval o).run cx.P w = .ok (.value (.tuple #[s, goInt p])) { w with heap := w.heap.setIfInBounds g (.map es' qs.length) } := by
    simp only [execOp, ho, hv, Sem.run_bind, hrun, Result.andThen_ok, Sem.run_pure]
  unfold Oper.wp
  rw [hex]
  have hγd : γ d = none := by have := hst.me d; rw [h2 d (by simp), hn] at this; exact this
  obtain ⟨us, hou⟩ := nrep_row c7
  obtain ⟨ob1, ob2⟩ := own_blk hou
  let γ' : Gam := fun i => if i = id then some (conV g vs') else if i = d then some (some (s.ownBlock, s)) else γ i
  have g1 : γ' id = some (conV g vs') := if_pos rfl
  have g2 : γ' d = some (some (s.ownBlock, s)) := by show (if d = id then _ else if d = d then _ else _) = _; rw [if_neg (Ne.symm hne), if_pos rfl]
  have g3 : ∀ i, i ≠ id → i ≠ d → γ' i = γ i := fun i h1 h2 => by show (if i = id then _ else if i = d then _ else _) = _; rw [if_neg h1, if_neg h2]
  have bl : ∀ i d' b, i ≠ id → γ i = some d' → b ∈ blks d' → b ≠ g ∧ ∀ j, blkOf (vs.getD j undef) ≠ some b := fun i d' b hi hγi hb =>
    ⟨fun e => hi (hst.inj _ _ _ _ _ hγi hg hb (mem_conV.2 (Or.inl e))), fun j hj => hi (hst.inj _ _ _ _ _ hγi hg hb (mem_conV.2 (Or.inr ⟨j, hj⟩)))⟩
  refine hK _ _ (con_step (γ' := γ') (q := d) hst (dok_iff hd) hne hg g1 g3 (fun x hx => by rw [hγd] at hx; cases hx) (fun b => ⟨fun ⟨i, x, hi, hb⟩ => ?_, fun ⟨i, x, hi, hb⟩ => ?_⟩) (fun b x hx hb => ?_) (fun i d' b h1 h2 hi hb hc => ?_) c1 c2 c3 c4 c5 c6 c8 (by rcases Nat.lt_or_ge g w.heap.size with h | h; exact h; rw [Array.getElem?_eq_none h] at hh; cases hh) (fun w' hz' ho' hk' => ?_) (fun w' => ?_))
  · by_cases h1 : i = id
    · subst h1
      rw [g1] at hi; injection hi with hi; subst hi
      rcases mem_conV.1 hb with hb | ⟨j, hb⟩
      · exact ⟨_, _, hg, mem_conV.2 (Or.inl hb)⟩
      · exact ⟨_, _, hg, mem_conV.2 (Or.inr ⟨j, c9 j b hb⟩)⟩
    · by_cases h2 : i = d
      · subst h2
        rw [g2] at hi; injection hi with hi; subst hi
        exact ⟨_, _, hg, mem_conV.2 (Or.inr (c11 b ((blks_row ob1 ob2).1 hb)).1)⟩
      · rw [g3 i h1 h2] at hi; exact ⟨i, x, hi, hb⟩
  · by_cases h1 : i = id
    · subst h1
      rw [hg] at hi; injection hi with hi; subst hi
      rcases mem_conV.1 hb with hb | ⟨j, hb⟩
      · exact ⟨_, _, g1, mem_conV.2 (Or.inl hb)⟩
      · rcases c10 j b hb with h | h
        · exact ⟨_, _, g2, (blks_row ob1 ob2).2 h⟩
        · exact ⟨_, _, g1, mem_conV.2 (Or.inr ⟨j, h⟩)⟩
    · by_cases h2 : i = d
      · subst h2; rw [hγd] at hi; cases hi
      · exact ⟨i, x, (g3 i h1 h2).trans hi, hb⟩
  · rw [g2] at hx; injection hx with hx; subst hx
    have hbs := (blks_row ob1 ob2).1 hb
    obtain ⟨⟨j, hj⟩, hno⟩ := c11 b hbs
    refine ⟨fun h => ?_, fun i d' h1 h2 hi hm => (bl i d' b h1 hi hm).2 j hj⟩
    rcases mem_conV.1 h with h | ⟨i, h⟩
    · subst h; exact hdb.2 j b rfl hj
    · exact hno i h
  · obtain ⟨q1, q2⟩ := bl i d' b h1 hi hb
    rcases mem_conV.1 hc with h | ⟨j, h⟩
    · exact q1 h
    · exact q2 j (c9 j b h)
  · obtain ⟨q1, us', q2, q3, q4, q5⟩ := c7
    refine ⟨_, g2, s, us', rfl, q1, q2.moved (fun b hb => ho' b (fun e => ?_)), q3, fun k hk j hj => (q4 k hk j hj).mono hz' hk', q5⟩
    subst e
    obtain ⟨⟨j, hj⟩, _⟩ := c11 b hb
    exact hdb.2 j b rfl hj
  · refine .tup #[s, goInt p] rfl (fun j hj => ?_)
    have hj : j < 2 := hj
    rcases j with _ | _ | j
    · exact .row g2 (fun g s e _ => by injection e with e; injection e with _ e)
    · exact .int _ _
    · omega
theorem run_entryStore {P : Program} {w : World} {T : TypeId} {g p clock : Nat} {es : Array MapEntry} {s : Value} (hh : w.heap[g]? = some (.map es clock)) (hbn : ∀ j (h : j < es.toList.length), (es.toList[j]).born = j) (hp : p < es.size) (kd : IntKind) :
    (Instr.entryStore T (.map (some g)) (.int kd (p : Int)) s).run P w = .ok () { w with heap := w.heap.setIfInBounds g (.map (es.modify p fun e => { e with val := s }) clock) } := by
  have hb : ∀ j (h : j < es.size), es[j].born = j := fun j h => by have := hbn j (by simpa using h); rwa [Array.getElem_toList] at this
  have hfi : es.findIdx? (fun e => (e.born : Int) == (p : Int)) = some p := by
    rw [Array.findIdx?_eq_some_iff_getElem]
    refine ⟨hp, by simp [hb p hp], fun j hj => ?_⟩
    simp [hb j (by omega)]
    omega
  simp [Instr.entryStore, MapKept.run_getObj_map hh, asInt, asIntOf, hfi, MapKept.run_setObj_map _ hh, Result.andThen]
theorem r_entryStore_n {T id q ty sz p : Nat} {x y z : Operand} {k : AV} {kd : IntKind} {ps : List (AV × NE)} {xs : List AV} (ho : o.op = .entryStore T x y z) (hd : dok cx o = true) (hxo : opdOk x = true) (hyo : opdOk y = true) (hzo : opdOk z = true) (hx : σ.eval x = .der .con id) (hy : σ.eval y = .int kd (p : Int)) (hz : σ.eval z = .row q) (hl : σ.find id = some (.mpn ps)) (hq : σ.find q = some (.row ty sz xs)) (hne : id ≠ q)
    (hp : ps[p]? = some (k, .hole)) : OpRule cx o σ (.tup []) [id, q] [(id, .mpn (ps.set p (k, .row ty sz xs))), (q, .dead)] := by
  refine ⟨fun i e he => lkE_two he, fun τ h1 h2 a w Q K ⟨γ, hst⟩ hK => wp_in (fun c hc => by rw [ho] at hc; cases hc) ?_⟩
  have ex := hst.ev x hxo
  rw [h1 x (by simp [ho, Op.operands]), hx] at ex
  have ey := hst.ev y hyo
  rw [h1 y (by simp [ho, Op.operands]), hy] at ey
  have ez := hst.ev z hzo
  rw [h1 z (by simp [ho, Op.operands]), hz] at ez
  obtain ⟨g, es, vs, hg, hv, hh, hl', hsz, hbn, hkk, hvv, hnn, hdb⟩ := mpn_val hst (by rw [h2 id (by simp)]; exact hl) ex
  obtain ⟨s, us, hγq, hone1, hown, hlen, hr, hone⟩ := row_val (id := q) hst (by rw [h2 q (by simp)]; exact hq)
  obtain ⟨ob1, ob2⟩ := own_blk hown
  obtain ⟨hpl, hpe⟩ := List.getElem?_eq_some_iff.1 hp
  have hps : p < vs.size := by omega
  have hrun := run_entryStore (P := cx.P) (T := T) (s := s) hh hbn (by omega : p < es.size) kd
  have hex : (execOp a.eval o).run cx.P w = .ok .skip { w with heap := w.heap.setIfInBounds g (.map (es.modify p fun e => { e with val := s }) (ps.set p (k, NE.row ty sz xs)).length) } := by
    simp only [execOp, ho, hv, ey.int_inv, ez.row_inv hγq, Sem.run_bind, hrun, Result.andThen_ok, Sem.run_pure, List.length_set]
  unfold Oper.wp
  rw [hex]
  have hgt : ∀ i, (vs.setIfInBounds p s).getD i undef = if i = p then s else vs.getD i undef := fun i => getD_setB _ _ _ _ hps
  have bl : ∀ i d' b, i ≠ id → γ i = some d' → b ∈ blks d' → b ≠ g ∧ ∀ j, blkOf (vs.getD j undef) ≠ some b := fun i d' b hi hγi hb =>
    ⟨fun e => hi (hst.inj _ _ _ _ _ hγi hg hb (mem_conV.2 (Or.inl e))), fun j hj => hi (hst.inj _ _ _ _ _ hγi hg hb (mem_conV.2 (Or.inr ⟨j, hj⟩)))⟩
  have hsb : ∀ b, blkOf s = some b → b ≠ g ∧ ∀ j, blkOf (vs.getD j undef) ≠ some b := fun b hb => bl q _ b (Ne.symm hne) hγq ((blks_row ob1 ob2).2 hb)
  have hpo : ∀ b, blkOf (vs.getD p undef) ≠ some b := fun b hb => by
    have := hnn p hpl
    rw [hpe] at this
    have this : vs.getD p undef = .nilFunc := this
    rw [this] at hb
    simp [blkOf] at hb
  let γ' : Gam := fun i => if i = id then some (conV g (vs.setIfInBounds p s)) else if i = q then some none else γ i
  have g1 : γ' id = some (conV g (vs.setIfInBounds p s)) := if_pos rfl
  have g2 : γ' q = some none := by show (if q = id then _ else if q = q then _ else _) = _; rw [if_neg (Ne.symm hne), if_pos rfl]
  have g3 : ∀ i, i ≠ id → i ≠ q → γ' i = γ i := fun i h1 h2 => by show (if i = id then _ else if i = q then _ else _) = _; rw [if_neg h1, if_neg h2]
  refine hK _ _ (con_step (γ' := γ') (q := q) (vs' := vs.setIfInBounds p s) hst (dok_iff hd) hne hg g1 g3 (fun x hx => g2) (fun b => ⟨fun ⟨i, x, hi, hb⟩ => ?_, fun ⟨i, x, hi, hb⟩ => ?_⟩) (fun b x hx hb => ?_) (fun i d' b h1 h2 hi hb hc => ?_) (by simp [hl']) (by simp [hsz]) (fun j h => ?_) (fun j h h' => ?_) (fun j h h' hne' => ?_) (fun j h' => ?_) ⟨fun i j b hi hj => ?_, fun i b hb hi => ?_⟩
    (by rcases Nat.lt_or_ge g w.heap.size with h | h; exact h; rw [Array.getElem?_eq_none h] at hh; cases hh) (fun w' hz' ho' hk' => ⟨_, g2, rfl⟩) (fun w' => .tup #[] rfl (fun j hj => absurd hj (by simp))))
  · by_cases h1 : i = id
    · subst h1
      rw [g1] at hi; injection hi with hi; subst hi
      rcases mem_conV.1 hb with hb | ⟨j, hb⟩
      · exact ⟨_, _, hg, mem_conV.2 (Or.inl hb)⟩
      · rw [hgt] at hb
        by_cases hjp : j = p
        · rw [if_pos hjp] at hb; exact ⟨_, _, hγq, (blks_row ob1 ob2).2 hb⟩
        · rw [if_neg hjp] at hb; exact ⟨_, _, hg, mem_conV.2 (Or.inr ⟨j, hb⟩)⟩
    · by_cases h2 : i = q
      · subst h2; rw [g2] at hi; injection hi with hi; subst hi; cases hb
      · rw [g3 i h1 h2] at hi; exact ⟨i, x, hi, hb⟩
  · by_cases h1 : i = id
    · subst h1
      rw [hg] at hi; injection hi with hi; subst hi
      rcases mem_conV.1 hb with hb | ⟨j, hb⟩
      · exact ⟨_, _, g1, mem_conV.2 (Or.inl hb)⟩
      · refine ⟨_, _, g1, mem_conV.2 (Or.inr ⟨j, ?_⟩)⟩
        rw [hgt, if_neg (fun e => by subst e; exact hpo b hb)]
        exact hb
    · by_cases h2 : i = q
      · subst h2
        rw [hγq] at hi; injection hi with hi; subst hi
        exact ⟨_, _, g1, mem_conV.2 (Or.inr ⟨p, by rw [hgt, if_pos rfl]; exact (blks_row ob1 ob2).1 hb⟩)⟩
      · exact ⟨i, x, (g3 i h1 h2).trans hi, hb⟩
  · rw [g2] at hx; injection hx with hx; subst hx; cases hb
  · obtain ⟨q1, q2⟩ := bl i d' b h1 hi hb
    rcases mem_conV.1 hc with h | ⟨j, h⟩
    · exact q1 h
    · rw [hgt] at h
      by_cases hjp : j = p
      · rw [if_pos hjp] at h
        exact h2 (hst.inj _ _ _ _ _ hi hγq hb ((blks_row ob1 ob2).2 h))
      · rw [if_neg hjp] at h; exact q2 j h
  · simp only [Array.toList_modify, List.getElem_modify]
    split
    · rename_i e; subst e; exact hbn _ _
    · exact hbn j (by simpa using h)
  · have hjp : j < ps.length := by simpa using h'
    have hje : j < es.toList.length := by simp; omega
    have hkj := hkk j hje hjp
    simp only [Array.toList_modify, List.getElem_modify, List.getElem_set]
    by_cases hjj : p = j
    · subst hjj
      rw [if_pos rfl, if_pos rfl]
      rw [hpe] at hkj
      exact hkj
    · rw [if_neg hjj, if_neg hjj]; exact hkj
  · have hjp : j < ps.length := by simpa using h'
    have hje : j < es.toList.length := by simp; omega
    simp only [List.getElem_set] at hne'
    simp only [Array.toList_modify, List.getElem_modify]
    rw [hgt]
    by_cases hjj : p = j
    · subst hjj; rw [if_pos rfl, if_pos rfl]
    · rw [if_neg hjj] at hne'
      rw [if_neg hjj, if_neg (fun e => hjj e.symm)]
      exact hvv j hje hjp hne'
  · have hjp : j < ps.length := by simpa using h'
    rw [hgt]
    simp only [List.getElem_set]
    by_cases hjj : p = j
    · subst hjj
      rw [if_pos rfl, if_pos rfl]
      exact ⟨hone1, us, hown, hlen, hr, hone⟩
    · rw [if_neg hjj, if_neg (fun e => hjj e.symm)]; exact hnn j hjp
  · rw [hgt] at hi hj
    by_cases h1 : i = p
    · by_cases h2 : j = p
      · rw [h1, h2]
      · rw [if_pos h1] at hi; rw [if_neg h2] at hj; exact absurd hj ((hsb b hi).2 j)
    · by_cases h2 : j = p
      · rw [if_neg h1] at hi; rw [if_pos h2] at hj; exact absurd hi ((hsb b hj).2 i)
      · rw [if_neg h1] at hi; rw [if_neg h2] at hj; exact hdb.1 i j b hi hj
  · rw [hgt] at hi
    by_cases h1 : i = p
    · rw [if_pos h1] at hi; injection hb with hb; exact (hsb b hi).1 hb.symm
    · rw [if_neg h1] at hi; exact hdb.2 i b hb hi
theorem conV_one {g : Nat} : ∀ b, b ∈ blks (conV g #[]) → b = g := fun b hb => by
  rcases mem_conV.1 hb with h | ⟨j, h⟩
  · exact h
  · simp [blkOf, undef] at h
theorem r_makeMap_n {T d : Nat} (ho : o.op = .makeMap T none) (hdst : o.dst = some d) (hd : dok cx o = true) (hn : σ.find d = none) : OpRule cx o σ (.der .con d) [d] [(d, .mpn [])] := by
  refine ⟨fun id e he => lkE_one he, fun τ h1 h2 a w Q K ⟨γ, hst⟩ hK => wp_in (fun c hc => by rw [ho] at hc; cases hc) ?_⟩
  have hrun : (execOp a.eval o).run cx.P w = .ok (.value (.map (some w.heap.size))) (w.alloc (.map #[] 0)) := by
    simp only [execOp, ho, Option.map_none, Sem.run_bind, run_makeMap, Result.andThen_ok, Sem.run_pure]
  unfold Oper.wp
  rw [hrun]
  refine hK _ _ ⟨_, hst.nameX (id := d) (g := w.heap.size) (x0 := conV w.heap.size #[]) (e := .mpn []) (dok_iff hd) (by rw [h2 d (by simp)]; exact hn) ((Below.refl _ _).alloc (Nat.le_refl _) _) (Nat.le_refl _) (by simp) ?_ ?_ (fun _ => Nat.le_refl _) conV_one⟩
  · exact ⟨w.heap.size, #[], #[], rfl, (MapKept.heap_alloc w _).1, rfl, rfl, fun j h => absurd h (by simp), fun j h => absurd h (by simp), fun j h => absurd h (by simp), fun j h => absurd h (by simp), fun i j b h => by simp [blkOf, undef] at h, fun i b h h' => by simp [blkOf, undef] at h'⟩
  · exact .der (Gam.set_self _ _ _) (fun g s e => by injection e with e; injection e with _ e; subst e; simp only [Dv.of, con0])
end
end Go.Proofs.Ytkbopbgcjfcjjaa
