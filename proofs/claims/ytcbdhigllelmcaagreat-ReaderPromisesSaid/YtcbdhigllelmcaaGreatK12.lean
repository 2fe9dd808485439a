/- Chapter 47, plain: names, event types (both CheckAll), values, events, keys. Chapter 47, plain: values, events of event types, keys (both). Chapter 47, plain: hashes, keys, key groups, items (both). Nothing: a name for the printed definitions. Chapter 36, plain: what the terms of Check, Global, Missing, Begin, Same come to. Chapter 36, plain: Missing, Begin, Same, SameBools, SameGaps, Few. Chapter 36, plain: CheckMessage; layer 34's place, has, with, Receive; Settled. Chapter 36, plain: Receive of layer 34 (both), Settled, a message noted by a tracker (both). -/
import Derived.Test.YtcbdhigllelmcaaGreatK11
import Derived.Test.YtcbdhigllelmcaaGreatK09
set_option linter.unusedVariables false
set_option linter.unusedSimpArgs false
namespace Go.Proofs.YtcbdhigllelmcaaGreat
open Go.RowKit

section
variable {α β : Type}
theorem idb_idx (s : ByteArray) (n : Int) (k : Int → Option β) : idb s n k = idx (bytesI s) n k := by
  unfold idb idx byteAt bytesI
  by_cases h : 0 ≤ n
  · rw [if_pos h, if_pos h, List.getElem?_map, Array.getElem?_toList]
    cases s.data[n.toNat]? <;> rfl
  · rw [if_neg h, if_neg h]
theorem bytesI_len (s : ByteArray) : (bytesI s).length = s.size := by simp only [bytesI, List.length_map, Array.length_toList]; rfl
theorem mlk_put {κ ν : Type} [DecidableEq κ] (l : List (κ × ν)) (k : κ) (v : ν) (k' : κ) : mlk (mput l k v) k' = if k' = k then some v else mlk l k' := by
  induction l with
  | nil => simp [mput, mlk]
  | cons x r ih =>
    obtain ⟨a, y⟩ := x
    simp only [mput]
    by_cases h : k = a
    · subst h
      rw [if_pos rfl]
      simp only [mlk]
      by_cases h2 : k' = k
      · rw [if_pos h2, if_pos h2]
      · rw [if_neg h2, if_neg h2, if_neg h2]
    · rw [if_neg h]
      simp only [mlk, ih]
      by_cases h2 : k' = a
      · subst h2
        rw [if_pos rfl, if_neg (fun e => h e.symm), if_pos rfl]
      · rw [if_neg h2, if_neg h2]
theorem mgt_k {κ ν : Type} [DecidableEq κ] (l : List (κ × ν)) (k : κ) (z : ν) (c : ν → Bool → Option β) : mgt l k z c = c ((mlk l k).getD z) (mlk l k).isSome := by unfold mgt; rfl
theorem mst_k {κ ν : Type} [DecidableEq κ] (l : List (κ × ν)) (k : κ) (v : ν) (c : List (κ × ν) → Option β) : mst l k v c = c (mput l k v) := by unfold mst; rfl
theorem if_nne {γ : Type} {x y : γ} [Decidable (x ≠ y)] {a b : α} (h : x = y) : (if x ≠ y then a else b) = b := if_neg (fun e => e h)
theorem dropK_cons {l : List α} {k : Nat} (h : k < l.length) : l.drop k = l[k] :: l.drop (k + 1) := List.drop_eq_getElem_cons h
theorem takeK {l : List α} {k : Nat} (h : k < l.length) : l.take (k + 1) = l.take k ++ [l[k]] := by rw [List.take_add_one, List.getElem?_eq_getElem h]; rfl
end

def letC (c : Int) : Bool := decide (c = 95 ∨ (97 ≤ c ∧ c ≤ 122) ∨ (65 ≤ c ∧ c ≤ 90))
def digC (c : Int) : Bool := decide (48 ≤ c ∧ c ≤ 57)
def alnC (c : Int) : Bool := letC c || digC c
def nameL : List Int → Bool
  | [] => false
  | c :: r => decide ((c :: r).length ≤ 24) && (letC c && (c :: r).all alnC)
def nameOk (s : ByteArray) : Bool := nameL (bytesI s)
theorem let_dig {c : Int} (h : letC c = true) : digC c = false := by
  unfold letC at h; unfold digC
  have := of_decide_eq_true h
  rw [decide_eq_false_iff_not]; omega
theorem p_letter (n : Nat) (c : Int) : F_schema_letter n c = some (letC c) := by
  unfold F_schema_letter letC
  simp only [cnd_if]
  (repeat' split) <;> (congr 1; first | (symm; rw [decide_eq_true_eq]; omega) | (symm; rw [decide_eq_false_iff_not]; omega) | (rw [decide_eq_decide]; omega))
theorem p_digit (n : Nat) (c : Int) : F_schema_digit n c = some (digC c) := by
  unfold F_schema_digit digC
  simp only [cnd_if]
  (repeat' split) <;> (congr 1; first | (symm; rw [decide_eq_true_eq]; omega) | (symm; rw [decide_eq_false_iff_not]; omega) | (rw [decide_eq_decide]; omega))
theorem p_rletter (n : Nat) (c : Int) : F_tidegateref03_letter n c = some (letC c) := by
  unfold F_tidegateref03_letter letC
  simp only [cnd_if]
  (repeat' split) <;> (congr 1; first | (symm; rw [decide_eq_true_eq]; omega) | (symm; rw [decide_eq_false_iff_not]; omega) | (rw [decide_eq_decide]; omega))
theorem p_name_l1 (n : Nat) (s : ByteArray) (hs : s.size ≤ 1000000) : ∀ (m k : Nat), k ≤ s.size → s.size < m + k → F_schema_name_l1 n s (some true) m (k : Int) = some (((bytesI s).drop k).all alnC)
  | 0, k, h1, h2 => by omega
  | m + 1, k, h1, h2 => by
    unfold F_schema_name_l1
    have hl := bytesI_len s
    simp only [cnd_if, idb_idx, p_letter, p_digit, bnd_some, cnd_not]
    by_cases h : k < s.size
    · have hk : k < (bytesI s).length := by omega
      rw [if_pos (by omega), idx_nat hk, idx_nat hk, dropK_cons hk, List.all_cons, wrapS k (by omega), p_name_l1 n s hs m (k + 1) (by omega) (by omega)]
      cases ha : letC (bytesI s)[k] <;> cases hb : digC (bytesI s)[k] <;> simp [cnd_t, cnd_f, alnC, ha, hb]
    · rw [if_neg (by omega), List.drop_eq_nil_of_le (by omega)]; rfl
theorem p_name (n : Nat) (s : ByteArray) (hn : 30 ≤ n) : F_schema_name n s = some (nameOk s) := by
  unfold F_schema_name nameOk
  have hl := bytesI_len s
  simp only [cnd_if, idb_idx, p_digit, bnd_some]
  cases hb : bytesI s with
  | nil => rw [hb] at hl; simp only [List.length_nil] at hl; rw [if_pos (by omega)]; rfl
  | cons c r =>
    rw [hb] at hl
    simp only [List.length_cons] at hl
    rw [if_neg (by omega)]
    by_cases h : 24 < s.size
    · rw [if_pos (by omega)]
      have : ¬ ((c :: r).length ≤ 24) := by simp only [List.length_cons]; omega
      rw [nameL, decide_eq_false this]; rfl
    · rw [if_neg (by omega), idx_zero]
      have h24 : (c :: r).length ≤ 24 := by simp only [List.length_cons]; omega
      have := p_name_l1 n s (by omega) n 0 (by omega) (by omega)
      simp only [Int.natCast_zero, List.drop_zero] at this
      rw [this, hb, nameL, decide_eq_true h24, List.all_cons, alnC]
      cases ha : letC c with
      | true => rw [let_dig ha]; simp [cnd_f]
      | false => cases hd : digC c <;> simp [cnd_t, cnd_f]
theorem p_rname_l1 (n : Nat) (s : ByteArray) (hs : s.size ≤ 1000000) : ∀ (m k : Nat), k ≤ s.size → s.size < m + k → F_tidegateref03_Name_l1 n s (some true) m (k : Int) = some (((bytesI s).drop k).all alnC)
  | 0, k, h1, h2 => by omega
  | m + 1, k, h1, h2 => by
    unfold F_tidegateref03_Name_l1
    have hl := bytesI_len s
    simp only [cnd_if, idb_idx, p_rletter, bnd_some, cnd_not]
    by_cases h : k < s.size
    · have hk : k < (bytesI s).length := by omega
      rw [if_pos (by omega), idx_nat hk, idx_nat hk, idx_nat hk, dropK_cons hk, List.all_cons, wrapS k (by omega), p_rname_l1 n s hs m (k + 1) (by omega) (by omega)]
      cases ha : letC (bytesI s)[k] with
      | true => simp [cnd_t, alnC, ha]
      | false =>
        rw [cnd_f, alnC, ha, Bool.false_or]
        by_cases h1 : (bytesI s)[k] < 48
        · rw [if_pos h1]
          have : digC (bytesI s)[k] = false := by unfold digC; rw [decide_eq_false_iff_not]; omega
          rw [this]; rfl
        · rw [if_neg h1]
          by_cases h2 : 57 < (bytesI s)[k]
          · rw [if_pos h2]
            have : digC (bytesI s)[k] = false := by unfold digC; rw [decide_eq_false_iff_not]; omega
            rw [this]; rfl
          · rw [if_neg h2]
            have : digC (bytesI s)[k] = true := by unfold digC; rw [decide_eq_true_eq]; omega
            rw [this]; rfl
    · rw [if_neg (by omega), List.drop_eq_nil_of_le (by omega)]; rfl
theorem p_rname (n : Nat) (s : ByteArray) (hn : 30 ≤ n) : F_tidegateref03_Name n s = some (nameOk s) := by
  unfold F_tidegateref03_Name nameOk
  have hl := bytesI_len s
  simp only [cnd_if, idb_idx, p_rletter, bnd_some, cnd_not]
  cases hb : bytesI s with
  | nil => rw [hb] at hl; simp only [List.length_nil] at hl; rw [if_pos (by omega)]; rfl
  | cons c r =>
    rw [hb] at hl
    simp only [List.length_cons] at hl
    rw [if_neg (by omega)]
    by_cases h : 24 < s.size
    · rw [if_pos (by omega)]
      have : ¬ ((c :: r).length ≤ 24) := by simp only [List.length_cons]; omega
      rw [nameL, decide_eq_false this]; rfl
    · rw [if_neg (by omega), idx_zero]
      have h24 : (c :: r).length ≤ 24 := by simp only [List.length_cons]; omega
      have := p_rname_l1 n s (by omega) n 0 (by omega) (by omega)
      simp only [Int.natCast_zero, List.drop_zero] at this
      rw [this, hb, nameL, decide_eq_true h24]
      cases ha : letC c <;> simp [cnd_t, cnd_f]

abbrev Fd := T_api_Field
abbrev Sch := T_api_Schema
def timeW : ByteArray := ByteArray.mk #[116, 105, 109, 101]
instance memBA (x : ByteArray) (l : List ByteArray) : Decidable (x ∈ l) := decidable_of_iff (l.any (fun y => decide (x = y)) = true) (by rw [List.any_eq_true]; exact ⟨fun ⟨y, h, e⟩ => (of_decide_eq_true e) ▸ h, fun h => ⟨x, h, decide_eq_true rfl⟩⟩)
def fldErr (prev : List ByteArray) (f : Fd) : Int :=
  if (nameOk f.fName && !decide (f.fName = timeW)) = false then 8 else if f.fName ∈ prev then 7 else if f.fKind < 0 ∨ 3 ≤ f.fKind then 1 else 0
theorem fldErr_8 {prev : List ByteArray} {f : Fd} (h : (nameOk f.fName && !decide (f.fName = timeW)) = false) : fldErr prev f = 8 := if_pos h
theorem fldErr_7 {prev : List ByteArray} {f : Fd} (h : (nameOk f.fName && !decide (f.fName = timeW)) = true) (h2 : f.fName ∈ prev) : fldErr prev f = 7 := by unfold fldErr; rw [if_neg (by rw [h]; decide), if_pos h2]
theorem fldErr_1 {prev : List ByteArray} {f : Fd} (h : (nameOk f.fName && !decide (f.fName = timeW)) = true) (h2 : f.fName ∉ prev) (h3 : f.fKind < 0 ∨ 3 ≤ f.fKind) : fldErr prev f = 1 := by unfold fldErr; rw [if_neg (by rw [h]; decide), if_neg h2, if_pos h3]
theorem fldErr_0 {prev : List ByteArray} {f : Fd} (h : (nameOk f.fName && !decide (f.fName = timeW)) = true) (h2 : f.fName ∉ prev) (h3 : ¬ (f.fKind < 0 ∨ 3 ≤ f.fKind)) : fldErr prev f = 0 := by unfold fldErr; rw [if_neg (by rw [h]; decide), if_neg h2, if_neg h3]
theorem ife_8 {x y : Int} (h : x = 8) : (if x = 0 then y else x) = 8 := by subst h; rfl
theorem ife_7 {x y : Int} (h : x = 7) : (if x = 0 then y else x) = 7 := by subst h; rfl
theorem ife_1 {x y : Int} (h : x = 1) : (if x = 0 then y else x) = 1 := by subst h; rfl
theorem ife_0 {x y : Int} (h : x = 0) : (if x = 0 then y else x) = y := if_pos h
def fldsErr : List ByteArray → List Fd → Int
  | _, [] => 0
  | prev, f :: r => if fldErr prev f = 0 then fldsErr (prev ++ [f.fName]) r else fldErr prev f
def schErr (s : Sch) : Int := if nameOk s.fName = false then 8 else if 8 < s.fFields.length then 5 else fldsErr [] s.fFields
def allsErr : List ByteArray → List Sch → Int
  | _, [] => 0
  | prev, s :: r => if schErr s ≠ 0 then schErr s else if s.fName ∈ prev then 7 else allsErr (prev ++ [s.fName]) r
def allErr (l : List Sch) : Int := if 16 < l.length then 5 else allsErr [] l
def Seen (m : List (ByteArray × Bool)) (p : List ByteArray) : Prop := ∀ x, mlk m x = if x ∈ p then some true else none
theorem Seen.nil : Seen [] [] := fun x => by simp [mlk]
theorem Seen.put {m : List (ByteArray × Bool)} {p : List ByteArray} (h : Seen m p) (a : ByteArray) : Seen (mput m a true) (p ++ [a]) := fun x => by
  rw [mlk_put, h x]
  by_cases h1 : x = a
  · simp [h1]
  · simp [h1]
theorem Seen.get {m : List (ByteArray × Bool)} {p : List ByteArray} (h : Seen m p) (a : ByteArray) : (mlk m a).getD false = decide (a ∈ p) := by
  rw [h a]
  by_cases h1 : a ∈ p <;> simp [h1]
theorem p_fname (n : Nat) (s : ByteArray) (hn : 30 ≤ n) : F_schema_fieldName n s = some (nameOk s && !decide (s = timeW)) := by
  unfold F_schema_fieldName
  rw [p_name n s hn, bnd_some, bytes_dec]
  cases nameOk s <;> simp only [cnd_t, cnd_f, Bool.false_and, Bool.true_and] <;> rfl
theorem p_sch_l1 (n : Nat) (s : Sch) (hl : s.fFields.length ≤ 1000000) (hn : 30 ≤ n) : ∀ (m k : Nat) (mp : List (ByteArray × Bool)), k ≤ s.fFields.length → s.fFields.length < m + k → Seen mp ((s.fFields.take k).map (·.fName)) →
    F_schema_Check_l1 n s (some 0) m ((k : Int), mp) = some (fldsErr ((s.fFields.take k).map (·.fName)) (s.fFields.drop k))
  | 0, k, mp, h1, h2, hs => by omega
  | m + 1, k, mp, h1, h2, hs => by
    unfold F_schema_Check_l1
    simp only [List.length_map, cnd_if, cnd_not, p_fname n _ hn, bnd_some, mgt_k, mst_k]
    by_cases h : k < s.fFields.length
    · rw [if_pos (by omega), idx_nat h, dropK_cons h, fldsErr, hs.get, wrapS k (by omega)]
      have hs' : Seen (mput mp s.fFields[k].fName true) ((s.fFields.take (k + 1)).map (·.fName)) := by rw [takeK h, List.map_append]; exact hs.put _
      have ih := p_sch_l1 n s hl hn m (k + 1) _ (by omega) (by omega) hs'
      rw [ih, takeK h, List.map_append]
      simp only [List.map_cons, List.map_nil]
      cases h3 : (nameOk s.fFields[k].fName && !decide (s.fFields[k].fName = timeW)) with
      | false => rw [cnd_f, ife_8 (fldErr_8 h3)]
      | true =>
        rw [cnd_t]
        by_cases h4 : s.fFields[k].fName ∈ (s.fFields.take k).map (·.fName)
        · rw [decide_eq_true h4, cnd_t, ife_7 (fldErr_7 h3 h4)]
        · rw [decide_eq_false h4, cnd_f]
          by_cases h5 : s.fFields[k].fKind < 0
          · rw [if_pos h5, ife_1 (fldErr_1 h3 h4 (Or.inl h5))]
          · rw [if_neg h5]
            by_cases h6 : 3 ≤ s.fFields[k].fKind
            · rw [if_pos h6, ife_1 (fldErr_1 h3 h4 (Or.inr h6))]
            · rw [if_neg h6, ife_0 (fldErr_0 h3 h4 (by omega))]
    · rw [if_neg (by omega), List.drop_eq_nil_of_le (by omega)]; rfl
theorem p_sch (n : Nat) (s : Sch) (hn : 30 ≤ n) : F_schema_Check n s = some (schErr s) := by
  unfold F_schema_Check schErr
  simp only [List.length_map, cnd_if, cnd_not, p_name n _ hn, bnd_some]
  cases h : nameOk s.fName with
  | false => simp [cnd_f]
  | true =>
    rw [cnd_t, if_neg (show ¬ (true = false) by decide)]
    by_cases h8 : 8 < s.fFields.length
    · rw [if_pos (by omega), if_pos h8]
    · rw [if_neg (by omega), if_neg h8]
      have := p_sch_l1 n s (by omega) hn n 0 [] (by omega) (by omega) .nil
      simpa using this
theorem p_all_l1 (n : Nat) (l : List Sch) (hl : l.length ≤ 1000000) (hn : 30 ≤ n) : ∀ (m k : Nat) (mp : List (ByteArray × Bool)), k ≤ l.length → l.length < m + k → Seen mp ((l.take k).map (·.fName)) →
    F_schema_CheckAll_l1 n l (some 0) m ((k : Int), mp) = some (allsErr ((l.take k).map (·.fName)) (l.drop k))
  | 0, k, mp, h1, h2, hs => by omega
  | m + 1, k, mp, h1, h2, hs => by
    unfold F_schema_CheckAll_l1
    simp only [List.length_map, cnd_if, cnd_not, p_sch n _ hn, bnd_some, mgt_k, mst_k]
    by_cases h : k < l.length
    · rw [if_pos (by omega), idx_nat h, dropK_cons h, allsErr, hs.get, wrapS k (by omega)]
      have hs' : Seen (mput mp l[k].fName true) ((l.take (k + 1)).map (·.fName)) := by rw [takeK h, List.map_append]; exact hs.put _
      have ih := p_all_l1 n l hl hn m (k + 1) _ (by omega) (by omega) hs'
      rw [ih, takeK h, List.map_append]
      simp only [List.map_cons, List.map_nil]
      by_cases h3 : schErr l[k] = 0
      · rw [if_pos h3, if_neg (show ¬ (schErr l[k] ≠ 0) from fun e => e h3)]
        by_cases h4 : l[k].fName ∈ (l.take k).map (·.fName)
        · rw [decide_eq_true h4, cnd_t, if_pos h4]
        · rw [decide_eq_false h4, cnd_f, if_neg h4]
      · rw [if_neg h3, if_pos h3]
    · rw [if_neg (by omega), List.drop_eq_nil_of_le (by omega)]; rfl
theorem p_all (n : Nat) (l : List Sch) (hn : 30 ≤ n) : F_schema_CheckAll n l = some (allErr l) := by
  unfold F_schema_CheckAll allErr
  simp only [List.length_map, cnd_if]
  by_cases h8 : 16 < l.length
  · rw [if_pos (by omega), if_pos h8]
  · rw [if_neg (by omega), if_neg h8]
    have := p_all_l1 n l (by omega) hn n 0 [] (by omega) (by omega) .nil
    simpa using this
def posN (a : ByteArray) : Nat → List ByteArray → Int
  | _, [] => -1
  | k, b :: r => if b = a then (k : Int) else posN a (k + 1) r
theorem posN_lt (a : ByteArray) : ∀ (l : List ByteArray) (k i : Nat) (h : i < l.length), l[i] = a → (posN a k l < ((k + i : Nat) : Int) ↔ a ∈ l.take i)
  | [], k, i, h, e => by simp at h
  | b :: r, k, i, h, e => by
    rw [posN]
    by_cases hb : b = a
    · rw [if_pos hb]
      cases i with
      | zero => simp
      | succ i => simp [hb]; omega
    · rw [if_neg hb]
      cases i with
      | zero => simp at e; exact absurd e hb
      | succ i =>
        have := posN_lt a r (k + 1) i (by simpa using h) (by simpa using e)
        rw [show k + (i + 1) = k + 1 + i by omega, this]
        simp only [List.take_succ_cons, List.mem_cons]
        exact ⟨Or.inr, fun h => h.resolve_left (fun e => hb e.symm)⟩
theorem p_pos_l1 (n : Nat) (a : ByteArray) (s : Sch) (hl : s.fFields.length ≤ 1000000) : ∀ (m k : Nat), k ≤ s.fFields.length → s.fFields.length < m + k → F_tidegateref03_Position_l1 n a s (some (-1)) m (k : Int) = some (posN a k ((s.fFields.drop k).map (·.fName)))
  | 0, k, h1, h2 => by omega
  | m + 1, k, h1, h2 => by
    unfold F_tidegateref03_Position_l1
    simp only [List.length_map, cnd_if, bytes_dec]
    by_cases h : k < s.fFields.length
    · rw [if_pos (by omega), idx_nat h, dropK_cons h, List.map_cons, posN, wrapS k (by omega), p_pos_l1 n a s hl m (k + 1) (by omega) (by omega)]
      split <;> rfl
    · rw [if_neg (by omega), List.drop_eq_nil_of_le (by omega)]; rfl
theorem p_pos (n : Nat) (a : ByteArray) (s : Sch) (hl : s.fFields.length ≤ 1000000) (hn : s.fFields.length < n) : F_tidegateref03_Position n s a = some (posN a 0 (s.fFields.map (·.fName))) := by
  unfold F_tidegateref03_Position
  have := p_pos_l1 n a s hl n 0 (by omega) (by omega)
  simpa using this
theorem p_where_l1 (n : Nat) (a : ByteArray) (l : List Sch) (hl : l.length ≤ 1000000) : ∀ (m k : Nat), k ≤ l.length → l.length < m + k → F_tidegateref03_Where_l1 n a l (some (-1)) m (k : Int) = some (posN a k ((l.drop k).map (·.fName)))
  | 0, k, h1, h2 => by omega
  | m + 1, k, h1, h2 => by
    unfold F_tidegateref03_Where_l1
    simp only [List.length_map, cnd_if, bytes_dec]
    by_cases h : k < l.length
    · rw [if_pos (by omega), idx_nat h, dropK_cons h, List.map_cons, posN, wrapS k (by omega), p_where_l1 n a l hl m (k + 1) (by omega) (by omega)]
      split <;> rfl
    · rw [if_neg (by omega), List.drop_eq_nil_of_le (by omega)]; rfl
theorem p_where (n : Nat) (a : ByteArray) (l : List Sch) (hl : l.length ≤ 1000000) (hn : l.length < n) : F_tidegateref03_Where n l a = some (posN a 0 (l.map (·.fName))) := by
  unfold F_tidegateref03_Where
  have := p_where_l1 n a l hl n 0 (by omega) (by omega)
  simpa using this
theorem p_rsch_l1 (n : Nat) (s : Sch) (hl : s.fFields.length ≤ 1000) (hn : 1001 ≤ n) : ∀ (m k : Nat), k ≤ s.fFields.length → s.fFields.length < m + k →
    F_tidegateref03_Check_l1 n s (some 0) m (k : Int) = some (fldsErr ((s.fFields.take k).map (·.fName)) (s.fFields.drop k))
  | 0, k, h1, h2 => by omega
  | m + 1, k, h1, h2 => by
    unfold F_tidegateref03_Check_l1
    simp only [List.length_map, cnd_if, cnd_not, p_rname n _ (by omega : 30 ≤ n), bnd_some, bytes_dec, p_pos n _ s (by omega) (by omega)]
    by_cases h : k < s.fFields.length
    · rw [if_pos (by omega), idx_nat h, dropK_cons h, fldsErr, wrapS k (by omega)]
      have hp : posN s.fFields[k].fName 0 (s.fFields.map (·.fName)) < (k : Int) ↔ s.fFields[k].fName ∈ (s.fFields.take k).map (·.fName) := by
        have := posN_lt s.fFields[k].fName (s.fFields.map (·.fName)) 0 k (by simpa using h) (by simp)
        rw [Nat.zero_add, ← List.map_take] at this
        exact this
      rw [p_rsch_l1 n s hl hn m (k + 1) (by omega) (by omega), takeK h, List.map_append]
      simp only [List.map_cons, List.map_nil]
      cases h3 : nameOk s.fFields[k].fName with
      | false => rw [cnd_f, ife_8 (fldErr_8 (by rw [h3]; rfl))]
      | true =>
        rw [cnd_t]
        by_cases h7 : s.fFields[k].fName = timeW
        · rw [if_pos (show s.fFields[k].fName = ByteArray.mk #[116, 105, 109, 101] from h7), ife_8 (fldErr_8 (by rw [h3, decide_eq_true h7]; rfl))]
        · have hok : (nameOk s.fFields[k].fName && !decide (s.fFields[k].fName = timeW)) = true := by rw [h3, decide_eq_false h7]; rfl
          rw [if_neg (show ¬ s.fFields[k].fName = ByteArray.mk #[116, 105, 109, 101] from h7)]
          by_cases h4 : s.fFields[k].fName ∈ (s.fFields.take k).map (·.fName)
          · rw [if_pos (hp.2 h4), ife_7 (fldErr_7 hok h4)]
          · rw [if_neg (fun e => h4 (hp.1 e))]
            by_cases h5 : s.fFields[k].fKind = 0
            · rw [if_pos h5, ife_0 (fldErr_0 hok h4 (by omega))]
            · rw [if_neg h5]
              by_cases h6 : s.fFields[k].fKind = 1
              · rw [if_pos h6, ife_0 (fldErr_0 hok h4 (by omega))]
              · rw [if_neg h6]
                by_cases h8 : s.fFields[k].fKind = 2
                · rw [if_pos h8, ife_0 (fldErr_0 hok h4 (by omega))]
                · rw [if_neg h8, ife_1 (fldErr_1 hok h4 (by omega))]
    · rw [if_neg (by omega), List.drop_eq_nil_of_le (by omega)]; rfl
theorem p_rsch (n : Nat) (s : Sch) (hn : 1001 ≤ n) : F_tidegateref03_Check n s = some (schErr s) := by
  unfold F_tidegateref03_Check schErr
  simp only [List.length_map, cnd_if, cnd_not, p_rname n _ (by omega : 30 ≤ n), bnd_some]
  cases h : nameOk s.fName with
  | false => simp [cnd_f]
  | true =>
    rw [cnd_t, if_neg (show ¬ (true = false) by decide)]
    by_cases h8 : 8 < s.fFields.length
    · rw [if_pos (by omega), if_pos h8]
    · rw [if_neg (by omega), if_neg h8]
      have := p_rsch_l1 n s (by omega) hn n 0 (by omega) (by omega)
      simpa using this
theorem p_rall_l1 (n : Nat) (l : List Sch) (hl : l.length ≤ 1000) (hn : 1001 ≤ n) : ∀ (m k : Nat), k ≤ l.length → l.length < m + k →
    F_tidegateref03_CheckAll_l1 n l (some 0) m (k : Int) = some (allsErr ((l.take k).map (·.fName)) (l.drop k))
  | 0, k, h1, h2 => by omega
  | m + 1, k, h1, h2 => by
    unfold F_tidegateref03_CheckAll_l1
    simp only [List.length_map, cnd_if, cnd_not, p_rsch n _ hn, bnd_some, p_where n _ l (by omega) (by omega)]
    by_cases h : k < l.length
    · rw [if_pos (by omega), idx_nat h, idx_nat h, dropK_cons h, allsErr, wrapS k (by omega)]
      have hp : posN l[k].fName 0 (l.map (·.fName)) < (k : Int) ↔ l[k].fName ∈ (l.take k).map (·.fName) := by
        have := posN_lt l[k].fName (l.map (·.fName)) 0 k (by simpa using h) (by simp)
        rw [Nat.zero_add, ← List.map_take] at this
        exact this
      rw [p_rall_l1 n l hl hn m (k + 1) (by omega) (by omega), takeK h, List.map_append]
      simp only [List.map_cons, List.map_nil]
      by_cases h3 : schErr l[k] = 0
      · rw [if_pos h3, if_neg (show ¬ (schErr l[k] ≠ 0) from fun e => e h3)]
        by_cases h4 : l[k].fName ∈ (l.take k).map (·.fName)
        · rw [if_pos (hp.2 h4), if_pos h4]
        · rw [if_neg (fun e => h4 (hp.1 e)), if_neg h4]
      · rw [if_neg h3, if_pos h3]
    · rw [if_neg (by omega), List.drop_eq_nil_of_le (by omega)]; rfl
theorem p_rall (n : Nat) (l : List Sch) (hn : 1001 ≤ n) : F_tidegateref03_CheckAll n l = some (allErr l) := by
  unfold F_tidegateref03_CheckAll allErr
  simp only [List.length_map, cnd_if]
  by_cases h8 : 16 < l.length
  · rw [if_pos (by omega), if_pos h8]
  · rw [if_neg (by omega), if_neg h8]
    have := p_rall_l1 n l (by omega) hn n 0 (by omega) (by omega)
    simpa using this
end Go.Proofs.YtcbdhigllelmcaaGreat
namespace Go.Proofs.YtcbdhigllelmcaaGreat
open Go.RowKit

abbrev Vl := T_api_Value
def valErr (v : Vl) : Int :=
  if v.fKind = 2 then (if v.fNum ≠ 0 then 3 else if 64 < v.fText.size then 13 else 0)
  else if v.fKind = 0 ∨ v.fKind = 1 then
    (if v.fText ≠ ByteArray.empty then 3 else if v.fKind = 1 ∧ v.fNum ≠ 0 ∧ v.fNum ≠ 1 then 2 else if v.fKind = 0 ∧ (v.fNum < -1099511627776 ∨ 1099511627776 < v.fNum) then 2 else 0)
  else 1
theorem size_empty : ByteArray.empty.size = 0 := rfl
theorem p_val (n : Nat) (v : Vl) : F_value_Check n v = some (valErr v) := by
  obtain ⟨kd, nm, tx⟩ := v
  unfold F_value_Check F_value_size valErr
  simp only [cnd_if, cnd_not, bytes_dec]
  by_cases h0 : kd = 0
  · subst h0
    by_cases ht : tx = ByteArray.empty
    · subst ht
      simp only [if_true, cnd_if]
      by_cases h1 : nm < -1099511627776
      · simp [h1, bnd_some]
      · by_cases h2 : 1099511627776 < nm
        · simp [h1, h2, bnd_some]
        · simp [h1, h2, bnd_some, size_empty]
    · simp [ht, cnd_f, cnd_if]
  · by_cases h1 : kd = 1
    · subst h1
      by_cases ht : tx = ByteArray.empty
      · subst ht
        by_cases h2 : nm = 0
        · subst h2; simp [bnd_some, size_empty, cnd_t, cnd_f, cnd_if]
        · by_cases h3 : nm = 1
          · subst h3; simp [bnd_some, size_empty, cnd_t, cnd_f, cnd_if]
          · simp [bnd_some, size_empty, h2, h3, cnd_t, cnd_f, cnd_if]
      · simp [ht, cnd_f, cnd_t, cnd_if]
    · by_cases h2 : kd = 2
      · subst h2
        by_cases h3 : nm = 0
        · subst h3
          by_cases h4 : 64 < tx.size
          · have : (64 : Int) < (tx.size : Int) := by omega
            simp [bnd_some, cnd_t, cnd_f, cnd_if, h4, this]
          · have : ¬ (64 : Int) < (tx.size : Int) := by omega
            simp [bnd_some, cnd_t, cnd_f, cnd_if, h4, this]
        · simp [bnd_some, cnd_t, cnd_f, cnd_if, h3]
      · simp [h0, h1, h2]
theorem p_rval (n : Nat) (v : Vl) : F_tidegateref01_Check n v = some (valErr v) := by
  obtain ⟨kd, nm, tx⟩ := v
  unfold F_tidegateref01_Check valErr
  simp only [cnd_if, cnd_not, bytes_dec]
  by_cases h0 : kd < 0
  · have : ¬ kd = 2 := by omega
    have h2 : ¬ (kd = 0 ∨ kd = 1) := by omega
    simp [h0, this, h2]
  · by_cases h1 : 2 < kd
    · have : ¬ kd = 2 := by omega
      have h2 : ¬ (kd = 0 ∨ kd = 1) := by omega
      simp [h0, h1, this, h2]
    · rw [if_neg h0, if_neg h1]
      by_cases h2 : kd = 2
      · subst h2
        by_cases h3 : nm = 0
        · by_cases h4 : 64 < tx.size
          · have : (64 : Int) < (tx.size : Int) := by omega
            simp [h3, h4, this]
          · have : ¬ (64 : Int) < (tx.size : Int) := by omega
            simp [h3, h4, this]
        · simp [h3]
      · have h3 : kd = 0 ∨ kd = 1 := by omega
        rw [if_neg h2]
        by_cases ht : tx = ByteArray.empty
        · rcases h3 with rfl | rfl
          · by_cases h5 : nm < -1099511627776
            · simp [ht, cnd_t, h5]
            · by_cases h6 : 1099511627776 < nm
              · simp [ht, cnd_t, h5, h6]
              · simp [ht, cnd_t, h5, h6]
          · by_cases h5 : nm < 0
            · have : ¬ nm = 0 := by omega
              have h6 : ¬ nm = 1 := by omega
              simp [ht, cnd_t, h5, this, h6]
            · by_cases h6 : 1 < nm
              · have : ¬ nm = 0 := by omega
                have h7 : ¬ nm = 1 := by omega
                simp [ht, cnd_t, h5, h6, this, h7]
              · have h7 : nm = 0 ∨ nm = 1 := by omega
                rcases h7 with rfl | rfl <;> simp [ht, cnd_t]
        · rcases h3 with rfl | rfl <;> simp [ht, cnd_f]

abbrev Ev47 := T_api_Event
def numErr (e : Ev47) : Int := if e.fSource < 0 ∨ 8 ≤ e.fSource then 32 else if e.fSeq < 0 ∨ 1099511627776 < e.fSeq ∨ e.fTime < 0 ∨ 1099511627776 < e.fTime then 2 else 0
def valsErr : List Vl → List Fd → Int
  | v :: r, f :: s => if valErr v ≠ 0 then valErr v else if v.fKind ≠ f.fKind then 9 else valsErr r s
  | _, _ => 0
def evErr (l : List Sch) (e : Ev47) : Int :=
  if numErr e ≠ 0 then numErr e else if e.fType < 0 ∨ (l.length : Int) ≤ e.fType then 6 else
    if e.fValues.length ≠ (l.getD e.fType.toNat default).fFields.length then 15 else valsErr e.fValues (l.getD e.fType.toNat default).fFields
theorem p_numbers (n : Nat) (e : Ev47) : F_event_numbers n e = some (numErr e) := by
  unfold F_event_numbers numErr
  simp only [cnd_if]
  (repeat' split) <;> first | rfl | (exfalso; omega)
theorem p_evV_l1 (n : Nat) (e : Ev47) (s : Sch) (hl : e.fValues.length = s.fFields.length) (hs : e.fValues.length ≤ 1000000) : ∀ (m k : Nat), k ≤ e.fValues.length → e.fValues.length < m + k → F_event_valid_l1 n e s (some 0) m (k : Int) = some (valsErr (e.fValues.drop k) (s.fFields.drop k))
  | 0, k, h1, h2 => by omega
  | m + 1, k, h1, h2 => by
    unfold F_event_valid_l1
    simp only [List.length_map, cnd_if, cnd_not, p_val, bnd_some]
    by_cases h : k < e.fValues.length
    · have h' : k < s.fFields.length := by omega
      rw [if_pos (by omega), idx_nat h, idx_nat h', dropK_cons h, dropK_cons h', valsErr, wrapS k (by omega), p_evV_l1 n e s hl hs m (k + 1) (by omega) (by omega)]
      by_cases h3 : valErr e.fValues[k] = 0
      · rw [if_pos h3, if_nne h3]
        by_cases h4 : e.fValues[k].fKind = s.fFields[k].fKind
        · rw [if_pos h4, if_nne h4]
        · rw [if_neg h4, if_pos h4]
      · rw [if_neg h3, if_pos h3]
    · rw [if_neg (by omega), List.drop_eq_nil_of_le (by omega)]; rfl
theorem getD_toNat {l : List Sch} {t : Int} (h0 : 0 ≤ t) (h1 : t < (l.length : Int)) : l.getD t.toNat default = l[t.toNat]'(by omega) := by
  rw [List.getD_eq_getElem?_getD, List.getElem?_eq_getElem (by omega)]; rfl
theorem p_evV (n : Nat) (l : List Sch) (e : Ev47) (hs : e.fValues.length ≤ 1000000) (hn : e.fValues.length < n) : F_event_valid n l e = some (evErr l e) := by
  unfold F_event_valid evErr
  simp only [List.length_map, cnd_if, cnd_not, p_numbers, bnd_some]
  by_cases h0 : numErr e = 0
  · rw [if_pos h0, if_nne h0]
    by_cases h1 : e.fType < 0
    · rw [if_pos h1, if_pos (Or.inl h1)]
    · rw [if_neg h1]
      by_cases h2 : (l.length : Int) ≤ e.fType
      · rw [if_pos h2, if_pos (Or.inr h2)]
      · rw [if_neg h2, if_neg (by omega), idx_int (by omega) (by omega), getD_toNat (by omega) (by omega)]
        by_cases h3 : e.fValues.length = (l[e.fType.toNat]'(by omega)).fFields.length
        · rw [if_pos (by omega), if_nne h3]
          have := p_evV_l1 n e _ h3 hs n 0 (by omega) (by omega)
          simpa using this
        · rw [if_neg (by omega), if_pos h3]
  · rw [if_neg h0, if_pos h0]
theorem p_revV_l1 (n : Nat) (e : Ev47) (s : Sch) (hl : e.fValues.length = s.fFields.length) (hs : e.fValues.length ≤ 1000000) : ∀ (m k : Nat), k ≤ e.fValues.length → e.fValues.length < m + k → F_tidegateref04_Valid_l1 n e s (some 0) m (k : Int) = some (valsErr (e.fValues.drop k) (s.fFields.drop k))
  | 0, k, h1, h2 => by omega
  | m + 1, k, h1, h2 => by
    unfold F_tidegateref04_Valid_l1
    simp only [List.length_map, cnd_if, cnd_not, p_rval, bnd_some]
    by_cases h : k < e.fValues.length
    · have h' : k < s.fFields.length := by omega
      rw [if_pos (by omega), idx_nat h, idx_nat h, idx_nat h', dropK_cons h, dropK_cons h', valsErr, wrapS k (by omega), p_revV_l1 n e s hl hs m (k + 1) (by omega) (by omega)]
      by_cases h3 : valErr e.fValues[k] = 0
      · rw [if_pos h3, if_nne h3]
        by_cases h4 : e.fValues[k].fKind = s.fFields[k].fKind
        · rw [if_pos h4, if_nne h4]
        · rw [if_neg h4, if_pos h4]
      · rw [if_neg h3, if_pos h3]
    · rw [if_neg (by omega), List.drop_eq_nil_of_le (by omega)]; rfl
theorem p_rvalidE (n : Nat) (l : List Sch) (e : Ev47) (hs : e.fValues.length ≤ 1000000) (hn : e.fValues.length < n) : F_tidegateref04_Valid n l e = some (evErr l e) := by
  unfold F_tidegateref04_Valid evErr
  simp only [List.length_map, cnd_if, cnd_not]
  have key : ∀ (X : Option Int), (if e.fSource < 0 then some 32 else if 8 ≤ e.fSource then some 32 else if e.fSeq < 0 then some 2 else if 1099511627776 < e.fSeq then some 2 else if e.fTime < 0 then some 2 else if 1099511627776 < e.fTime then some 2 else X) = if numErr e ≠ 0 then some (numErr e) else X := fun X => by
    unfold numErr
    (repeat' split) <;> first | rfl | (exfalso; omega) | (exfalso; simp_all; done) | (exfalso; simp_all; omega)
  rw [key]
  by_cases h0 : numErr e = 0
  · rw [if_nne h0, if_nne h0]
    by_cases h1 : e.fType < 0
    · rw [if_pos h1, if_pos (Or.inl h1)]
    · rw [if_neg h1]
      by_cases h2 : (l.length : Int) ≤ e.fType
      · rw [if_pos h2, if_pos (Or.inr h2)]
      · rw [if_neg h2, if_neg (by omega), idx_int (by omega) (by omega), getD_toNat (by omega) (by omega)]
        by_cases h3 : e.fValues.length = (l[e.fType.toNat]'(by omega)).fFields.length
        · rw [if_pos (by omega), if_nne h3]
          have := p_revV_l1 n e _ h3 hs n 0 (by omega) (by omega)
          simpa using this
        · rw [if_neg (by omega), if_pos h3]
  · rw [if_pos h0, if_pos h0]
theorem p_evCheck (n : Nat) (l : List Sch) (e : Ev47) (hs : e.fValues.length ≤ 1000000) (hn : e.fValues.length < n) (hn2 : 30 ≤ n) (ha : allErr l = 0) : F_event_Check n l e = some (evErr l e) := by
  unfold F_event_Check
  rw [p_all n l hn2, bnd_some, ha]
  simp only [p_evV n l e hs hn, bnd_some, cnd_not, decide_true, cnd_t]
theorem evErr_zero {l : List Sch} {e : Ev47} (h : evErr l e = 0) : numErr e = 0 ∧ 0 ≤ e.fType ∧ ∃ ht : e.fType.toNat < l.length, e.fValues.length = l[e.fType.toNat].fFields.length ∧ valsErr e.fValues l[e.fType.toNat].fFields = 0 := by
  unfold evErr at h
  by_cases h0 : numErr e = 0
  · rw [if_nne h0] at h
    by_cases h1 : e.fType < 0 ∨ (l.length : Int) ≤ e.fType
    · rw [if_pos h1] at h; exact absurd h (by decide)
    · rw [if_neg h1, getD_toNat (by omega) (by omega)] at h
      have ht : e.fType.toNat < l.length := by omega
      by_cases h2 : e.fValues.length = l[e.fType.toNat].fFields.length
      · rw [if_nne h2] at h
        exact ⟨h0, by omega, ht, h2, h⟩
      · rw [if_pos h2] at h; exact absurd h (by decide)
  · rw [if_pos h0] at h; exact absurd h h0
theorem valsErr_at : ∀ {vs : List Vl} {fs : List Fd}, vs.length = fs.length → valsErr vs fs = 0 → ∀ v ∈ vs, valErr v = 0
  | [], [], _, _ => fun v hv => by simp at hv
  | x :: r, f :: s, hl, h => fun v hv => by
    rw [valsErr] at h
    by_cases h1 : valErr x = 0
    · rw [if_nne h1] at h
      by_cases h2 : x.fKind = f.fKind
      · rw [if_nne h2] at h
        rcases List.mem_cons.1 hv with rfl | hv
        · exact h1
        · exact valsErr_at (by simpa using hl) h v hv
      · rw [if_pos h2] at h; exact absurd h (by decide)
    · rw [if_pos h1] at h; exact absurd h h1
  | [], _ :: _, hl, _ => by simp at hl
  | _ :: _, [], hl, _ => by simp at hl
end Go.Proofs.YtcbdhigllelmcaaGreat
namespace Go.Proofs.YtcbdhigllelmcaaGreat
open Go.RowKit

theorem w8 (n : Int) : IntKind.u8.wrap n = n % 256 := by simp [IntKind.wrap, IntKind.bits, IntKind.signed]
theorem w32 (n : Int) : IntKind.u32.wrap n = n % 4294967296 := by simp [IntKind.wrap, IntKind.bits, IntKind.signed]
def mixN (h c : Nat) : Nat := (h ^^^ c) * 16777619 % 4294967296
def mixI (h c : Int) : Int := (mixN h.toNat c.toNat : Nat)
theorem mixI_nn (h c : Int) : 0 ≤ mixI h c ∧ mixI h c < 4294967296 := by
  unfold mixI mixN
  have := Nat.mod_lt ((h.toNat ^^^ c.toNat) * 16777619) (show 0 < 4294967296 by decide)
  omega
theorem ofInt_nat (n m : Nat) : BitVec.ofInt n (m : Int) = BitVec.ofNat n m := by
  apply BitVec.eq_of_toNat_eq
  simp [BitVec.toNat_ofInt]
theorem bld_eq {α β : Type} (l : List α) (k : List α → Option β) : bld l k = k l := rfl
theorem bldS_eq {α β : Type} (l : List α) (k : List α → Option β) : bldS l k = k l := rfl
theorem xor_lt {a b n : Nat} (ha : a < 2 ^ n) (hb : b < 2 ^ n) : a ^^^ b < 2 ^ n := Nat.xor_lt_two_pow ha hb
theorem mix32 (h c : Int) (h0 : 0 ≤ h ∧ h < 4294967296) (h1 : 0 ≤ c ∧ c ≤ 255) :
    IntKind.wrap .u32 ((IntKind.wrap .u32 (BitVec.toNat (BitVec.ofInt (IntKind.bits .u32) h ^^^ (BitVec.ofInt (IntKind.bits .u32) (IntKind.wrap .u32 c))) : Int)) * 16777619) = mixI h c := by
  obtain ⟨a, rfl⟩ : ∃ a : Nat, h = (a : Int) := ⟨h.toNat, by omega⟩
  obtain ⟨b, rfl⟩ : ∃ b : Nat, c = (b : Int) := ⟨c.toNat, by omega⟩
  rw [w32 ((b : Nat) : Int), show ((b : Nat) : Int) % 4294967296 = (b : Int) by omega, ofInt_nat, ofInt_nat, BitVec.toNat_xor, BitVec.toNat_ofNat, BitVec.toNat_ofNat]
  rw [Nat.mod_eq_of_lt (show a < 2 ^ IntKind.bits .u32 by simp only [IntKind.bits]; omega), Nat.mod_eq_of_lt (show b < 2 ^ IntKind.bits .u32 by simp only [IntKind.bits]; omega)]
  have hx := xor_lt (n := 32) (show a < 2 ^ 32 by omega) (show b < 2 ^ 32 by omega)
  rw [w32, w32]
  unfold mixI mixN
  simp only [Int.toNat_natCast]
  omega
theorem bytesI_b (s : ByteArray) : ∀ c ∈ bytesI s, 0 ≤ c ∧ c ≤ 255 := fun c hc => by
  unfold bytesI at hc
  obtain ⟨b, _, rfl⟩ := List.mem_map.1 hc
  have := b.toNat_lt
  omega
def shB (x : Int) : Nat → List Int
  | 0 => []
  | k + 1 => IntKind.wrap .u8 (Int.fdiv x (2 ^ (8 * k))) :: shB x k
def bytesV (v : Vl) : List Int := IntKind.wrap .u8 v.fKind :: (if v.fKind = 2 then bytesI v.fText else shB v.fNum 8)
def hashB (h : Int) (l : List Int) : Int := l.foldl mixI h
theorem dec_cons {α : Type} [DecidableEq α] (x y : α) (r s : List α) : decide (x :: r = y :: s) = (decide (x = y) && decide (r = s)) := by simp
def hashV (v : Vl) : Int := hashB 2166136261 (bytesV v)
theorem shB_len (x : Int) : ∀ k, (shB x k).length = k
  | 0 => rfl
  | k + 1 => by simp [shB, shB_len x k]
theorem shB_b (x : Int) : ∀ k, ∀ c ∈ shB x k, 0 ≤ c ∧ c ≤ 255
  | 0, c, h => by simp [shB] at h
  | k + 1, c, h => by
    rw [shB] at h
    rcases List.mem_cons.1 h with rfl | h
    · rw [w8]; omega
    · exact shB_b x k c h
theorem hashB_nn : ∀ (l : List Int) (h : Int), 0 ≤ h ∧ h < 4294967296 → 0 ≤ hashB h l ∧ hashB h l < 4294967296
  | [], h, h0 => h0
  | c :: r, h, h0 => hashB_nn r (mixI h c) (mixI_nn h c)
theorem hashV_nn (v : Vl) : 0 ≤ hashV v ∧ hashV v < 4294967296 := hashB_nn _ _ (by decide)
theorem p_hash_l1 (n : Nat) (x : List Int) (hx : ∀ c ∈ x, 0 ≤ c ∧ c ≤ 255) (hl : x.length ≤ 1000000) (K : Int → Option (Int × Int)) : ∀ (m k : Nat) (h : Int), k ≤ x.length → x.length < m + k → 0 ≤ h ∧ h < 4294967296 → F_value_Hash_l1 n x K m (h, (k : Int)) = K (hashB h (x.drop k))
  | 0, k, h, h1, h2, h0 => by omega
  | m + 1, k, h, h1, h2, h0 => by
    unfold F_value_Hash_l1
    simp only [List.length_map, cnd_if]
    by_cases h3 : k < x.length
    · rw [if_pos (by omega), nat_nat h3, elt_ok h3, mix32 h _ h0 (hx _ (List.getElem_mem h3)), wrapS k (by omega), p_hash_l1 n x hx hl K m (k + 1) _ (by omega) (by omega) (mixI_nn _ _), dropK_cons h3]
      rfl
    · rw [if_neg (by omega), List.drop_eq_nil_of_le (by omega)]; rfl
theorem p_hash_l3 (n : Nat) (x : List Int) (hx : ∀ c ∈ x, 0 ≤ c ∧ c ≤ 255) (hl : x.length ≤ 1000000) (K : Int → Option (Int × Int)) : ∀ (m k : Nat) (h : Int), k ≤ x.length → x.length < m + k → 0 ≤ h ∧ h < 4294967296 → F_value_Hash_l3 n x K m (h, (k : Int)) = K (hashB h (x.drop k))
  | 0, k, h, h1, h2, h0 => by omega
  | m + 1, k, h, h1, h2, h0 => by
    unfold F_value_Hash_l3
    simp only [List.length_map, cnd_if]
    by_cases h3 : k < x.length
    · rw [if_pos (by omega), nat_nat h3, elt_ok h3, mix32 h _ h0 (hx _ (List.getElem_mem h3)), wrapS k (by omega), p_hash_l3 n x hx hl K m (k + 1) _ (by omega) (by omega) (mixI_nn _ _), dropK_cons h3]
      rfl
    · rw [if_neg (by omega), List.drop_eq_nil_of_le (by omega)]; rfl
theorem p_hash_l2 (n : Nat) (v : Vl) (K : List Int → Option (Int × Int)) : ∀ (k m : Nat) (acc : List Int), k < m → k ≤ 8 → acc.length + k ≤ 1000 → F_value_Hash_l2 n v K m (8 * (k : Int) - 8, acc) = K (acc ++ shB v.fNum k)
  | 0, m + 1, acc, h1, h2, h3 => by
    unfold F_value_Hash_l2
    simp only [cnd_if]
    rw [if_neg (by omega), shB, List.append_nil]
  | k + 1, m + 1, acc, h1, h2, h3 => by
    unfold F_value_Hash_l2
    simp only [cnd_if]
    have e : 8 * ((k + 1 : Nat) : Int) - 8 = ((8 * k : Nat) : Int) := by omega
    rw [e, if_pos (by omega), shx_ok (by omega)]
    rw [bldS_eq, app_ok (by simp; omega) (by omega), wrap_in (((8 * k : Nat) : Int) - 8) (by omega), show ((8 * k : Nat) : Int) - 8 = 8 * (k : Int) - 8 by omega, p_hash_l2 n v K k m _ (by omega) (by omega) (by simp only [List.length_append, List.length_cons, List.length_nil]; omega)]
    have e2 : min (Int.toNat ((8 * k : Nat) : Int)) (IntKind.bits .i64) = 8 * k := by simp only [Int.toNat_natCast, IntKind.bits]; omega
    rw [e2, shB, List.append_assoc]
    rfl
theorem valErr_text {v : Vl} (h : valErr v = 0) (h2 : v.fKind = 2) : v.fText.size ≤ 64 := by
  unfold valErr at h
  rw [if_pos h2] at h
  split at h
  · exact absurd h (by decide)
  · split at h
    · exact absurd h (by decide)
    · omega
def hashE (v : Vl) : Int × Int := if valErr v ≠ 0 then (0, valErr v) else (hashV v, 0)
theorem bytesV_b (v : Vl) : ∀ c ∈ bytesV v, 0 ≤ c ∧ c ≤ 255 := fun c hc => by
  unfold bytesV at hc
  rcases List.mem_cons.1 hc with rfl | hc
  · rw [w8]; omega
  · split at hc
    · exact bytesI_b _ _ hc
    · exact shB_b _ _ _ hc
theorem p_hash (n : Nat) (v : Vl) (hn : 100 ≤ n) : F_value_Hash n v = some (hashE v) := by
  unfold F_value_Hash hashE
  rw [p_val, bnd_some]
  simp only [cnd_not, cnd_if]
  by_cases h : valErr v = 0
  · rw [if_pos h, if_nne h]
    rw [bld_eq]
    have hb := bytesV_b v
    have hh := hashV_nn v
    by_cases h2 : v.fKind = 2
    · have ht := valErr_text h h2
      have hz := bytesI_len v.fText
      rw [if_pos h2, app_ok (by simp; omega) (by omega)]
      have e : ([IntKind.wrap .u8 v.fKind] ++ bytesI v.fText : List Int) = bytesV v := by unfold bytesV; rw [if_pos h2]; rfl
      rw [e]
      have hlen : (bytesV v).length ≤ 65 := by rw [← e]; simp; omega
      have := p_hash_l1 n (bytesV v) hb (by omega) (fun y => some (IntKind.wrap .i64 y, 0)) n 0 2166136261 (by omega) (by omega) (by decide)
      simp only [Int.natCast_zero, List.drop_zero] at this
      rw [this]
      unfold hashV at hh ⊢
      rw [wrap_in _ (by omega)]
    · rw [if_neg h2]
      have e : ([IntKind.wrap .u8 v.fKind] ++ shB v.fNum 8 : List Int) = bytesV v := by unfold bytesV; rw [if_neg h2]; rfl
      have hlen : (bytesV v).length ≤ 65 := by rw [← e]; simp [shB_len]
      have h8 := p_hash_l2 n v (fun y => F_value_Hash_l3 n y (fun z => some (IntKind.wrap .i64 z, 0)) n (2166136261, 0)) 8 n [IntKind.wrap .u8 v.fKind] (by omega) (by omega) (by simp only [List.length_cons, List.length_nil]; omega)
      rw [e] at h8
      have := p_hash_l3 n (bytesV v) hb (by omega) (fun y => some (IntKind.wrap .i64 y, 0)) n 0 2166136261 (by omega) (by omega) (by decide)
      simp only [Int.natCast_zero, List.drop_zero] at this
      rw [this] at h8
      unfold hashV at hh ⊢
      rw [wrap_in _ (by omega)] at h8
      exact h8
  · rw [if_neg h, if_pos h]
def grpV (v : Vl) : Int := hashV v % 16
theorem grpV_b (v : Vl) : 0 ≤ grpV v ∧ grpV v ≤ 15 := by unfold grpV; omega
theorem p_group (n : Nat) (v : Vl) (hn : 100 ≤ n) : F_keygroup_Group n v = some (if valErr v ≠ 0 then (0, valErr v) else (grpV v, 0)) := by
  unfold F_keygroup_Group
  rw [p_hash n v hn, bnd_some]
  simp only [cnd_not, cnd_if]
  unfold hashE
  by_cases h : valErr v = 0
  · rw [if_nne h, if_pos rfl, nzx_ok (by decide), if_nne h]
    have := hashV_nn v
    rw [Int.tmod_eq_emod_of_nonneg this.1, grpV]
  · rw [if_pos h, if_neg h, if_pos h]
def ownr (g w : Int) : Int := g * w / 16
theorem mul_b {g w : Int} (hg : 0 ≤ g ∧ g ≤ 15) (hw : 1 ≤ w ∧ w ≤ 8) : 0 ≤ g * w ∧ g * w ≤ 15 * w := ⟨Int.mul_nonneg hg.1 (by omega), Int.mul_le_mul_of_nonneg_right hg.2 (by omega)⟩
theorem own_eq {g w : Int} (hg : 0 ≤ g ∧ g ≤ 15) (hw : 1 ≤ w ∧ w ≤ 8) : IntKind.wrap .i64 ((IntKind.wrap .i64 (g * w)).tdiv 16) = ownr g w := by
  have := mul_b hg hw
  rw [wrap_in (g * w) (by omega), Int.tdiv_eq_ediv_of_nonneg this.1, wrap_in (g * w / 16) (by omega), ownr]
theorem p_allowed (n : Nat) (a b c : Bool) (hn : 10 ≤ n) : F_keygroup_allowed n [a, b, c] = some (if a && (b && c) then 0 else 2) := by
  obtain ⟨m, rfl⟩ : ∃ m, n = m + 4 := ⟨n - 4, by omega⟩
  unfold F_keygroup_allowed
  have e0 : ∀ (f : Bool → Option Int), idx [a, b, c] 0 f = f a := fun f => by unfold idx; rfl
  have e1 : ∀ (f : Bool → Option Int), idx [a, b, c] 1 f = f b := fun f => by unfold idx; rfl
  have e2 : ∀ (f : Bool → Option Int), idx [a, b, c] 2 f = f c := fun f => by unfold idx; rfl
  have w0 : IntKind.wrap .i64 ((0 : Int) + 1) = 1 := rfl
  have w1 : IntKind.wrap .i64 ((1 : Int) + 1) = 2 := rfl
  have w2 : IntKind.wrap .i64 ((2 : Int) + 1) = 3 := rfl
  simp only [F_keygroup_allowed_l1, List.map_cons, List.map_nil, List.length_cons, List.length_nil, cnd_if, e0, e1, e2, w0, w1, w2, cnd_not]
  cases a <;> cases b <;> cases c <;> simp [cnd_t, cnd_f]
theorem p_worker (n : Nat) (g w : Int) (hg : 0 ≤ g ∧ g ≤ 15) (hw : 1 ≤ w ∧ w ≤ 8) (hn : 10 ≤ n) : F_keygroup_Worker n g w = some (ownr g w, 0) := by
  unfold F_keygroup_Worker F_keygroup_number F_keygroup_owner
  simp only [cnd_if]
  rw [if_pos hw.1, bnd_some, p_allowed n _ _ _ hn, decide_eq_true hg.1, decide_eq_true (show g < 16 by omega), decide_eq_true hw.2]
  simp only [Bool.and_self, if_true, bnd_some, cnd_not, decide_true, cnd_t]
  rw [nzx_ok (by decide), own_eq hg hw, bnd_some]

def keysErr : List Int → List Sch → Int
  | k :: r, s :: t => if k < -1 ∨ (s.fFields.length : Int) ≤ k then 16 else keysErr r t
  | _, _ => 0
def keyErr (l : List Sch) (key : List Int) : Int := if key.length = 0 then 0 else if key.length ≠ l.length then 15 else keysErr key l
def zeroV : Vl := ⟨0, 0, ByteArray.empty⟩
def keyOf (key : List Int) (e : Ev47) : Vl × Bool :=
  if key.length = 0 then (zeroV, true) else if key.getD e.fType.toNat 0 < 0 then (zeroV, false) else (e.fValues.getD (key.getD e.fType.toNat 0).toNat zeroV, true)
theorem p_checkKey_l1 (n : Nat) (l : List Sch) (key : List Int) (hl : key.length = l.length) (hk : key.length ≤ 1000000) (K : Option Int) : ∀ (m k : Nat), k ≤ key.length → key.length < m + k →
    F_reader_checkKey_l1 n key l K m (k : Int) = if keysErr (key.drop k) (l.drop k) = 0 then K else some (keysErr (key.drop k) (l.drop k))
  | 0, k, h1, h2 => by omega
  | m + 1, k, h1, h2 => by
    unfold F_reader_checkKey_l1
    simp only [List.length_map, cnd_if]
    by_cases h : k < key.length
    · have h' : k < l.length := by omega
      rw [if_pos (by omega), idx_nat h, idx_nat h', dropK_cons h, dropK_cons h', keysErr, wrapS k (by omega), p_checkKey_l1 n l key hl hk K m (k + 1) (by omega) (by omega)]
      by_cases h3 : key[k] < -1
      · rw [if_pos h3, if_pos (Or.inl h3)]; rfl
      · rw [if_neg h3]
        by_cases h4 : (l[k].fFields.length : Int) ≤ key[k]
        · rw [if_pos h4, if_pos (Or.inr h4)]; rfl
        · rw [if_neg h4, if_neg (show ¬ (key[k] < -1 ∨ (l[k].fFields.length : Int) ≤ key[k]) by omega)]
    · rw [if_neg (by omega), List.drop_eq_nil_of_le (by omega)]; rfl
theorem p_checkKey (n : Nat) (l : List Sch) (key : List Int) (hk : key.length ≤ 1000000) (hn : key.length < n) : F_reader_checkKey n l key = some (keyErr l key) := by
  unfold F_reader_checkKey keyErr
  simp only [List.length_map, cnd_not, cnd_if]
  by_cases h : key.length = 0
  · rw [if_pos (by omega), if_pos h]
  · rw [if_neg (by omega), if_neg h]
    by_cases h2 : key.length = l.length
    · rw [if_pos (by omega), if_nne h2]
      have := p_checkKey_l1 n l key h2 hk (some 0) n 0 (by omega) (by omega)
      simp only [Int.natCast_zero, List.drop_zero] at this
      rw [this]
      split <;> simp_all
    · rw [if_neg (by omega), if_pos h2]
theorem p_key_l1 (n : Nat) (e : Ev47) (l : List Sch) (key : List Int) (hl : key.length = l.length) (hk : key.length ≤ 1000000) (h0 : keysErr key l = 0) (K : Option (Vl × Bool × Int)) : ∀ (m k : Nat), k ≤ key.length → key.length < m + k → keysErr (key.drop k) (l.drop k) = 0 →
    F_event_Key_l1 n e key l K m (k : Int) = K
  | 0, k, h1, h2, h3 => by omega
  | m + 1, k, h1, h2, h3 => by
    unfold F_event_Key_l1
    simp only [List.length_map, cnd_if]
    by_cases h : k < key.length
    · have h' : k < l.length := by omega
      rw [dropK_cons h, dropK_cons h', keysErr] at h3
      rw [if_pos (by omega), idx_nat h, idx_nat h']
      by_cases h4 : key[k] < -1 ∨ (l[k].fFields.length : Int) ≤ key[k]
      · rw [if_pos h4] at h3; exact absurd h3 (by decide)
      · rw [if_neg h4] at h3
        rw [if_neg (by omega), if_neg (by omega), wrapS k (by omega), p_key_l1 n e l key hl hk h0 K m (k + 1) (by omega) (by omega) h3]
    · rw [if_neg (by omega)]
theorem keysErr_at : ∀ {key : List Int} {l : List Sch}, key.length = l.length → keysErr key l = 0 → ∀ i (h : i < key.length) (h' : i < l.length), -1 ≤ key[i] ∧ key[i] < (l[i].fFields.length : Int)
  | [], _, _, _, i, h, _ => by simp at h
  | k :: r, [], hl, _, i, _, h' => by simp at h'
  | k :: r, s :: t, hl, h0, i, h, h' => by
    rw [keysErr] at h0
    by_cases h4 : k < -1 ∨ (s.fFields.length : Int) ≤ k
    · rw [if_pos h4] at h0; exact absurd h0 (by decide)
    · rw [if_neg h4] at h0
      cases i with
      | zero => simp only [List.getElem_cons_zero]; omega
      | succ i => exact keysErr_at (by simpa using hl) h0 i (by simpa using h) (by simpa using h')
theorem key_at {l : List Sch} {key : List Int} {e : Ev47} (he : evErr l e = 0) (hk : keyErr l key = 0) (h0 : key.length ≠ 0) : ∃ k : Int, (∀ {β : Type} (f : Int → Option β), idx key e.fType f = f k) ∧ key.getD e.fType.toNat 0 = k ∧ (0 ≤ k → ∃ v, (∀ {β : Type} (f : Vl → Option β), idx e.fValues k f = f v) ∧ e.fValues.getD k.toNat zeroV = v ∧ valErr v = 0) := by
  obtain ⟨_, e1, e2, e3, e4⟩ := evErr_zero he
  unfold keyErr at hk
  rw [if_neg h0] at hk
  by_cases h2 : key.length = l.length
  · rw [if_nne h2] at hk
    have hi : e.fType.toNat < key.length := by omega
    have := keysErr_at h2 hk _ hi e2
    refine ⟨key[e.fType.toNat], fun f => idx_int e1 hi f, by rw [List.getD_eq_getElem?_getD, List.getElem?_eq_getElem hi]; rfl, fun hk0 => ?_⟩
    have hv : key[e.fType.toNat].toNat < e.fValues.length := by omega
    exact ⟨e.fValues[key[e.fType.toNat].toNat], fun f => idx_int hk0 hv f, by rw [List.getD_eq_getElem?_getD, List.getElem?_eq_getElem hv]; rfl, valsErr_at e3 e4 _ (List.getElem_mem hv)⟩
  · rw [if_pos h2] at hk; exact absurd hk (by decide)
theorem p_key (n : Nat) (l : List Sch) (key : List Int) (e : Ev47) (hs : e.fValues.length ≤ 1000000) (hn : e.fValues.length < n) (hn2 : 30 ≤ n) (hn3 : key.length < n) (ha : allErr l = 0) (he : evErr l e = 0) (hk : keyErr l key = 0) : F_event_Key n l key e = some ((keyOf key e).1, (keyOf key e).2, 0) := by
  unfold F_event_Key keyOf
  rw [p_evCheck n l e hs hn hn2 ha, bnd_some, he]
  simp only [List.length_map, cnd_not, cnd_if, if_true]
  by_cases h0 : key.length = 0
  · rw [if_pos (by omega), if_pos h0]; rfl
  · rw [if_neg (by omega), if_neg h0]
    obtain ⟨k, k1, k2, k3⟩ := key_at he hk h0
    unfold keyErr at hk
    rw [if_neg h0] at hk
    by_cases h2 : key.length = l.length
    · rw [if_nne h2] at hk
      have hl16 : l.length ≤ 16 := by
        unfold allErr at ha
        split at ha
        · exact absurd ha (by decide)
        · omega
      have := p_key_l1 n e l key h2 (by omega) hk (idx key e.fType fun x42 => if 0 ≤ x42 then idx e.fValues x42 fun x43 => some (x43, true, 0) else some (⟨0, 0, ByteArray.empty⟩, false, 0)) n 0 (by omega) (by omega) (by simpa using hk)
      simp only [Int.natCast_zero] at this
      rw [if_pos (by omega), this, k1, k2]
      by_cases h4 : 0 ≤ k
      · obtain ⟨v, v1, v2, _⟩ := k3 h4
        rw [if_pos h4, if_neg (by omega), v1, v2]
      · rw [if_neg h4, if_pos (by omega)]; rfl
    · rw [if_pos h2] at hk; exact absurd hk (by decide)
theorem keyOf_ok {l : List Sch} {key : List Int} {e : Ev47} (he : evErr l e = 0) (hk : keyErr l key = 0) : valErr (keyOf key e).1 = 0 := by
  unfold keyOf
  by_cases h0 : key.length = 0
  · rw [if_pos h0]; decide
  · rw [if_neg h0]
    obtain ⟨k, k1, k2, k3⟩ := key_at he hk h0
    rw [k2]
    by_cases h4 : 0 ≤ k
    · obtain ⟨v, v1, v2, v3⟩ := k3 h4
      rw [if_neg (by omega), v2]; exact v3
    · rw [if_pos (by omega)]; decide

abbrev It := T_api_Item
def emptyB (e : Ev47) : Bool := decide (e.fSource = 0 ∧ e.fSeq = 0 ∧ e.fType = 0 ∧ e.fTime = 0 ∧ e.fValues.length = 0)
def itmErr (x : It) : Int :=
  if x.fKind = 0 then (if x.fNumber ≠ 0 then 2 else 0) else if x.fKind = 1 ∨ x.fKind = 2 then (if x.fNumber < x.fKind - 1 ∨ 1099511627776 < x.fNumber then 2 else if emptyB x.fEvent = false then 3 else 0) else 1
theorem p_empty (n : Nat) (e : Ev47) : F_channel_empty n e = some (emptyB e) := by
  unfold F_channel_empty emptyB
  simp only [cnd_if, List.length_map]
  (repeat' split) <;> (congr 1; first | (rw [decide_eq_decide]; omega) | (symm; rw [decide_eq_false_iff_not]; omega))
theorem p_item (n : Nat) (x : It) : F_channel_item n x = some (itmErr x) := by
  unfold F_channel_item itmErr
  simp only [cnd_if, cnd_not, p_empty, bnd_some]
  by_cases h0 : x.fKind = 0
  · rw [if_pos h0, if_pos h0, if_pos h0]
    by_cases h1 : x.fNumber < 0
    · rw [if_pos h1, if_pos (by omega)]
    · rw [if_neg h1]
      by_cases h2 : 0 < x.fNumber
      · rw [if_pos h2, if_pos (by omega)]
      · rw [if_neg h2, if_neg (by omega)]
  · simp only [if_neg h0]
    by_cases h1 : x.fKind = 1
    · rw [if_pos h1, if_pos (Or.inl h1), h1]
      cases emptyB x.fEvent <;> (simp only [cnd_t, cnd_f]; (repeat' split) <;> first | rfl | (exfalso; omega) | (exfalso; simp_all; done))
    · rw [if_neg h1]
      by_cases h2 : x.fKind = 2
      · rw [if_pos h2, if_pos (Or.inr h2), h2]
        cases emptyB x.fEvent <;> (simp only [cnd_t, cnd_f]; (repeat' split) <;> first | rfl | (exfalso; omega) | (exfalso; simp_all; done))
      · rw [if_neg h2, if_neg (show ¬ (x.fKind = 1 ∨ x.fKind = 2) by omega)]
theorem p_chan (n : Nat) (x : It) (hn : 10 ≤ n) : F_channel_Check n [⟨0, 0, [x]⟩] = some (itmErr x) := by
  obtain ⟨m, rfl⟩ : ∃ m, n = m + 2 := ⟨n - 2, by omega⟩
  have hi : F_channel_items (m + 2) [x] = some (itmErr x) := by
    unfold F_channel_items
    have e0 : ∀ (f : It → Option Int), idx [x] 0 f = f x := fun f => by unfold idx; rfl
    simp only [F_channel_items_l1, List.map_cons, List.map_nil, List.length_cons, List.length_nil, cnd_if, e0, p_item, bnd_some, cnd_not, show IntKind.wrap .i64 ((0 : Int) + 1) = 1 from rfl]
    by_cases h : itmErr x = 0 <;> simp [h]
  unfold F_channel_Check
  have e0 : ∀ (f : T_api_Queue → Option Int), idx [(⟨0, 0, [x]⟩ : T_api_Queue)] 0 f = f ⟨0, 0, [x]⟩ := fun f => by unfold idx; rfl
  simp only [F_channel_Check_l1, List.map_cons, List.map_nil, List.length_cons, List.length_nil, cnd_if, e0, hi, bnd_some, cnd_not, show IntKind.wrap .i64 ((0 : Int) + 1) = 1 from rfl]
  by_cases h : itmErr x = 0 <;> simp [h]
theorem p_sameItem_l1 (n : Nat) (b a : It) (hl : a.fEvent.fValues.length = b.fEvent.fValues.length) (hs : a.fEvent.fValues.length ≤ 1000000) : ∀ (m k : Nat), k ≤ a.fEvent.fValues.length → a.fEvent.fValues.length < m + k →
    F_tidegateref46_SameItem_l1 n b a (some true) m (k : Int) = some (decide (a.fEvent.fValues.drop k = b.fEvent.fValues.drop k))
  | 0, k, h1, h2 => by omega
  | m + 1, k, h1, h2 => by
    unfold F_tidegateref46_SameItem_l1
    simp only [List.length_map, cnd_if, cnd_not, bytes_dec]
    by_cases h : k < a.fEvent.fValues.length
    · have h' : k < b.fEvent.fValues.length := by omega
      rw [if_pos (by omega), idx_nat h, idx_nat h', wrapS k (by omega), p_sameItem_l1 n b a hl hs m (k + 1) (by omega) (by omega), dropK_cons h, dropK_cons h']
      have e : (decide (a.fEvent.fValues[k].fKind = b.fEvent.fValues[k].fKind) && (decide (a.fEvent.fValues[k].fNum = b.fEvent.fValues[k].fNum) && (decide (a.fEvent.fValues[k].fText = b.fEvent.fValues[k].fText) && true))) = decide (a.fEvent.fValues[k] = b.fEvent.fValues[k]) := by
        generalize a.fEvent.fValues[k] = x
        generalize b.fEvent.fValues[k] = y
        obtain ⟨x1, x2, x3⟩ := x
        obtain ⟨y1, y2, y3⟩ := y
        simp only [T_api_Value.mk.injEq, Bool.and_true, Bool.decide_and]
      rw [e, dec_cons]
      by_cases h4 : a.fEvent.fValues[k] = b.fEvent.fValues[k]
      · rw [decide_eq_true h4, cnd_t, Bool.true_and]
      · rw [decide_eq_false h4, cnd_f, Bool.false_and]
    · rw [if_neg (by omega), List.drop_eq_nil_of_le (by omega), List.drop_eq_nil_of_le (by omega)]; simp
theorem p_sameItem (n : Nat) (a b : It) (hs : a.fEvent.fValues.length ≤ 1000000) (hn : a.fEvent.fValues.length < n) : F_tidegateref46_SameItem n a b = some (decide (a = b)) := by
  unfold F_tidegateref46_SameItem
  simp only [List.length_map, cnd_not, cnd_if]
  obtain ⟨a1, ⟨a2, a3, a4, a5, a6⟩, a7⟩ := a
  obtain ⟨b1, ⟨b2, b3, b4, b5, b6⟩, b7⟩ := b
  simp only [T_api_Item.mk.injEq, T_api_Event.mk.injEq] at *
  by_cases h1 : a1 = b1
  · rw [if_pos h1]
    by_cases h2 : a7 = b7
    · rw [if_pos h2]
      by_cases h3 : a2 = b2
      · rw [if_pos h3]
        by_cases h4 : a3 = b3
        · rw [if_pos h4]
          by_cases h5 : a4 = b4
          · rw [if_pos h5]
            by_cases h6 : a5 = b5
            · rw [if_pos h6]
              by_cases h7 : a6.length = b6.length
              · rw [if_pos (by omega)]
                have := p_sameItem_l1 n ⟨b1, ⟨b2, b3, b4, b5, b6⟩, b7⟩ ⟨a1, ⟨a2, a3, a4, a5, a6⟩, a7⟩ h7 hs n 0 (by omega) (by simp only; omega)
                simp only [Int.natCast_zero, List.drop_zero] at this
                rw [this]; simp [h1, h2, h3, h4, h5, h6]
              · rw [if_neg (by omega)]
                have : a6 ≠ b6 := fun e => h7 (by rw [e])
                simp [this]
            · rw [if_neg h6]; simp [h6]
          · rw [if_neg h5]; simp [h5]
        · rw [if_neg h4]; simp [h4]
      · rw [if_neg h3]; simp [h3]
    · rw [if_neg h2]; simp [h2]
  · rw [if_neg h1]; simp [h1]
theorem p_sameItems_l1 (n : Nat) (b a : List It) (hl : a.length = b.length) (hs : a.length ≤ 1000000) (hv : ∀ x ∈ a, x.fEvent.fValues.length ≤ 1000) (hn : 1000 < n) : ∀ (m k : Nat), k ≤ a.length → a.length < m + k →
    F_tidegateref46_SameItems_l1 n b a (some true) m (k : Int) = some (decide (a.drop k = b.drop k))
  | 0, k, h1, h2 => by omega
  | m + 1, k, h1, h2 => by
    unfold F_tidegateref46_SameItems_l1
    simp only [List.length_map, cnd_if, cnd_not]
    by_cases h : k < a.length
    · have h' : k < b.length := by omega
      have hk := hv _ (List.getElem_mem h)
      rw [if_pos (by omega), idx_nat h, idx_nat h', p_sameItem n _ _ (by omega) (by omega), bnd_some, wrapS k (by omega), p_sameItems_l1 n b a hl hs hv hn m (k + 1) (by omega) (by omega), dropK_cons h, dropK_cons h', dec_cons]
      by_cases h4 : a[k] = b[k]
      · rw [decide_eq_true h4, cnd_t, Bool.true_and]
      · rw [decide_eq_false h4, cnd_f, Bool.false_and]
    · rw [if_neg (by omega), List.drop_eq_nil_of_le (by omega), List.drop_eq_nil_of_le (by omega)]; simp
theorem p_sameItems (n : Nat) (a b : List It) (hs : a.length ≤ 1000000) (hn : a.length < n) (hv : ∀ x ∈ a, x.fEvent.fValues.length ≤ 1000) (hn2 : 1000 < n) : F_tidegateref46_SameItems n a b = some (decide (a = b)) := by
  unfold F_tidegateref46_SameItems
  simp only [List.length_map, cnd_not, cnd_if]
  by_cases h : a.length = b.length
  · rw [if_pos (by omega)]
    have := p_sameItems_l1 n b a h hs hv hn2 n 0 (by omega) (by omega)
    simpa using this
  · rw [if_neg (by omega)]
    have : a ≠ b := fun e => h (by rw [e])
    simp [this]
theorem p_sameI_l1 (n : Nat) (b a : List Int) (hl : a.length = b.length) (hs : a.length ≤ 1000000) : ∀ (m k : Nat), k ≤ a.length → a.length < m + k → F_tidegateref34_SameInts_l1 n b a (some true) m (k : Int) = some (decide (a.drop k = b.drop k))
  | 0, k, h1, h2 => by omega
  | m + 1, k, h1, h2 => by
    unfold F_tidegateref34_SameInts_l1
    simp only [List.length_map, cnd_if, cnd_not]
    by_cases h : k < a.length
    · have h' : k < b.length := by omega
      rw [if_pos (by omega), idx_nat h, idx_nat h', wrapS k (by omega), p_sameI_l1 n b a hl hs m (k + 1) (by omega) (by omega), dropK_cons h, dropK_cons h', dec_cons]
      by_cases h4 : a[k] = b[k]
      · rw [decide_eq_true h4, if_pos h4, Bool.true_and]
      · rw [decide_eq_false h4, if_neg h4, Bool.false_and]
    · rw [if_neg (by omega), List.drop_eq_nil_of_le (by omega), List.drop_eq_nil_of_le (by omega)]; simp
theorem p_sameI (n : Nat) (a b : List Int) (hs : a.length ≤ 1000000) (hn : a.length < n) : F_tidegateref34_SameInts n a b = some (decide (a = b)) := by
  unfold F_tidegateref34_SameInts
  simp only [List.length_map, cnd_not, cnd_if]
  by_cases h : a.length = b.length
  · rw [if_pos (by omega)]
    have := p_sameI_l1 n b a h hs n 0 (by omega) (by omega)
    simpa using this
  · rw [if_neg (by omega)]
    have : a ≠ b := fun e => h (by rw [e])
    simp [this]
end Go.Proofs.YtcbdhigllelmcaaGreat

namespace Go.Proofs.YtcbdhigllelmcaaGreat
open Go.RowKit

theorem p_check_l1 (n : Nat) (l : List Trk) (K : Option Int) : ∀ (m k : Nat), k ≤ l.length → l.length ≤ 1000000 → l.length < m + k → F_watermark_Check_l1 n l K m k = if wChecks (l.drop k) = 0 then K else some (wChecks (l.drop k))
  | 0, k, h1, h2, h3 => by omega
  | m + 1, k, h1, h2, h3 => by
    unfold F_watermark_Check_l1
    simp only [List.length_map, cnd_if, cnd_not]
    by_cases h : k < l.length
    · rw [if_pos (by omega), idx_nat h]
      simp only [F_puCheck, bnd_some, cnd_if, wrapS k (by omega)]
      rw [wChecks_drop l k h]
      by_cases h4 : puCheck l[k] = 0
      · simp only [h4, if_true, ne_eq, not_true_eq_false, if_false]
        exact p_check_l1 n l K m (k + 1) (by omega) h2 (by omega)
      · simp [h4]
    · rw [if_neg (by omega), List.drop_eq_nil_of_le (by omega)]; simp [wChecks]
theorem p_check (n : Nat) (l : List Trk) (hn : 100 ≤ n) : F_watermark_Check n l = some (wCheck l) := by
  unfold F_watermark_Check wCheck
  simp only [List.length_map, cnd_if]
  by_cases h : 8 < l.length
  · rw [if_pos (by omega), if_pos h]
  · rw [if_neg (by omega), if_neg h]
    have := p_check_l1 n l (some 0) n 0 (by omega) (by omega) (by omega)
    simp only [Int.natCast_zero, List.drop_zero] at this
    rw [this]
    split
    · rename_i h; rw [h]
    · rfl
end Go.Proofs.YtcbdhigllelmcaaGreat
namespace Go.Proofs.YtcbdhigllelmcaaGreat
open Go.RowKit

theorem sqLoop_zero (a : Int) (l : List Int) : sqLoop a l = 0 ↔ (∀ b ∈ l, 0 ≤ b ∧ b ≤ 1099511627776) ∧ (a :: l).Pairwise (· < ·) := by
  induction l generalizing a with
  | nil => simp [sqLoop]
  | cons x r ih =>
    unfold sqLoop
    by_cases h1 : x < 0 ∨ 1099511627776 < x
    · rw [if_pos h1]
      refine ⟨fun h => by omega, fun ⟨h, _⟩ => by have := h x (by simp); omega⟩
    · rw [if_neg h1]
      by_cases h2 : x ≤ a
      · rw [if_pos h2]
        refine ⟨fun h => by omega, fun ⟨_, h⟩ => by have := (List.pairwise_cons.1 h).1 x (by simp); omega⟩
      · rw [if_neg h2, ih]
        constructor
        · rintro ⟨h3, h4⟩
          refine ⟨fun b hb => ?_, List.pairwise_cons.2 ⟨fun b hb => ?_, h4⟩⟩
          · rcases List.mem_cons.1 hb with rfl | hb
            · omega
            · exact h3 b hb
          · rcases List.mem_cons.1 hb with rfl | hb
            · omega
            · have := (List.pairwise_cons.1 h4).1 b hb; omega
        · rintro ⟨h3, h4⟩
          exact ⟨fun b hb => h3 b (by simp [hb]), (List.pairwise_cons.1 h4).2⟩
theorem sqCheck_zero (t : Trk) : sqCheck t = 0 ↔ (0 ≤ t.next ∧ t.next ≤ 1099511627777) ∧ t.beyond.length ≤ 256 ∧ (∀ b ∈ t.beyond, 0 ≤ b ∧ b ≤ 1099511627776) ∧ (t.next :: t.beyond).Pairwise (· < ·) := by
  unfold sqCheck
  by_cases h1 : t.next < 0 ∨ 1099511627777 < t.next
  · rw [if_pos h1]
    exact ⟨fun h => by omega, fun h => by omega⟩
  · rw [if_neg h1]
    by_cases h2 : 256 < t.beyond.length
    · rw [if_pos h2]
      exact ⟨fun h => by omega, fun h => by omega⟩
    · rw [if_neg h2, sqLoop_zero]
      exact ⟨fun h => ⟨by omega, by omega, h⟩, fun h => h.2.2⟩
end Go.Proofs.YtcbdhigllelmcaaGreat
namespace Go.Proofs.YtcbdhigllelmcaaGreat
open Go.RowKit

def rng (a most : Int) : Bool := decide (0 ≤ a) && decide (a ≤ most)
def msgCheck (m : T_api_Message) : Int :=
  if m.fKind = 0 then
    if m.fSource = 0 ∧ m.fSeq = 0 ∧ m.fTime = 0 then
      if rng m.fEvent.fSource 7 = true ∧ rng m.fEvent.fSeq 1099511627776 = true ∧ rng m.fEvent.fTime 1099511627776 = true then 0 else 2
    else 3
  else if m.fKind = 1 then
    if m.fEvent.fSource = 0 ∧ m.fEvent.fSeq = 0 ∧ m.fEvent.fType = 0 ∧ m.fEvent.fTime = 0 ∧ m.fEvent.fValues.length = 0 then
      if rng m.fSource 7 = true ∧ ptValid ⟨m.fSeq, m.fTime⟩ = true then 0 else 2
    else 3
  else 1
theorem p_ranged (n : Nat) (a b : Int) : F_watermark_ranged n a b = some (rng a b) := by
  unfold F_watermark_ranged rng
  rw [cnd_if]
  by_cases h : 0 ≤ a <;> simp [h]
theorem p_within (n : Nat) (a b : Int) : F_tidegateref36_within n a b = some (rng a b) := by
  unfold F_tidegateref36_within rng
  rw [cnd_if]
  by_cases h : 0 ≤ a <;> simp [h]
theorem p_rvalid (n : Nat) (p : Pt) : F_tidegateref35_Valid n p = some (ptValid p) := by
  unfold F_tidegateref35_Valid ptValid
  simp only [cnd_if]
  by_cases h : 0 ≤ p.seq <;> by_cases h2 : p.seq ≤ 1099511627777 <;> by_cases h3 : 0 ≤ p.time <;> simp [h, h2, h3]
theorem begin_ok : TOk ⟨0, [], [], -1⟩ := (puCheck_zero _).1 (by decide +kernel)
theorem p_valid (n : Nat) (m : T_api_Message) : F_watermark_valid n m = some (ptValid ⟨m.fSeq, m.fTime⟩) := by
  unfold F_watermark_valid F_sequence_Begin F_puAdd
  rw [bnd_some, if_pos (by simp), bnd_some]
  cases h : ptValid ⟨m.fSeq, m.fTime⟩ with
  | true => simp [add_fits _ _ begin_ok h (by simp)]
  | false => simp [add_invalid ⟨0, [], [], -1⟩ _ h]
theorem p_checkM (n : Nat) (m : T_api_Message) : F_watermark_CheckMessage n m = some (msgCheck m) := by
  unfold F_watermark_CheckMessage F_watermark_checkEvent F_watermark_checkPoint msgCheck
  simp only [cnd_if, cnd_not, p_ranged, p_valid, bnd_some, List.length_map]
  by_cases h0 : m.fKind = 0
  · simp only [h0, if_true]
    rw [if_neg (by omega), if_neg (by omega)]
    by_cases h1 : m.fSource = 0
    · by_cases h2 : m.fSeq = 0
      · by_cases h3 : m.fTime = 0
        · simp only [h1, h2, h3, and_self, if_true]
          cases rng m.fEvent.fSource 7
          · simp [cnd_b, bnd_some]
          · cases rng m.fEvent.fSeq 1099511627776
            · simp [cnd_b, bnd_some]
            · cases rng m.fEvent.fTime 1099511627776 <;> simp [cnd_b, bnd_some]
        · simp [h1, h2, h3, bnd_some]
      · simp [h1, h2, bnd_some]
    · simp [h1, bnd_some]
  · by_cases h1 : m.fKind = 1
    · rw [if_neg (by omega), if_neg (by omega), if_neg h0, if_pos h1, if_neg h0, if_pos h1]
      by_cases e1 : m.fEvent.fSource = 0
      · by_cases e2 : m.fEvent.fSeq = 0
        · by_cases e3 : m.fEvent.fType = 0
          · by_cases e4 : m.fEvent.fTime = 0
            · by_cases e5 : m.fEvent.fValues.length = 0
              · simp only [e1, e2, e3, e4, e5, and_self, if_true]
                cases rng m.fSource 7
                · simp [cnd_b, bnd_some]
                · cases ptValid ⟨m.fSeq, m.fTime⟩ <;> simp [cnd_b, bnd_some]
              · have : 0 < m.fEvent.fValues.length := by omega
                simp [e1, e2, e3, e4, e5, bnd_some, this]
            · simp [e1, e2, e3, e4, bnd_some]
          · simp [e1, e2, e3, bnd_some]
        · simp [e1, e2, bnd_some]
      · simp [e1, bnd_some]
    · rw [if_neg h0, if_neg h1, if_neg h0, if_neg h1]
      by_cases h2 : m.fKind < 0
      · rw [if_pos h2]
      · rw [if_neg h2, if_pos (by omega)]
theorem p_rcheckM (n : Nat) (m : T_api_Message) : F_tidegateref36_CheckMessage n m = some (msgCheck m) := by
  unfold F_tidegateref36_CheckMessage msgCheck
  simp only [cnd_if, cnd_not, p_within, p_rvalid, bnd_some, List.length_map]
  by_cases h0 : m.fKind = 0
  · simp only [h0, if_true]
    by_cases h1 : m.fSource = 0
    · by_cases h2 : m.fSeq = 0
      · by_cases h3 : m.fTime = 0
        · simp only [h1, h2, h3, and_self, if_true]
          cases rng m.fEvent.fSource 7
          · simp [cnd_b, bnd_some]
          · cases rng m.fEvent.fSeq 1099511627776
            · simp [cnd_b, bnd_some]
            · cases rng m.fEvent.fTime 1099511627776 <;> simp [cnd_b, bnd_some]
        · simp [h1, h2, h3, bnd_some]
      · simp [h1, h2, bnd_some]
    · simp [h1, bnd_some]
  · by_cases h1 : m.fKind = 1
    · rw [if_neg h0, if_pos h1, if_neg h0, if_pos h1]
      by_cases e1 : m.fEvent.fSource = 0
      · by_cases e2 : m.fEvent.fSeq = 0
        · by_cases e3 : m.fEvent.fType = 0
          · by_cases e4 : m.fEvent.fTime = 0
            · by_cases e5 : m.fEvent.fValues.length = 0
              · simp only [e1, e2, e3, e4, e5, and_self, if_true]
                cases rng m.fSource 7
                · simp [cnd_b, bnd_some]
                · cases ptValid ⟨m.fSeq, m.fTime⟩ <;> simp [cnd_b, bnd_some]
              · have e6 : ¬ (m.fEvent.fValues.length : Int) = 0 := by omega
                simp only [e1, e2, e3, e4, e5, e6, if_true, if_false, true_and]
            · simp [e1, e2, e3, e4, bnd_some]
          · simp [e1, e2, e3, bnd_some]
        · simp [e1, e2, bnd_some]
      · simp [e1, bnd_some]
    · rw [if_neg h0, if_neg h1, if_neg h0, if_neg h1]
def srcOf (m : T_api_Message) : Int := if m.fKind = 0 then m.fEvent.fSource else m.fSource
theorem p_source (n : Nat) (m : T_api_Message) : F_tidegateref36_Source n m = some (srcOf m) := by
  unfold F_tidegateref36_Source srcOf
  rw [cnd_if]
  split <;> rfl

def cntB (l : List Int) (a : Int) : Nat := (l.filter fun b => decide (b < a)).length
theorem cntB_lt (l : List Int) (a : Int) (h : l.Pairwise (· < ·)) : ∀ k (hk : k < l.length), l[k] < a ↔ k < cntB l a := by
  induction l with
  | nil => intro k hk; simp at hk
  | cons x r ih =>
    intro k hk
    have h' := List.pairwise_cons.1 h
    unfold cntB
    by_cases hx : x < a
    · rw [List.filter_cons_of_pos (by simpa using hx), List.length_cons]
      cases k with
      | zero => simp [hx]
      | succ k => simpa [cntB] using ih h'.2 k (by simpa using hk)
    · rw [List.filter_cons_of_neg (by simpa using hx)]
      have hall : r.filter (fun b => decide (b < a)) = [] := by
        rw [List.filter_eq_nil_iff]
        intro p hp
        have := h'.1 p hp
        simp; omega
      rw [hall]
      cases k with
      | zero => simp [hx]
      | succ k =>
        have hk' : k < r.length := by simpa using hk
        have := h'.1 r[k] (List.getElem_mem hk')
        simp; omega
theorem cntB_le (l : List Int) (a : Int) : cntB l a ≤ l.length := List.length_filter_le _ _
theorem mid_eq (i j : Nat) (hi : i ≤ 1000000000) (hj : j ≤ 1000000000) : IntKind.wrap .i64 (Int.fdiv (IntKind.wrap .u64 (IntKind.wrap .i64 ((i : Int) + (j : Int)))) (2 ^ min (Int.toNat (1 : Int)) (IntKind.bits .u64))) = (((i + j) / 2 : Nat) : Int) := by
  have h1 : IntKind.wrap .i64 ((i : Int) + (j : Int)) = (i : Int) + (j : Int) := wrap_in _ (by omega)
  have h2 : IntKind.wrap .u64 ((i : Int) + (j : Int)) = (i : Int) + (j : Int) := IntWalk.u64_in _ (by omega)
  rw [h1, h2]
  have e : (2 ^ min (Int.toNat (1 : Int)) (IntKind.bits .u64) : Int) = 2 := by decide
  rw [e]
  have e2 : Int.fdiv ((i : Int) + (j : Int)) 2 = (((i + j) / 2 : Nat) : Int) := by
    rw [Int.fdiv_eq_ediv_of_nonneg _ (by omega)]
    omega
  rw [e2, wrap_in _ (by omega)]
theorem p_search_l1 (n : Nat) (a : Int) (l : List Int) (hs : l.Pairwise (· < ·)) (hl : l.length ≤ 1000000) (K : Int → Option Int) : ∀ (m i j : Nat), i ≤ cntB l a → cntB l a ≤ j → j ≤ l.length → j - i < m → F_sort_Search_l1 n a l K m ((i : Int), (j : Int)) = K (cntB l a)
  | 0, i, j, h1, h2, h3, h4 => by omega
  | m + 1, i, j, h1, h2, h3, h4 => by
    unfold F_sort_Search_l1
    simp only [cnd_if, cnd_not]
    by_cases h : i < j
    · rw [if_pos (by omega), shx_ok (by omega), mid_eq i j (by omega) (by omega)]
      have hm : (i + j) / 2 < l.length := by omega
      unfold F_sequence_place_1
      rw [idx_nat hm, bnd_some, cnd_if]
      have hc := cntB_lt l a hs _ hm
      by_cases h5 : a ≤ l[(i + j) / 2]
      · rw [if_pos h5]
        exact p_search_l1 n a l hs hl K m i ((i + j) / 2) h1 (by omega) (by omega) (by omega)
      · rw [if_neg h5, wrapS _ (by omega)]
        exact p_search_l1 n a l hs hl K m ((i + j) / 2 + 1) j (by omega) h2 h3 (by omega)
    · rw [if_neg (by omega)]
      congr 1
      omega
theorem p_place (n : Nat) (l : List Int) (a : Int) (hs : l.Pairwise (· < ·)) (hl : l.length ≤ 1000000) (hn : l.length < n) : F_sequence_place n l a = some ((cntB l a : Nat) : Int) := by
  unfold F_sequence_place F_sort_Search
  have := p_search_l1 n a l hs hl (fun y => some y) n 0 l.length (by omega) (cntB_le l a) (Nat.le_refl _) (by omega)
  simp only [List.length_map]
  simp only [Int.natCast_zero] at this
  rw [this, bnd_some]
theorem cntB_mem (l : List Int) (a : Int) (hs : l.Pairwise (· < ·)) : l.contains a = true ↔ ∃ h : cntB l a < l.length, l[cntB l a] = a := by
  rw [List.contains_iff_mem]
  constructor
  · intro h
    obtain ⟨k, hk, rfl⟩ := List.mem_iff_getElem.1 h
    have h1 := (cntB_lt l l[k] hs k hk)
    have hle : cntB l l[k] ≤ k := by omega
    have hlt : cntB l l[k] < l.length := by omega
    refine ⟨hlt, ?_⟩
    have h2 := cntB_lt l l[k] hs _ hlt
    rcases Nat.eq_or_lt_of_le hle with e | hlt2
    · simp [e]
    · have := List.pairwise_iff_getElem.1 hs _ _ hlt hk hlt2
      omega
  · rintro ⟨h, e⟩
    have := List.getElem_mem h
    rwa [e] at this
theorem p_has (n : Nat) (t : Trk) (s : Int) (hs : t.beyond.Pairwise (· < ·)) (hl : t.beyond.length ≤ 1000000) (hn : t.beyond.length < n) : F_sequence_has n t s = some (hasB t s) := by
  unfold F_sequence_has hasB
  rw [cnd_if]
  split
  · rfl
  · rw [p_place n t.beyond s hs hl hn, bnd_some]
    simp only [List.length_map, cnd_if]
    have hm := cntB_mem t.beyond s hs
    by_cases h : cntB t.beyond s < t.beyond.length
    · rw [if_pos (by omega), idx_nat h]
      congr 1
      rw [Bool.eq_iff_iff, hm, decide_eq_true_iff]
      exact ⟨fun e => ⟨h, e⟩, fun ⟨_, e⟩ => e⟩
    · rw [if_neg (by omega)]
      congr 1
      symm
      rw [← Bool.not_eq_true, hm]
      rintro ⟨h', _⟩
      exact h h'
theorem sqLoop_cons (a b : Int) (r : List Int) : sqLoop a (b :: r) = if b < 0 ∨ 1099511627776 < b then 2 else if b ≤ a then 14 else sqLoop b r := rfl
theorem p_sqCheck_l1 (n : Nat) (t : Trk) (hl : t.beyond.length ≤ 1000000) : ∀ (m k : Nat) (a : Int), k ≤ t.beyond.length → t.beyond.length < m + k → F_sequence_Check_l1 n t (some 0) m (a, (k : Int)) = some (sqLoop a (t.beyond.drop k))
  | 0, k, a, h1, h3 => by omega
  | m + 1, k, a, h1, h3 => by
    unfold F_sequence_Check_l1
    simp only [List.length_map, cnd_if]
    by_cases h : k < t.beyond.length
    · rw [if_pos (by omega), idx_nat h, wrapS k (by omega), p_sqCheck_l1 n t hl m (k + 1) _ (by omega) (by omega), drop_cons _ k h, sqLoop_cons]
      by_cases h1 : t.beyond[k] < 0
      · simp only [h1, if_true, true_or]
      · by_cases h2 : 1099511627776 < t.beyond[k]
        · simp only [h1, h2, if_true, if_false, or_true]
        · simp only [h1, h2, if_false, or_self]
          split <;> rfl
    · rw [if_neg (by omega), List.drop_eq_nil_of_le (by omega)]; rfl
theorem p_sqCheck (n : Nat) (t : Trk) (hl : t.beyond.length ≤ 1000000) (hn : t.beyond.length < n) : F_sequence_Check n t = some (sqCheck t) := by
  unfold F_sequence_Check sqCheck
  simp only [List.length_map, cnd_if]
  have := p_sqCheck_l1 n t hl n 0 t.next (by omega) (by omega)
  simp only [Int.natCast_zero, List.drop_zero] at this
  rw [this]
  by_cases h1 : t.next < 0
  · simp only [h1, if_true, true_or]
  · by_cases h2 : 1099511627777 < t.next
    · simp only [h1, h2, if_true, if_false, or_true]
    · simp only [h1, h2, if_false, or_self]
      by_cases h3 : 256 < t.beyond.length
      · rw [if_pos (by omega), if_pos h3]
      · rw [if_neg (by omega), if_neg h3]
theorem p_rsqCheck_l1 (n : Nat) (t : Trk) (hl : t.beyond.length ≤ 1000000) : ∀ (m k : Nat) (a : Int), k ≤ t.beyond.length → t.beyond.length < m + k → F_tidegateref34_Check_l1 n t (some 0) m (a, (k : Int)) = some (sqLoop a (t.beyond.drop k))
  | 0, k, a, h1, h3 => by omega
  | m + 1, k, a, h1, h3 => by
    unfold F_tidegateref34_Check_l1
    simp only [List.length_map, cnd_if]
    by_cases h : k < t.beyond.length
    · rw [if_pos (by omega), idx_nat h, wrapS k (by omega), p_rsqCheck_l1 n t hl m (k + 1) _ (by omega) (by omega), drop_cons _ k h, sqLoop_cons]
      by_cases h1 : t.beyond[k] < 0
      · simp only [h1, if_true, true_or]
      · by_cases h2 : 1099511627776 < t.beyond[k]
        · simp only [h1, h2, if_true, if_false, or_true]
        · simp only [h1, h2, if_false, or_self]
          split <;> rfl
    · rw [if_neg (by omega), List.drop_eq_nil_of_le (by omega)]; rfl
theorem p_rsqCheck (n : Nat) (t : Trk) (hl : t.beyond.length ≤ 1000000) (hn : t.beyond.length < n) : F_tidegateref34_Check n t = some (sqCheck t) := by
  unfold F_tidegateref34_Check sqCheck
  simp only [List.length_map, cnd_if]
  have := p_rsqCheck_l1 n t hl n 0 t.next (by omega) (by omega)
  simp only [Int.natCast_zero, List.drop_zero] at this
  rw [this]
  by_cases h1 : t.next < 0
  · simp only [h1, if_true, true_or]
  · by_cases h2 : 1099511627777 < t.next
    · simp only [h1, h2, if_true, if_false, or_true]
    · simp only [h1, h2, if_false, or_self]
      by_cases h3 : 256 < t.beyond.length
      · rw [if_pos (by omega), if_pos h3]
      · rw [if_neg (by omega), if_neg h3]
theorem p_contains_l1 (n : Nat) (s : Int) (t : Trk) (hl : t.beyond.length ≤ 1000000) : ∀ (m k : Nat), k ≤ t.beyond.length → t.beyond.length < m + k → F_tidegateref34_Contains_l1 n s t (some false) m (k : Int) = some ((t.beyond.drop k).contains s)
  | 0, k, h1, h3 => by omega
  | m + 1, k, h1, h3 => by
    unfold F_tidegateref34_Contains_l1
    simp only [List.length_map, cnd_if]
    by_cases h : k < t.beyond.length
    · rw [if_pos (by omega), idx_nat h, wrapS k (by omega), p_contains_l1 n s t hl m (k + 1) (by omega) (by omega), show (t.beyond.drop k).contains s = ((s == t.beyond[k]) || (t.beyond.drop (k + 1)).contains s) by rw [drop_cons _ k h, List.contains_cons]]
      by_cases h2 : t.beyond[k] = s
      · rw [if_pos h2]; simp [h2]
      · rw [if_neg h2]
        have : (s == t.beyond[k]) = false := by rw [beq_eq_false_iff_ne]; exact fun e => h2 e.symm
        rw [this, Bool.false_or]
    · rw [if_neg (by omega), List.drop_eq_nil_of_le (by omega)]; rfl
theorem p_contains (n : Nat) (t : Trk) (s : Int) (hl : t.beyond.length ≤ 1000000) (hn : t.beyond.length < n) : F_tidegateref34_Contains n t s = some (hasB t s) := by
  unfold F_tidegateref34_Contains hasB
  rw [cnd_if]
  split
  · rfl
  · have := p_contains_l1 n s t hl n 0 (by omega) (by omega)
    simpa using this
end Go.Proofs.YtcbdhigllelmcaaGreat
namespace Go.Proofs.YtcbdhigllelmcaaGreat
open Go.RowKit

def strip : Int → List Int → Int × List Int
  | a, [] => (a, [])
  | a, b :: r => if b = a then strip (a + 1) r else (a, b :: r)
def insB (l : List Int) (s : Int) : List Int := l.take (cntB l s) ++ s :: l.drop (cntB l s)
def withT (t : Trk) (s : Int) : Trk :=
  if t.next < s then ⟨t.next, insB t.beyond s, t.points, t.mark⟩ else ⟨(strip (t.next + 1) t.beyond).1, (strip (t.next + 1) t.beyond).2, t.points, t.mark⟩
def recvT (t : Trk) (s : Int) : Trk × Bool × Int :=
  if sqCheck t ≠ 0 then (zeroT, false, sqCheck t) else if s < 0 ∨ 1099511627776 < s then (zeroT, false, 2) else
  if hasB t s = true then (t, false, 0) else if 256 < (withT t s).beyond.length then (zeroT, false, 5) else (withT t s, true, 0)

theorem p_strip_own (n : Nat) (t : Trk) (ps : List Pt) (K : Int → List Int → List Pt → Option Trk) : ∀ (l : List Int) (m : Nat) (a : Int), l.length < m → l.length ≤ 1000000 → 0 ≤ a → a + l.length ≤ 4000000000000 →
    F_sequence_with_l1 n t ps K m (a, l) = K (strip a l).1 (strip a l).2 ps
  | [], 0, a, h, _, _, _ => by simp at h
  | [], m + 1, a, h, _, _, _ => by
    unfold F_sequence_with_l1
    simp only [List.map_nil, List.length_nil, cnd_if]
    rw [if_neg (by omega)]
    rfl
  | b :: r, 0, a, h, _, _, _ => by simp at h
  | b :: r, m + 1, a, h, h1, h2, h3 => by
    unfold F_sequence_with_l1
    simp only [List.length_map, cnd_if, reg_eq]
    simp only [List.length_cons] at h h1 h3 ⊢
    rw [if_pos (by omega), idx_zero]
    unfold strip
    by_cases h4 : b = a
    · have e := sls_ok (l := b :: r) (a := 1) (b := r.length + 1) (by omega) (by simp) (fun x49 => F_sequence_with_l1 n t ps K m (IntKind.i64.wrap (a + 1), x49))
      simp only [Int.natCast_one] at e
      rw [if_pos h4, if_pos h4, e, wrap_in (a + 1) (by omega)]
      have : ((b :: r).take (r.length + 1)).drop 1 = r := by simp
      rw [this]
      exact p_strip_own n t ps K r m (a + 1) (by omega) (by omega) (by omega) (by omega)
    · rw [if_neg h4, if_neg h4]
theorem p_strip2 (n : Nat) (t : Trk) (K : List Int → Int → Option Trk) : ∀ (l : List Int) (m : Nat) (a : Int), l.length < m → l.length ≤ 1000000 → 0 ≤ a → a + l.length ≤ 4000000000000 →
    F_tidegateref34_With_l2 n t K m (l, a) = K (strip a l).2 (strip a l).1
  | [], 0, a, h, _, _, _ => by simp at h
  | [], m + 1, a, h, _, _, _ => by
    unfold F_tidegateref34_With_l2
    simp only [List.map_nil, List.length_nil, cnd_if]
    rw [if_neg (by omega)]
    rfl
  | b :: r, 0, a, h, _, _, _ => by simp at h
  | b :: r, m + 1, a, h, h1, h2, h3 => by
    unfold F_tidegateref34_With_l2
    simp only [List.length_map, cnd_if, reg_eq]
    simp only [List.length_cons] at h h1 h3 ⊢
    rw [if_pos (by omega), idx_zero]
    unfold strip
    by_cases h4 : b = a
    · have e := sls_ok (l := b :: r) (a := 1) (b := r.length + 1) (by omega) (by simp) (fun x49 => F_tidegateref34_With_l2 n t K m (x49, IntKind.i64.wrap (a + 1)))
      simp only [Int.natCast_one] at e
      rw [if_pos h4, if_pos h4, e, wrap_in (a + 1) (by omega)]
      have : ((b :: r).take (r.length + 1)).drop 1 = r := by simp
      rw [this]
      exact p_strip2 n t K r m (a + 1) (by omega) (by omega) (by omega) (by omega)
    · rw [if_neg h4, if_neg h4]
theorem p_strip3 (n : Nat) (t : Trk) (K : List Int → Int → Option Trk) : ∀ (l : List Int) (m : Nat) (a : Int), l.length < m → l.length ≤ 1000000 → 0 ≤ a → a + l.length ≤ 4000000000000 →
    F_tidegateref34_With_l3 n t K m (l, a) = K (strip a l).2 (strip a l).1
  | [], 0, a, h, _, _, _ => by simp at h
  | [], m + 1, a, h, _, _, _ => by
    unfold F_tidegateref34_With_l3
    simp only [List.map_nil, List.length_nil, cnd_if]
    rw [if_neg (by omega)]
    rfl
  | b :: r, 0, a, h, _, _, _ => by simp at h
  | b :: r, m + 1, a, h, h1, h2, h3 => by
    unfold F_tidegateref34_With_l3
    simp only [List.length_map, cnd_if, reg_eq]
    simp only [List.length_cons] at h h1 h3 ⊢
    rw [if_pos (by omega), idx_zero]
    unfold strip
    by_cases h4 : b = a
    · have e := sls_ok (l := b :: r) (a := 1) (b := r.length + 1) (by omega) (by simp) (fun x49 => F_tidegateref34_With_l3 n t K m (x49, IntKind.i64.wrap (a + 1)))
      simp only [Int.natCast_one] at e
      rw [if_pos h4, if_pos h4, e, wrap_in (a + 1) (by omega)]
      have : ((b :: r).take (r.length + 1)).drop 1 = r := by simp
      rw [this]
      exact p_strip3 n t K r m (a + 1) (by omega) (by omega) (by omega) (by omega)
    · rw [if_neg h4, if_neg h4]
theorem insB_len (l : List Int) (s : Int) : (insB l s).length = l.length + 1 := by
  have := cntB_le l s
  simp [insB]
  omega
theorem ins_ok {α : Type} {n c : Nat} {a : List α} {x : α} (h : c ≤ a.length) (hl : a.length ≤ 1000000000) : F_insert n a (c : Int) [x] = some (a.take c ++ x :: a.drop c) := by
  unfold F_insert
  simp [h, hl]
theorem p_with (n : Nat) (t : Trk) (s : Int) (hq : sqCheck t = 0) (hp : t.points.length ≤ 1000000) (hn : 1000 ≤ n) : F_sequence_with n t s = some (withT t s) := by
  obtain ⟨h1, h2, h3, h4⟩ := (sqCheck_zero t).1 hq
  unfold F_sequence_with F_clone withT
  rw [if_pos (by omega), bndR_some, if_pos (by omega), bnd_some, cnd_if]
  by_cases h : t.next < s
  · rw [if_pos h, if_pos h, p_place n t.beyond s (List.pairwise_cons.1 h4).2 (by omega) (by omega), bnd_some]
    have := cntB_le t.beyond s
    rw [ins_ok this (by omega), bndC_some]
    rfl
  · rw [if_neg h, if_neg h, wrap_in _ (by omega), p_strip_own n t t.points _ t.beyond n (t.next + 1) (by omega) (by omega) (by omega) (by omega)]

def wl (s : Int) : Bool → List Int → List Int → Bool × List Int
  | p, acc, [] => (p, acc)
  | p, acc, b :: r => if p = false ∧ s < b then wl s true (acc ++ [s, b]) r else wl s p (acc ++ [b]) r
theorem p_withl (n : Nat) (s : Int) (t : Trk) (hl : t.beyond.length ≤ 1000000) (K : Bool → List Int → Option Trk) : ∀ (m k : Nat) (p : Bool) (acc : List Int), k ≤ t.beyond.length → t.beyond.length < m + k → acc.length ≤ 2 * k →
    F_tidegateref34_With_l1 n s t K m (p, (k : Int), acc) = K (wl s p acc (t.beyond.drop k)).1 (wl s p acc (t.beyond.drop k)).2
  | 0, k, p, acc, h1, h3, h4 => by omega
  | m + 1, k, p, acc, h1, h3, h4 => by
    unfold F_tidegateref34_With_l1
    simp only [List.length_map, cnd_if, cnd_not]
    by_cases h : k < t.beyond.length
    · have ih := p_withl n s t hl K m (k + 1)
      have hw : ∀ p acc, wl s p acc (t.beyond[k] :: t.beyond.drop (k + 1)) = if p = false ∧ s < t.beyond[k] then wl s true (acc ++ [s, t.beyond[k]]) (t.beyond.drop (k + 1)) else wl s p (acc ++ [t.beyond[k]]) (t.beyond.drop (k + 1)) := fun p acc => rfl
      simp only [idx_nat h]
      rw [if_pos (by omega), wrapS k (by omega), drop_cons _ k h, hw]
      cases p with
      | true =>
        rw [cnd_t, app_ok (by simp; omega) (by omega), ih true _ (by omega) (by omega) (by simp; omega), if_neg (by simp)]
      | false =>
        rw [cnd_f]
        by_cases h5 : s < t.beyond[k]
        · rw [if_pos h5, app_ok (by simp; omega) (by omega), app_ok (by simp; omega) (by omega), ih true _ (by omega) (by omega) (by simp; omega), if_pos ⟨rfl, h5⟩]
          simp
        · rw [if_neg h5, app_ok (by simp; omega) (by omega), ih false _ (by omega) (by omega) (by simp; omega), if_neg (by simp [h5])]
    · rw [if_neg (by omega), List.drop_eq_nil_of_le (by omega)]; rfl
theorem wl_cons (s : Int) (p : Bool) (acc : List Int) (b : Int) (r : List Int) : wl s p acc (b :: r) = if p = false ∧ s < b then wl s true (acc ++ [s, b]) r else wl s p (acc ++ [b]) r := rfl
theorem wl_true (s : Int) (acc l : List Int) : wl s true acc l = (true, acc ++ l) := by
  induction l generalizing acc with
  | nil => simp [wl]
  | cons b r ih => rw [wl_cons, if_neg (by simp), ih]; simp
theorem wl_false (s : Int) (acc l : List Int) (hs : l.Pairwise (· < ·)) (hn : s ∉ l) : (if (wl s false acc l).1 = true then (wl s false acc l).2 else (wl s false acc l).2 ++ [s]) = acc ++ insB l s := by
  induction l generalizing acc with
  | nil => simp [wl, insB, cntB]
  | cons b r ih =>
    have h' := List.pairwise_cons.1 hs
    have hsb : s ≠ b := fun e => hn (by simp [e])
    rw [wl_cons]
    by_cases h : s < b
    · rw [if_pos (show false = false ∧ s < b from ⟨rfl, h⟩), wl_true]
      have hc : cntB (b :: r) s = 0 := by
        unfold cntB
        rw [List.length_eq_zero_iff, List.filter_eq_nil_iff]
        intro x hx
        rcases List.mem_cons.1 hx with rfl | hx
        · simp; omega
        · have := h'.1 x hx; simp; omega
      unfold insB
      rw [hc]
      simp
    · rw [if_neg (show ¬ (false = false ∧ s < b) by simp [h]), ih _ h'.2 (fun hm => hn (by simp [hm]))]
      have hc : cntB (b :: r) s = cntB r s + 1 := by
        unfold cntB
        rw [List.filter_cons_of_pos (by simp; omega), List.length_cons]
      unfold insB
      rw [hc]
      simp
theorem strip_above (a : Int) (l : List Int) (h : ∀ b ∈ l, a < b) : strip a l = (a, l) := by
  cases l with
  | nil => rfl
  | cons b r => unfold strip; rw [if_neg (by have := h b (by simp); omega)]
theorem hasB_false (t : Trk) (s : Int) (h0 : 0 ≤ s) (h : hasB t s = false) : t.next ≤ s ∧ s ∉ t.beyond := by
  unfold hasB at h
  split at h
  · simp at h; omega
  · refine ⟨by omega, fun hm => ?_⟩
    rw [← Bool.not_eq_true, List.contains_iff_mem] at h
    exact h hm
theorem p_rwith (n : Nat) (t : Trk) (s : Int) (hq : sqCheck t = 0) (h0 : 0 ≤ s) (hs : s ≤ 1099511627776) (hb : hasB t s = false) (hn : 1000 ≤ n) : F_tidegateref34_With n t s = some (withT t s) := by
  obtain ⟨h1, h2, h3, h4⟩ := (sqCheck_zero t).1 hq
  obtain ⟨q1, q2⟩ := hasB_false t s h0 hb
  unfold F_tidegateref34_With
  rw [p_contains n t s (by omega) (by omega), bnd_some, hb, cnd_f]
  have e := p_withl n s t (by omega) (fun k1_0_0y0 k1_0_0y1 => cnd (!(k1_0_0y0)) (app k1_0_0y1 [s] 8 fun x44 =>
    F_tidegateref34_With_l2 n t (fun k2_1_0y0 k2_1_0y1 => some (⟨k2_1_0y1, k2_1_0y0, t.points, t.mark⟩)) n (x44, t.next)) <| F_tidegateref34_With_l3 n t
    (fun k3_2_0y0 k3_2_0y1 => some (⟨k3_2_0y1, k3_2_0y0, t.points, t.mark⟩)) n (k1_0_0y1, t.next)) n 0 false [] (by omega) (by omega) (by simp)
  simp only [Int.natCast_zero, List.drop_zero] at e
  rw [e]
  have hw := wl_false s [] t.beyond (List.pairwise_cons.1 h4).2 q2
  have hil := insB_len t.beyond s
  have hlen : (wl s false [] t.beyond).2.length ≤ t.beyond.length + 1 := by
    have := congrArg List.length hw
    simp only [List.nil_append] at this
    rw [hil] at this
    split at this
    · omega
    · simp at this; omega
  have key : strip t.next (insB t.beyond s) = if t.next < s then (t.next, insB t.beyond s) else strip (t.next + 1) t.beyond := by
    by_cases h : t.next < s
    · rw [if_pos h]
      refine strip_above _ _ fun b hb => ?_
      unfold insB at hb
      rcases List.mem_append.1 hb with hb | hb
      · exact (List.pairwise_cons.1 h4).1 b (List.mem_of_mem_take hb)
      · rcases List.mem_cons.1 hb with rfl | hb
        · exact h
        · exact (List.pairwise_cons.1 h4).1 b (List.mem_of_mem_drop hb)
    · rw [if_neg h]
      have hsn : s = t.next := by omega
      have hc : cntB t.beyond s = 0 := by
        unfold cntB
        rw [List.length_eq_zero_iff, List.filter_eq_nil_iff]
        intro x hx
        have := (List.pairwise_cons.1 h4).1 x hx
        simp; omega
      unfold insB
      rw [hc, List.take_zero, List.drop_zero, List.nil_append, hsn]
      conv => lhs; unfold strip
      rw [if_pos rfl]
  have fin : some (⟨(strip t.next (insB t.beyond s)).1, (strip t.next (insB t.beyond s)).2, t.points, t.mark⟩ : Trk) = some (withT t s) := by
    rw [key]
    unfold withT
    split <;> rfl
  cases hp : (wl s false [] t.beyond).1 with
  | false =>
    rw [hp, if_neg (by simp), List.nil_append] at hw
    rw [Bool.not_false, cnd_t, app_ok (by simp; omega) (by omega), hw, p_strip2 n t _ _ n t.next (by omega) (by omega) (by omega) (by omega)]
    exact fin
  | true =>
    rw [hp, if_pos rfl, List.nil_append] at hw
    rw [Bool.not_true, cnd_f, hw, p_strip3 n t _ _ n t.next (by omega) (by omega) (by omega) (by omega)]
    exact fin
theorem p_recv (n : Nat) (t : Trk) (s : Int) (hl : t.beyond.length ≤ 900) (hp : t.points.length ≤ 1000000) (hn : 1000 ≤ n) : F_sequence_Receive n t s = some (recvT t s) := by
  unfold F_sequence_Receive recvT
  rw [p_sqCheck n t (by omega) (by omega), bnd_some]
  simp only [cnd_not, cnd_if]
  by_cases hq : sqCheck t = 0
  · have hw : ¬ sqCheck t ≠ 0 := by simpa using hq
    rw [if_pos hq, if_neg hw]
    obtain ⟨h1, h2, h3, h4⟩ := (sqCheck_zero t).1 hq
    by_cases h5 : s < 0
    · simp only [h5, if_true, true_or]; rfl
    · by_cases h6 : 1099511627776 < s
      · simp only [h5, h6, if_true, if_false, or_true]; rfl
      · simp only [h5, h6, if_false, or_self]
        rw [p_has n t s (List.pairwise_cons.1 h4).2 (by omega) (by omega), bnd_some]
        cases hb : hasB t s with
        | true =>
          unfold F_clone
          rw [cnd_t, if_pos (by omega), bnd_some, if_pos (by omega), bnd_some]
          simp
        | false =>
          rw [cnd_f, p_with n t s hq hp hn, bnd_some]
          simp only [List.length_map, cnd_if, Bool.false_eq_true, if_false]
          by_cases h7 : 256 < (withT t s).beyond.length
          · rw [if_pos (by omega), if_pos h7]; rfl
          · rw [if_neg (by omega), if_neg h7]
  · rw [if_neg hq, if_pos hq]; rfl
theorem p_rrecv (n : Nat) (t : Trk) (s : Int) (hl : t.beyond.length ≤ 900) (hn : 1000 ≤ n) : F_tidegateref34_Receive n t s = some (recvT t s) := by
  unfold F_tidegateref34_Receive recvT
  rw [p_rsqCheck n t (by omega) (by omega), bnd_some]
  simp only [cnd_not, cnd_if]
  by_cases hq : sqCheck t = 0
  · have hw : ¬ sqCheck t ≠ 0 := by simpa using hq
    rw [if_pos hq, if_neg hw]
    obtain ⟨h1, h2, h3, h4⟩ := (sqCheck_zero t).1 hq
    by_cases h5 : s < 0
    · simp only [h5, if_true, true_or]; rfl
    · by_cases h6 : 1099511627776 < s
      · simp only [h5, h6, if_true, if_false, or_true]; rfl
      · simp only [h5, h6, if_false, or_self]
        rw [p_contains n t s (by omega) (by omega), bnd_some]
        cases hb : hasB t s with
        | true => simp [cnd_t]
        | false =>
          rw [cnd_f, p_rwith n t s hq (by omega) (by omega) hb hn, bnd_some]
          simp only [List.length_map, cnd_if, Bool.false_eq_true, if_false]
          by_cases h7 : 256 < (withT t s).beyond.length
          · rw [if_pos (by omega), if_pos h7]; rfl
          · rw [if_neg (by omega), if_neg h7]
  · rw [if_neg hq, if_pos hq]; rfl

def settledR (t : Trk) : Trk := ⟨t.next, t.beyond, t.points.filter fun p => decide (t.next < p.seq) && decide (latest t.mark t.points t.next < p.time), latest t.mark t.points t.next⟩
theorem p_settled_l1 (n : Nat) (t : Trk) (hl : t.points.length ≤ 1000000) (K : Int → Option Trk) : ∀ (m k : Nat) (a : Int), k ≤ t.points.length → t.points.length < m + k → F_tidegateref35_Settled_l1 n t K m ((k : Int), a) = K (latest a (t.points.drop k) t.next)
  | 0, k, a, h1, h3 => by omega
  | m + 1, k, a, h1, h3 => by
    unfold F_tidegateref35_Settled_l1
    simp only [List.length_map, cnd_if]
    by_cases h : k < t.points.length
    · rw [if_pos (by omega), idx_nat h, idx_nat h, wrapS k (by omega), p_settled_l1 n t hl K m (k + 1) _ (by omega) (by omega), p_settled_l1 n t hl K m (k + 1) _ (by omega) (by omega), show latest a (t.points.drop k) t.next = latest (if t.points[k].seq ≤ t.next then max a t.points[k].time else a) (t.points.drop (k + 1)) t.next by
        rw [drop_cons _ k h]
        unfold latest
        by_cases h2 : t.points[k].seq ≤ t.next
        · rw [List.filter_cons_of_pos (by simpa using h2), List.foldl_cons, if_pos h2]
        · rw [List.filter_cons_of_neg (by simpa using h2), if_neg h2]]
      split <;> rfl
    · rw [if_neg (by omega), List.drop_eq_nil_of_le (by omega)]; rfl
theorem p_settled_l2 (n : Nat) (t : Trk) (y : Int) (hl : t.points.length ≤ 1000000) (K : List Pt → Option Trk) : ∀ (m k : Nat) (acc : List Pt), k ≤ t.points.length → t.points.length < m + k → acc.length ≤ k →
    F_tidegateref35_Settled_l2 n t y K m ((k : Int), acc) = K (acc ++ (t.points.drop k).filter fun p => decide (t.next < p.seq) && decide (y < p.time))
  | 0, k, acc, h1, h3, h4 => by omega
  | m + 1, k, acc, h1, h3, h4 => by
    unfold F_tidegateref35_Settled_l2
    simp only [List.length_map, cnd_if]
    by_cases h : k < t.points.length
    · rw [if_pos (by omega)]
      simp only [idx_nat h]
      rw [wrapS k (by omega), app_ok (by simp; omega) (by omega), p_settled_l2 n t y hl K m (k + 1) _ (by omega) (by omega) (by simp; omega), p_settled_l2 n t y hl K m (k + 1) _ (by omega) (by omega) (by omega), show ((t.points.drop k).filter fun p => decide (t.next < p.seq) && decide (y < p.time)) = (if t.next < t.points[k].seq ∧ y < t.points[k].time then [t.points[k]] else []) ++ (t.points.drop (k + 1)).filter fun p => decide (t.next < p.seq) && decide (y < p.time) by
        rw [drop_cons _ k h]
        by_cases h2 : t.next < t.points[k].seq ∧ y < t.points[k].time
        · rw [List.filter_cons_of_pos (by simpa using h2), if_pos h2]; rfl
        · rw [List.filter_cons_of_neg (by simpa using h2), if_neg h2]; rfl]
      by_cases h5 : t.next < t.points[k].seq
      · by_cases h6 : y < t.points[k].time
        · simp only [h5, h6, and_self, if_true, List.append_assoc]
        · simp only [h5, h6, and_false, if_true, if_false, List.nil_append]
      · simp only [h5, false_and, if_false, List.nil_append]
    · rw [if_neg (by omega), List.drop_eq_nil_of_le (by omega)]; simp
theorem p_settled (n : Nat) (t : Trk) (hl : t.points.length ≤ 1000000) (hn : t.points.length < n) : F_tidegateref35_Settled n t = some (settledR t) := by
  unfold F_tidegateref35_Settled settledR
  have e := p_settled_l1 n t hl (fun k1_0_0y => F_tidegateref35_Settled_l2 n t k1_0_0y (fun k2_1_0y => some (⟨t.next, t.beyond, k2_1_0y, k1_0_0y⟩)) n (0, [])) n 0 t.mark (by omega) (by omega)
  simp only [Int.natCast_zero, List.drop_zero] at e
  rw [e]
  have e2 := p_settled_l2 n t (latest t.mark t.points t.next) hl (fun k2_1_0y => some (⟨t.next, t.beyond, k2_1_0y, latest t.mark t.points t.next⟩)) n 0 [] (by omega) (by omega) (by simp)
  simp only [Int.natCast_zero, List.drop_zero, List.nil_append] at e2
  rw [e2]
end Go.Proofs.YtcbdhigllelmcaaGreat
