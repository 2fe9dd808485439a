/- Layer 5, plain: placed events, equality, Few, Same, Check. -/
import Derived.Test.YtdbapaofibgfcaaH05F
import Derived.Test.YtdbapaofibgfcaaG1
set_option linter.unusedVariables false
set_option linter.unusedSimpArgs false
namespace Go.Proofs.Ytdbapaofibgfcaa
open Go.RowKit

abbrev Ev := T_api_Event
def placedB (e : Ev) : Bool := decide (0 ≤ e.fTime) && (decide (e.fTime ≤ 1099511627776) && (decide (0 ≤ e.fSource) && (decide (e.fSource < 8) && (decide (0 ≤ e.fSeq) && decide (e.fSeq ≤ 1099511627776)))))
def idt (e : Ev) : T_stream_identity := ⟨e.fSource, e.fSeq⟩
theorem p_placed (n : Nat) (e : Ev) : F_stream_placed n e = some (placedB e) := by
  unfold F_stream_placed placedB
  simp only [cnd_if]
  repeat' split
  all_goals (simp_all <;> omega)
theorem p_rplaced (n : Nat) (e : Ev) : F_tidegateref05_Placed n e = some (placedB e) := by
  unfold F_tidegateref05_Placed placedB
  simp only [cnd_if]
  repeat' split
  all_goals (simp_all <;> omega)
theorem p_of (n : Nat) (e : Ev) : F_stream_of n e = some (idt e) := rfl
theorem p_ref (n : Nat) (e : Ev) : F_tidegateref05_Ref n e = some ⟨e.fTime, e.fSource, e.fSeq⟩ := rfl
def refOf (e : Ev) : T_api_Ref := ⟨e.fTime, e.fSource, e.fSeq⟩
def rCmp (a b : T_api_Ref) : Int := or3 (cmpI a.fTime b.fTime) (cmpI a.fSource b.fSource) (cmpI a.fSeq b.fSeq)
theorem p_order (n : Nat) (a b : T_api_Ref) : F_tidegateref05_Order n a b = some (rCmp a b) := by
  unfold F_tidegateref05_Order rCmp or3 cmpI
  simp only [cnd_if, cnd_not]
  repeat' split
  all_goals first | rfl | (exfalso; omega)
theorem p_twin (n : Nat) (a b : Ev) : F_tidegateref05_Twin n a b = some (decide (idt a = idt b)) := by
  unfold F_tidegateref05_Twin
  simp only [cnd_if]
  split
  · rename_i h; simp [idt, h]
  · rename_i h; simp [idt, h]
theorem val_eq (x y : T_api_Value) : (decide (x.fKind = y.fKind) && (decide (x.fNum = y.fNum) && ((x.fText.toList == y.fText.toList) && true))) = decide (x = y) := by
  cases x; cases y
  simp [bytes_dec]
theorem drop_eq_cons {α : Type} (l : List α) (k : Nat) (h : k < l.length) : l.drop k = l[k] :: l.drop (k + 1) := List.drop_eq_getElem_cons h
theorem p_equal_l1 (n : Nat) (b a : List T_api_Value) (K : Option Bool) : ∀ (m k : Nat), k ≤ a.length → a.length = b.length → a.length ≤ 1000000 → a.length < m + k → F_slices_Equal_l1 n b a K m k = if a.drop k = b.drop k then K else some false
  | 0, k, h1, _, h2, h3 => by omega
  | m + 1, k, h1, hl, h2, h3 => by
    unfold F_slices_Equal_l1
    simp only [List.length_map, cnd_if, cnd_not, val_eq]
    by_cases h : k < a.length
    · rw [if_pos (by omega), idx_nat h, idx_nat (by omega : k < b.length), wrapS k (by omega)]
      rw [drop_eq_cons a k h, drop_eq_cons b k (by omega)]
      by_cases he : a[k] = b[k]'(by omega)
      · rw [if_pos he, p_equal_l1 n b a K m (k + 1) (by omega) hl h2 (by omega), he]
        simp only [List.cons.injEq, true_and]
      · rw [if_neg he, if_neg (fun e => he (List.cons.inj e).1)]
    · rw [if_neg (by omega), List.drop_eq_nil_of_le (by omega), List.drop_eq_nil_of_le (by omega), if_pos rfl]
theorem p_equal (n : Nat) (a b : List T_api_Value) (hn : a.length < n) (h2 : a.length ≤ 1000000) : F_slices_Equal n a b = some (decide (a = b)) := by
  unfold F_slices_Equal
  simp only [List.length_map, cnd_if, cnd_not]
  by_cases h : a.length = b.length
  · rw [if_pos (by omega)]
    have := p_equal_l1 n b a (some true) n 0 (by omega) h h2 (by omega)
    simp only [Int.natCast_zero, List.drop_zero] at this
    rw [this]
    by_cases e : a = b <;> simp [e]
  · rw [if_neg (by omega)]
    have : a ≠ b := fun e => h (by rw [e])
    simp [this]
theorem p_rsame1_l1 (n : Nat) (b a : List T_api_Value) (K : Option Bool) : ∀ (m k : Nat), k ≤ a.length → a.length = b.length → a.length ≤ 1000000 → a.length < m + k → F_tidegateref01_Same_l1 n b a K m k = if a.drop k = b.drop k then K else some false
  | 0, k, h1, _, h2, h3 => by omega
  | m + 1, k, h1, hl, h2, h3 => by
    unfold F_tidegateref01_Same_l1
    simp only [List.length_map, cnd_if, cnd_not, val_eq]
    by_cases h : k < a.length
    · rw [if_pos (by omega), idx_nat h, idx_nat (by omega : k < b.length), wrapS k (by omega)]
      rw [drop_eq_cons a k h, drop_eq_cons b k (by omega)]
      by_cases he : a[k] = b[k]'(by omega)
      · rw [if_pos he, p_rsame1_l1 n b a K m (k + 1) (by omega) hl h2 (by omega), he]
        simp only [List.cons.injEq, true_and]
      · rw [if_neg he, if_neg (fun e => he (List.cons.inj e).1)]
    · rw [if_neg (by omega), List.drop_eq_nil_of_le (by omega), List.drop_eq_nil_of_le (by omega), if_pos rfl]
theorem p_rsame1 (n : Nat) (a b : List T_api_Value) (hn : a.length < n) (h2 : a.length ≤ 1000000) : F_tidegateref01_Same n a b = some (decide (a = b)) := by
  unfold F_tidegateref01_Same
  simp only [List.length_map, cnd_if, cnd_not]
  by_cases h : a.length = b.length
  · rw [if_pos (by omega)]
    have := p_rsame1_l1 n b a (some true) n 0 (by omega) h h2 (by omega)
    simp only [Int.natCast_zero, List.drop_zero] at this
    rw [this]
    by_cases e : a = b <;> simp [e]
  · rw [if_neg (by omega)]
    have : a ≠ b := fun e => h (by rw [e])
    simp [this]
/-- Events whose values are few. -/
def fewV (n : Nat) (e : Ev) : Prop := e.fValues.length < n ∧ e.fValues.length ≤ 1000000
theorem p_evEqual (n : Nat) (a b : Ev) (ha : fewV n a) : F_stream_equal n a b = some (decide (a = b)) := by
  unfold F_stream_equal
  simp only [p_of, bnd_some, p_equal n a.fValues b.fValues ha.1 ha.2, cnd_if, cnd_b]
  obtain ⟨s, q, ty, t, v⟩ := a
  obtain ⟨s', q', ty', t', v'⟩ := b
  simp only [idt, T_api_Event.mk.injEq, Bool.and_true, Bool.and_eq_true, decide_eq_true_eq]
  by_cases h1 : s = s' <;> by_cases h2 : q = q' <;> by_cases h3 : ty = ty' <;> by_cases h4 : t = t' <;> simp [h1, h2, h3, h4]
theorem p_rEqual (n : Nat) (a b : Ev) (ha : fewV n a) : F_tidegateref05_Equal n a b = some (decide (a = b)) := by
  unfold F_tidegateref05_Equal
  simp only [p_ref, bnd_some, p_rsame1 n a.fValues b.fValues ha.1 ha.2, cnd_if, cnd_b]
  obtain ⟨s, q, ty, t, v⟩ := a
  obtain ⟨s', q', ty', t', v'⟩ := b
  simp only [T_api_Event.mk.injEq, Bool.and_true, Bool.and_eq_true, decide_eq_true_eq]
  by_cases h1 : s = s' <;> by_cases h2 : q = q' <;> by_cases h3 : ty = ty' <;> by_cases h4 : t = t' <;> simp [h1, h2, h3, h4]
theorem p_rSame_l1 (n : Nat) (b a : List Ev) (K : Option Bool) (hv : ∀ x ∈ a, fewV n x) : ∀ (m k : Nat), k ≤ a.length → a.length = b.length → a.length ≤ 1000000 → a.length < m + k → F_tidegateref05_Same_l1 n b a K m k = if a.drop k = b.drop k then K else some false
  | 0, k, h1, _, h2, h3 => by omega
  | m + 1, k, h1, hl, h2, h3 => by
    unfold F_tidegateref05_Same_l1
    simp only [List.length_map, cnd_if, cnd_not]
    by_cases h : k < a.length
    · rw [if_pos (by omega), idx_nat h, idx_nat (by omega : k < b.length), wrapS k (by omega)]
      rw [p_rEqual n _ _ (hv _ (List.getElem_mem h)), bnd_some, cnd_if]
      rw [drop_eq_cons a k h, drop_eq_cons b k (by omega)]
      by_cases he : a[k] = b[k]'(by omega)
      · rw [if_pos he, p_rSame_l1 n b a K hv m (k + 1) (by omega) hl h2 (by omega), he]
        simp only [List.cons.injEq, true_and]
      · rw [if_neg he, if_neg (fun e => he (List.cons.inj e).1)]
    · rw [if_neg (by omega), List.drop_eq_nil_of_le (by omega), List.drop_eq_nil_of_le (by omega), if_pos rfl]
theorem p_rSame (n : Nat) (a b : List Ev) (hv : ∀ x ∈ a, fewV n x) (hn : a.length < n) (h2 : a.length ≤ 1000000) : F_tidegateref05_Same n a b = some (decide (a = b)) := by
  unfold F_tidegateref05_Same
  simp only [List.length_map, cnd_if, cnd_not]
  by_cases h : a.length = b.length
  · rw [if_pos (by omega)]
    have := p_rSame_l1 n b a (some true) hv n 0 (by omega) h h2 (by omega)
    simp only [Int.natCast_zero, List.drop_zero] at this
    rw [this]
    by_cases e : a = b <;> simp [e]
  · rw [if_neg (by omega)]
    have : a ≠ b := fun e => h (by rw [e])
    simp [this]

/-! ### Few -/
def few1 (l : List T_api_Value) : Bool := (l.take 40).all (fun v => decide (v.fText.size ≤ 128)) && decide (l.length < 40)
theorem p_few1_l1 (n : Nat) (l : List T_api_Value) (K : Option Bool) : ∀ (m k : Nat), k ≤ l.length → k ≤ 40 → 40 < m + k → F_tidegateref01_Few_l1 n l K m k = if ((l.take 40).drop k).all (fun v => decide (v.fText.size ≤ 128)) then K else some false
  | 0, k, h1, h2, h3 => by omega
  | m + 1, k, h1, h2, h3 => by
    unfold F_tidegateref01_Few_l1
    simp only [List.length_map, cnd_if]
    by_cases h : k < l.length
    · rw [if_pos (by omega)]
      by_cases h4 : k < 40
      · rw [if_pos (by omega), idx_nat h, wrapS k (by omega)]
        have hk : k < (l.take 40).length := by rw [List.length_take]; omega
        rw [drop_eq_cons (l.take 40) k hk, List.all_cons, List.getElem_take]
        by_cases h5 : l[k].fText.size ≤ 128
        · rw [if_neg (by omega), p_few1_l1 n l K m (k + 1) (by omega) (by omega) (by omega)]
          simp [h5]
        · rw [if_pos (by omega)]
          simp [h5]
      · rw [if_neg (by omega), List.drop_eq_nil_of_le (by rw [List.length_take]; omega)]; simp
    · rw [if_neg (by omega), List.drop_eq_nil_of_le (by rw [List.length_take]; omega)]; simp
theorem p_few1 (n : Nat) (l : List T_api_Value) (hn : 41 ≤ n) : F_tidegateref01_Few n l = some (few1 l) := by
  unfold F_tidegateref01_Few few1
  have := p_few1_l1 n l (some (decide ((((List.map e_api_Value l).length : Nat) : Int) < 40))) n 0 (by omega) (by omega) (by omega)
  simp only [Int.natCast_zero, List.drop_zero] at this
  rw [this]
  simp only [List.length_map]
  split
  · rename_i h; rw [h]; simp; omega
  · rename_i h; simp only [Bool.not_eq_true] at h; rw [h]; rfl
def fewE (l : List Ev) : Bool := (l.take 20).all (fun e => decide (e.fValues.length ≤ 12) && few1 e.fValues) && decide (l.length ≤ 12)
theorem p_few_l1 (n : Nat) (l : List Ev) (K : Option Bool) (hn : 41 ≤ n) : ∀ (m k : Nat), k ≤ l.length → k ≤ 20 → 20 < m + k → F_tidegateref05_Few_l1 n l K m k = if ((l.take 20).drop k).all (fun e => decide (e.fValues.length ≤ 12) && few1 e.fValues) then K else some false
  | 0, k, h1, h2, h3 => by omega
  | m + 1, k, h1, h2, h3 => by
    unfold F_tidegateref05_Few_l1
    simp only [List.length_map, cnd_if, cnd_not]
    by_cases h : k < l.length
    · rw [if_pos (by omega)]
      by_cases h4 : k < 20
      · rw [if_pos (by omega), idx_nat h, wrapS k (by omega)]
        have hk : k < (l.take 20).length := by rw [List.length_take]; omega
        rw [drop_eq_cons (l.take 20) k hk, List.all_cons, List.getElem_take]
        by_cases h5 : l[k].fValues.length ≤ 12
        · rw [if_neg (by omega), idx_nat h, p_few1 n _ hn, bnd_some, cnd_b, p_few_l1 n l K hn m (k + 1) (by omega) (by omega) (by omega)]
          by_cases h6 : few1 l[k].fValues = true
          · simp [h5, h6]
          · simp [h5, h6]
        · rw [if_pos (by omega)]
          simp [h5]
      · rw [if_neg (by omega), List.drop_eq_nil_of_le (by rw [List.length_take]; omega)]; simp
    · rw [if_neg (by omega), List.drop_eq_nil_of_le (by rw [List.length_take]; omega)]; simp
theorem p_few (n : Nat) (l : List Ev) (hn : 41 ≤ n) : F_tidegateref05_Few n l = some (fewE l) := by
  unfold F_tidegateref05_Few fewE
  have := p_few_l1 n l (some (decide ((((List.map e_api_Event l).length : Nat) : Int) ≤ 12))) hn n 0 (by omega) (by omega) (by omega)
  simp only [Int.natCast_zero, List.drop_zero] at this
  rw [this]
  simp only [List.length_map]
  split
  · rename_i h; rw [h]; simp; omega
  · rename_i h; simp only [Bool.not_eq_true] at h; rw [h]; rfl
theorem fewE_out {l : List Ev} (h : fewE l = true) : l.length ≤ 12 ∧ ∀ e ∈ l, e.fValues.length ≤ 12 := by
  unfold fewE at h
  simp only [Bool.and_eq_true, decide_eq_true_eq, List.all_eq_true] at h
  refine ⟨h.2, fun e he => (h.1 e ?_).1⟩
  rw [List.take_of_length_le (by omega)]
  exact he

/-! ### Check -/
def headGe : List Ev → Ev → Bool
  | [], _ => false
  | x :: _, e => decide (0 ≤ evCmp x e)
/-- The error of a list behind a beginning, which stands in reverse. -/
def chk : List Ev → List Ev → Int
  | _, [] => 0
  | p, e :: r => if placedB e = false then 2 else if headGe p e = true then 14 else if p.any (fun x => decide (idt x = idt e)) then 7 else chk (e :: p) r
def strChk (l : List Ev) : Int := if 4096 < l.length then 5 else chk [] l
/-- A map from identities that holds true at those of some events. -/
def SeenOk (m : List (T_stream_identity × Bool)) (p : List Ev) : Prop := ∀ k, (mlk m k).getD false = p.any (fun x => decide (idt x = k))
theorem mlk_mput {κ ν : Type} [DecidableEq κ] (l : List (κ × ν)) (k : κ) (v : ν) (k' : κ) : mlk (mput l k v) k' = if k' = k then some v else mlk l k' := by
  induction l with
  | nil => simp [mput, mlk]
  | cons a r ih =>
    obtain ⟨a, x⟩ := a
    simp only [mput]
    by_cases h : k = a
    · subst h
      rw [if_pos rfl]
      simp only [mlk]
      by_cases h2 : k' = k
      · simp [h2]
      · simp [h2]
    · rw [if_neg h]
      simp only [mlk, ih]
      by_cases h2 : k' = a
      · have h3 : k' ≠ k := fun e => h (by rw [← e, h2])
        simp [h2, h3]
        intro e; exact absurd e.symm h
      · simp [h2]
theorem SeenOk.put {m : List (T_stream_identity × Bool)} {p : List Ev} (h : SeenOk m p) (e : Ev) : SeenOk (mput m (idt e) true) (e :: p) := fun k => by
  rw [mlk_mput, List.any_cons]
  by_cases hk : k = idt e
  · subst hk; simp
  · rw [if_neg hk, h k]
    have : decide (idt e = k) = false := decide_eq_false (fun e => hk e.symm)
    rw [this, Bool.false_or]
theorem rev_take {l : List Ev} {k : Nat} (h : k < l.length) : (l.take (k + 1)).reverse = l[k] :: (l.take k).reverse := by
  rw [List.take_succ_eq_append_getElem h, List.reverse_append]; rfl
theorem rev_head {l : List Ev} {k : Nat} (h0 : 0 < k) (h : k ≤ l.length) : ∃ t, (l.take k).reverse = l[k - 1] :: t := by
  obtain ⟨j, rfl⟩ : ∃ j, k = j + 1 := ⟨k - 1, by omega⟩
  exact ⟨_, by rw [rev_take (by omega)]; rfl⟩
theorem evCmp_sym_le (a b : Ev) : (0 ≤ evCmp a b) ↔ ¬ evCmp a b < 0 := by omega
theorem wrap_pred {k : Nat} (h0 : 0 < k) (h : k ≤ 1000000) : IntKind.wrap .i64 ((k : Int) - 1) = ((k - 1 : Nat) : Int) := by rw [wrap_in _ (by omega)]; omega
theorem mgt_eq {κ ν β : Type} [DecidableEq κ] (l : List (κ × ν)) (k : κ) (z : ν) (c : ν → Bool → Option β) : mgt l k z c = c ((mlk l k).getD z) (mlk l k).isSome := by unfold mgt; rfl
theorem mst_eq {κ ν β : Type} [DecidableEq κ] (l : List (κ × ν)) (k : κ) (v : ν) (c : List (κ × ν) → Option β) : mst l k v c = c (mput l k v) := by unfold mst; rfl
theorem p_chk_l1 (n : Nat) (l : List Ev) : ∀ (m k : Nat) (seen : List (T_stream_identity × Bool)), k ≤ l.length → l.length ≤ 1000000 → l.length < m + k → SeenOk seen (l.take k).reverse →
    F_stream_Check_l1 n l (some 0) m ((k : Int), seen) = some (chk (l.take k).reverse (l.drop k))
  | 0, k, _, h1, h2, h3, _ => by omega
  | m + 1, k, seen, h1, h2, h3, hs => by
    unfold F_stream_Check_l1
    simp only [List.length_map, cnd_if, cnd_not]
    by_cases h : k < l.length
    · rw [if_pos (by omega), idx_nat h, wrapS k (by omega)]
      rw [drop_eq_cons l k h]
      conv => rhs; unfold chk
      have hs' : SeenOk (mput seen (idt l[k]) true) (l.take (k + 1)).reverse := by rw [rev_take h]; exact hs.put _
      have ih := p_chk_l1 n l m (k + 1) _ (by omega) h2 (by omega) hs'
      rw [rev_take h] at ih
      have hseen := hs (idt l[k])
      simp only [p_placed, bnd_some, p_of, cnd_b, mgt_eq, mst_eq, hseen, F_evCmp]
      by_cases hp : placedB l[k] = true
      · have hp' : ¬ placedB l[k] = false := by rw [hp]; simp
        rw [if_pos hp, if_neg hp']
        by_cases hk0 : 0 < k
        · rw [if_pos (by omega), wrap_pred hk0 (by omega), idx_nat (by omega : k - 1 < l.length)]
          obtain ⟨t, ht⟩ := rev_head (l := l) hk0 h1
          try simp only [bnd_some, decide_eq_true_eq]
          rw [ht] at ih ⊢
          simp only [headGe, decide_eq_true_eq]
          by_cases hc : 0 ≤ evCmp l[k - 1] l[k]
          · rw [if_pos hc, if_pos hc]
          · rw [if_neg hc, if_neg hc]
            rw [ih]
            split <;> rfl
        · have hk : k = 0 := by omega
          subst hk
          rw [if_neg (by omega)]
          simp only [List.take_zero, List.reverse_nil, List.any_nil, headGe, Bool.false_eq_true, if_false] at ih ⊢
          rw [ih]
      · have hp' : placedB l[k] = false := by simpa using hp
        rw [if_neg hp, if_pos hp']
    · rw [if_neg (by omega), List.drop_eq_nil_of_le (by omega)]; rfl
theorem p_chk (n : Nat) (l : List Ev) (hn : l.length < n) (h2 : l.length ≤ 1000000) : F_stream_Check n l = some (strChk l) := by
  unfold F_stream_Check strChk
  simp only [List.length_map, cnd_if]
  by_cases h : 4096 < l.length
  · rw [if_pos (by omega), if_pos h]
  · rw [if_neg (by omega), if_neg h]
    have := p_chk_l1 n l n 0 [] (by omega) h2 (by omega) (fun k => rfl)
    simpa using this
theorem p_rchk_l2 (n : Nat) (l : List Ev) (i : Nat) (hi : i < l.length) (K : Option Int) : ∀ (m k : Nat), k ≤ i → l.length ≤ 1000000 → i < m + k → F_tidegateref05_Check_l2 n l (i : Int) K m k = if ((l.take i).drop k).any (fun x => decide (idt x = idt l[i])) then some 7 else K
  | 0, k, h1, h2, h3 => by omega
  | m + 1, k, h1, h2, h3 => by
    unfold F_tidegateref05_Check_l2
    simp only [cnd_if]
    by_cases h : k < i
    · rw [if_pos (by omega), idx_nat (by omega : k < l.length), idx_nat hi, wrapS k (by omega), p_twin, bnd_some, cnd_if]
      have hk : k < (l.take i).length := by rw [List.length_take]; omega
      rw [drop_eq_cons (l.take i) k hk, List.any_cons, List.getElem_take, p_rchk_l2 n l i hi K m (k + 1) (by omega) h2 (by omega)]
      by_cases h5 : idt l[k] = idt l[i] <;> simp [h5]
    · rw [if_neg (by omega), List.drop_eq_nil_of_le (by rw [List.length_take]; omega)]; simp
theorem p_rchk_l3 (n : Nat) (l : List Ev) (i : Nat) (hi : i < l.length) (K : Option Int) : ∀ (m k : Nat), k ≤ i → l.length ≤ 1000000 → i < m + k → F_tidegateref05_Check_l3 n l (i : Int) K m k = if ((l.take i).drop k).any (fun x => decide (idt x = idt l[i])) then some 7 else K
  | 0, k, h1, h2, h3 => by omega
  | m + 1, k, h1, h2, h3 => by
    unfold F_tidegateref05_Check_l3
    simp only [cnd_if]
    by_cases h : k < i
    · rw [if_pos (by omega), idx_nat (by omega : k < l.length), idx_nat hi, wrapS k (by omega), p_twin, bnd_some, cnd_if]
      have hk : k < (l.take i).length := by rw [List.length_take]; omega
      rw [drop_eq_cons (l.take i) k hk, List.any_cons, List.getElem_take, p_rchk_l3 n l i hi K m (k + 1) (by omega) h2 (by omega)]
      by_cases h5 : idt l[k] = idt l[i] <;> simp [h5]
    · rw [if_neg (by omega), List.drop_eq_nil_of_le (by rw [List.length_take]; omega)]; simp
theorem rCmp_ref (a b : Ev) : rCmp (refOf a) (refOf b) = evCmp a b := rfl
theorem p_rchk_l1 (n : Nat) (l : List Ev) (hn : l.length < n) : ∀ (m k : Nat), k ≤ l.length → l.length ≤ 1000000 → l.length < m + k → F_tidegateref05_Check_l1 n l (some 0) m (k : Int) = some (chk (l.take k).reverse (l.drop k))
  | 0, k, h1, h2, h3 => by omega
  | m + 1, k, h1, h2, h3 => by
    unfold F_tidegateref05_Check_l1
    simp only [List.length_map, cnd_if, cnd_not]
    by_cases h : k < l.length
    · rw [if_pos (by omega), idx_nat h, wrapS k (by omega)]
      rw [drop_eq_cons l k h]
      conv => rhs; unfold chk
      have ih := p_rchk_l1 n l hn m (k + 1) (by omega) h2 (by omega)
      rw [rev_take h] at ih
      simp only [p_rplaced, bnd_some, cnd_b]
      by_cases hp : placedB l[k] = true
      · have hp' : ¬ placedB l[k] = false := by rw [hp]; simp
        rw [if_pos hp, if_neg hp']
        by_cases hk0 : 0 < k
        · rw [if_pos (by omega), wrap_pred hk0 (by omega), idx_nat (by omega : k - 1 < l.length)]
          obtain ⟨t, ht⟩ := rev_head (l := l) hk0 h1
          simp only [bnd_some, p_ref]
          rw [idx_nat h]
          simp only [bnd_some, p_order]
          have ec : rCmp ⟨l[k - 1].fTime, l[k - 1].fSource, l[k - 1].fSeq⟩ ⟨l[k].fTime, l[k].fSource, l[k].fSeq⟩ = evCmp l[k - 1] l[k] := rfl
          rw [ec]
          have hl2 := p_rchk_l2 n l k h (F_tidegateref05_Check_l1 n l (some 0) m ((k + 1 : Nat) : Int)) n 0 (by omega) h2 (by omega)
          simp only [Int.natCast_zero, List.drop_zero] at hl2
          rw [hl2, ih]
          have hany : (l.take k).any (fun x => decide (idt x = idt l[k])) = (l.take k).reverse.any (fun x => decide (idt x = idt l[k])) := by rw [List.any_reverse]
          rw [hany, ht]
          simp only [headGe, decide_eq_true_eq]
          by_cases hc : 0 ≤ evCmp l[k - 1] l[k]
          · rw [if_pos hc, if_pos hc]
          · rw [if_neg hc, if_neg hc]
            split <;> rfl
        · have hk : k = 0 := by omega
          subst hk
          rw [if_neg (by omega)]
          have hl3 := p_rchk_l3 n l 0 h (F_tidegateref05_Check_l1 n l (some 0) m ((0 + 1 : Nat) : Int)) n 0 (by omega) h2 (by omega)
          simp only [Int.natCast_zero, List.drop_zero] at hl3
          simp only [Int.natCast_zero] at hl3 ⊢
          rw [hl3]
          simp only [List.take_zero, List.reverse_nil, List.any_nil, headGe, Bool.false_eq_true, if_false] at ih ⊢
          rw [ih]
      · have hp' : placedB l[k] = false := by simpa using hp
        rw [if_neg hp, if_pos hp']
    · rw [if_neg (by omega), List.drop_eq_nil_of_le (by omega)]; rfl
theorem p_rchk (n : Nat) (l : List Ev) (hn : l.length < n) (h2 : l.length ≤ 1000000) : F_tidegateref05_Check n l = some (strChk l) := by
  unfold F_tidegateref05_Check strChk
  simp only [List.length_map, cnd_if]
  by_cases h : 4096 < l.length
  · rw [if_pos (by omega), if_pos h]
  · rw [if_neg (by omega), if_neg h]
    have := p_rchk_l1 n l hn n 0 (by omega) h2 (by omega)
    simpa using this
end Go.Proofs.Ytdbapaofibgfcaa
