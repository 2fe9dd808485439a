/- Chapter 36, plain: what the terms of Check, Global, Missing, Begin, Same come to. Chapter 36, plain: Missing, Begin, Same, SameBools, SameGaps, Few. Chapter 36, plain: CheckMessage; layer 34's place, has, with, Receive; Settled. Chapter 36, plain: Receive of layer 34 (both), Settled, a message noted by a tracker (both). Chapter 36, plain: a message received (both), and that trackers stay well-formed. Chapter 36, plain: Receive, Begin and Run (both). Chapter 36, plain: the laws that compare, and that the program is awake. Chapter 36, plain: what one message does to a tracker; the laws Completes and Fills. Chapter 36, plain: the law Fills. Chapter 36, plain: the law Commutes. -/
import Derived.Test.YthhnhajldhnfmaaH36F
import Derived.Test.YthhnhajldhnfmaaG1
import Derived.Test.YthhnhajldhnfmaaSpec36
set_option linter.unusedVariables false
set_option linter.unusedSimpArgs false
namespace Go.Proofs.Ythhnhajldhnfmaa
open Go.RowKit

theorem p_check_l1 (n : Nat) (l : List Trk) (K : Option Int) : ∀ (m k : Nat), k ≤ l.length → l.length ≤ 1000000 → l.length < m + k → F_watermark_Check_l1 n l K m k = if wChecks (l.drop k) = 0 then K else some (wChecks (l.drop k))
  | 0, k, h1, h2, h3 => by omega
  | m + 1, k, h1, h2, h3 => by
    unfold F_watermark_Check_l1
    simp only [List.length_map, cnd_if, cnd_not]
    by_cases h : k < l.length
    · rw [if_pos (by omega), idx_nat h]
      simp only [F_puCheck, bnd_some, cnd_if, wrapS k (by omega)]
      rw [wChecks_drop l k h]
      by_cases h4 : puCheck l[k] = 0
      · simp only [h4, if_true, ne_eq, not_true_eq_false, if_false]
        exact p_check_l1 n l K m (k + 1) (by omega) h2 (by omega)
      · simp [h4]
    · rw [if_neg (by omega), List.drop_eq_nil_of_le (by omega)]; simp [wChecks]
theorem p_check (n : Nat) (l : List Trk) (hn : 100 ≤ n) : F_watermark_Check n l = some (wCheck l) := by
  unfold F_watermark_Check wCheck
  simp only [List.length_map, cnd_if]
  by_cases h : 8 < l.length
  · rw [if_pos (by omega), if_pos h]
  · rw [if_neg (by omega), if_neg h]
    have := p_check_l1 n l (some 0) n 0 (by omega) (by omega) (by omega)
    simp only [Int.natCast_zero, List.drop_zero] at this
    rw [this]
    split
    · rename_i h; rw [h]
    · rfl
theorem p_rcheck_l1 (n : Nat) (l : List Trk) (K : Option Int) : ∀ (m k : Nat), k ≤ l.length → l.length ≤ 1000000 → l.length < m + k → F_tidegateref36_Check_l1 n l K m k = if wChecks (l.drop k) = 0 then K else some (wChecks (l.drop k))
  | 0, k, h1, h2, h3 => by omega
  | m + 1, k, h1, h2, h3 => by
    unfold F_tidegateref36_Check_l1
    simp only [List.length_map, cnd_if, cnd_not]
    by_cases h : k < l.length
    · rw [if_pos (by omega), idx_nat h]
      simp only [F_puCheck, bnd_some, cnd_if, wrapS k (by omega)]
      rw [wChecks_drop l k h]
      by_cases h4 : puCheck l[k] = 0
      · simp only [h4, if_true, ne_eq, not_true_eq_false, if_false]
        exact p_rcheck_l1 n l K m (k + 1) (by omega) h2 (by omega)
      · simp [h4]
    · rw [if_neg (by omega), List.drop_eq_nil_of_le (by omega)]; simp [wChecks]
theorem p_rcheck (n : Nat) (l : List Trk) (hn : 100 ≤ n) : F_tidegateref36_Check n l = some (wCheck l) := by
  unfold F_tidegateref36_Check wCheck
  simp only [List.length_map, cnd_if]
  by_cases h : 8 < l.length
  · rw [if_pos (by omega), if_pos h]
  · rw [if_neg (by omega), if_neg h]
    have := p_rcheck_l1 n l (some 0) n 0 (by omega) (by omega) (by omega)
    simp only [Int.natCast_zero, List.drop_zero] at this
    rw [this]
    split
    · rename_i h; rw [h]
    · rfl
theorem p_least_l1 (n : Nat) (l : List Trk) (K : Int → Option Int) : ∀ (m k : Nat), k ≤ l.length → l.length ≤ 1000000 → l.length < m + k → F_watermark_least_l1 n l K m (leastAt l k, (k : Int)) = K (leastIx l)
  | 0, k, h1, h2, h3 => by omega
  | m + 1, k, h1, h2, h3 => by
    unfold F_watermark_least_l1
    simp only [List.length_map, cnd_if]
    by_cases h : k < l.length
    · rw [if_pos (by omega), idx_nat h]
      have hr := leastAt_range l k
      have ih := p_least_l1 n l K m (k + 1) (by omega) h2 (by omega)
      have hgk : l.getD k zeroT = l[k] := by simp [List.getElem?_eq_getElem h]
      simp only [wrapS k (by omega)]
      by_cases h4 : leastAt l k < 0
      · rw [if_pos h4]
        rw [← ih]
        congr 2
        conv => rhs; unfold leastAt
        rw [if_pos (Or.inl h4)]
      · rw [if_neg h4]
        have hj : (leastAt l k).toNat < l.length := by omega
        have hgj : l.getD (leastAt l k).toNat zeroT = l[(leastAt l k).toNat] := by simp [List.getElem?_eq_getElem hj]
        rw [idx_int (by omega) hj]
        by_cases h5 : l[k].mark < l[(leastAt l k).toNat].mark
        · rw [if_pos h5, ← ih]
          congr 2
          conv => rhs; unfold leastAt
          rw [if_pos (Or.inr (by rw [hgk, hgj]; exact h5))]
        · rw [if_neg h5, ← ih]
          congr 2
          conv => rhs; unfold leastAt
          rw [if_neg (by rw [hgk, hgj]; omega)]
    · rw [if_neg (by omega)]
      have : k = l.length := by omega
      subst this
      rfl
theorem p_least (n : Nat) (l : List Trk) (hn : l.length < n) (hl : l.length ≤ 1000000) : F_watermark_least n l = some (leastIx l) := p_least_l1 n l _ n 0 (by omega) hl (by omega)
theorem p_rleast_l1 (n : Nat) (l : List Trk) (K : Int → Option Int) : ∀ (m k : Nat) (a : Int), k ≤ l.length → l.length ≤ 1000000 → l.length < m + k → F_tidegateref36_Least_l1 n l K m (a, (k : Int)) = K ((l.drop k).foldl (fun m t => min m t.mark) a)
  | 0, k, a, h1, h2, h3 => by omega
  | m + 1, k, a, h1, h2, h3 => by
    unfold F_tidegateref36_Least_l1
    simp only [List.length_map, cnd_if]
    by_cases h : k < l.length
    · rw [if_pos (by omega), idx_nat h, wrapS k (by omega), p_rleast_l1 n l K m (k + 1) _ (by omega) h2 (by omega), drop_cons l k h]
      rfl
    · rw [if_neg (by omega), List.drop_eq_nil_of_le (by omega)]; rfl
theorem p_rleast (n : Nat) (l : List Trk) (hn : l.length < n) (hl : l.length ≤ 1000000) : F_tidegateref36_Least n l = some (leastOf l) := p_rleast_l1 n l _ n 0 _ (by omega) hl (by omega)
theorem p_global (n : Nat) (l : List Trk) (hn : 100 ≤ n) : F_watermark_Global n l = some (wGlobal l) := by
  rw [← wGlobal_eq]
  unfold F_watermark_Global wGlobalP
  rw [p_check n l hn, bnd_some]
  simp only [cnd_not, cnd_if]
  by_cases h : wCheck l = 0
  · have hl := wCheck_len l h
    rw [if_pos h, if_neg (by simpa using h), p_least n l (by omega) (by omega), bnd_some]
    have hr := leastAt_range l l.length
    have hx : leastIx l = leastAt l l.length := rfl
    by_cases h0 : 0 ≤ leastIx l
    · have hj : (leastIx l).toNat < l.length := by omega
      rw [if_pos h0, if_pos h0, idx_int h0 hj]
      simp [List.getElem?_eq_getElem hj]
    · rw [if_neg h0, if_neg h0]
  · rw [if_neg h, if_pos h]
theorem p_rglobal (n : Nat) (l : List Trk) (hn : 100 ≤ n) : F_tidegateref36_Global n l = some (wGlobal l) := by
  unfold F_tidegateref36_Global wGlobal
  rw [p_rcheck n l hn, bnd_some]
  simp only [cnd_not, cnd_if]
  by_cases h : wCheck l = 0
  · have hl := wCheck_len l h
    rw [if_pos h, if_neg (by simpa using h), p_rleast n l (by omega) (by omega), bnd_some]
  · rw [if_neg h, if_pos h]

/-! ### Missing -/
theorem p_missing_l1 (n : Nat) (x : Int) (p : Pt) (l : List Int) (K : Int → List (Int × Int) → Option (Int × List (Int × Int) × Int)) (hl : l.length ≤ 1000000) (hp : 0 ≤ p.seq ∧ p.seq ≤ 1099511627777) (hb : ∀ b ∈ l, 0 ≤ b) :
    ∀ (m k : Nat) (a : Int) (acc : List (Int × Int)), k ≤ l.length → l.length < m + k → acc.length ≤ k → F_watermark_Missing_l1 n x p l K m (a, (k : Int), acc) = K x (acc ++ miss p.seq a (l.drop k))
  | 0, k, a, acc, h1, h3, h4 => by omega
  | m + 1, k, a, acc, h1, h3, h4 => by
    unfold F_watermark_Missing_l1
    simp only [List.length_map, cnd_if]
    by_cases h : k < l.length
    · have hbk := hb l[k] (List.getElem_mem h)
      rw [if_pos (by omega), nat_nat h, elt_ok h, wrapS k (by omega), wrap_in (min l[k] p.seq - 1) (by omega), wrap_in (min l[k] p.seq + 1) (by omega), drop_cons l k h]
      by_cases h5 : a < min l[k] p.seq
      · rw [if_pos h5, app_ok (by simp; omega) (by omega), p_missing_l1 n x p l K hl hp hb m (k + 1) _ _ (by omega) (by omega) (by simp; omega)]
        simp [miss, h5]
      · rw [if_neg h5, p_missing_l1 n x p l K hl hp hb m (k + 1) _ _ (by omega) (by omega) (by omega)]
        simp [miss, h5]
    · rw [if_neg (by omega), List.drop_eq_nil_of_le (by omega)]; simp [miss]
theorem p_lacking_l1 (n : Nat) (s : Int) (t : Trk) (K : List (Int × Int) → Option (List (Int × Int))) (hl : t.beyond.length ≤ 1000000) (hp : 0 ≤ s ∧ s ≤ 1099511627777) (hb : ∀ b ∈ t.beyond, 0 ≤ b ∧ b ≤ 1099511627776) :
    ∀ (m k : Nat) (a : Int) (acc : List (Int × Int)), k ≤ t.beyond.length → t.beyond.length + 1 < m + k → acc.length ≤ k → F_tidegateref36_lacking_l1 n s t K m (a, (k : Int), acc) = K (acc ++ lack s a (t.beyond.drop k))
  | 0, k, a, acc, h1, h3, h4 => by omega
  | m + 1, k, a, acc, h1, h3, h4 => by
    unfold F_tidegateref36_lacking_l1
    simp only [List.length_map, cnd_if]
    rw [if_pos (by omega)]
    by_cases h : k < t.beyond.length
    · have hbk := hb t.beyond[k] (List.getElem_mem h)
      have hk : (k : Int) < (t.beyond.length : Int) := by omega
      have ih := p_lacking_l1 n s t K hl hp hb m (k + 1)
      rw [if_pos hk, idx_nat h, wrap_in (min s t.beyond[k] - 1) (by omega), drop_cons t.beyond k h]
      by_cases h5 : a < min s t.beyond[k]
      · rw [if_pos h5, app_ok (by simp; omega) (by omega), if_pos hk, idx_nat h, wrapS k (by omega), wrap_in (t.beyond[k] + 1) (by omega), ih _ _ (by omega) (by omega) (by simp; omega)]
        simp [lack, h5]
      · rw [if_neg h5, if_pos hk, idx_nat h, wrapS k (by omega), wrap_in (t.beyond[k] + 1) (by omega), ih _ _ (by omega) (by omega) (by omega)]
        simp [lack, h5]
    · have hk : ¬ (k : Int) < (t.beyond.length : Int) := by omega
      have hkl : k = t.beyond.length := by omega
      have hdr : t.beyond.drop k = [] := List.drop_eq_nil_of_le (by omega)
      rw [if_neg hk, hdr]
      obtain ⟨m, rfl⟩ : ∃ j, m = j + 1 := ⟨m - 1, by omega⟩
      have last : ∀ a acc, F_tidegateref36_lacking_l1 n s t K (m + 1) (a, (((k + 1 : Nat) : Int)), acc) = K acc := fun a acc => by
        unfold F_tidegateref36_lacking_l1
        simp only [List.length_map, cnd_if]
        rw [if_neg (by omega)]
      rw [wrapS k (by omega), wrap_in (s - 1) (by omega)]
      by_cases h5 : a < s
      · rw [if_pos h5, app_ok (by simp; omega) (by omega), if_neg hk, last]
        simp [lack, h5]
      · rw [if_neg h5, if_neg hk, last]
        simp [lack, h5]
theorem p_lacking (n : Nat) (t : Trk) (s : Int) (hl : t.beyond.length ≤ 1000000) (hp : 0 ≤ s ∧ s ≤ 1099511627777) (hb : ∀ b ∈ t.beyond, 0 ≤ b ∧ b ≤ 1099511627776) (hn : t.beyond.length + 1 < n) : F_tidegateref36_lacking n t s = some (lack s t.next t.beyond) := by
  have := p_lacking_l1 n s t (fun x => some x) hl hp hb n 0 t.next [] (by omega) (by omega) (by simp)
  unfold F_tidegateref36_lacking
  simpa using this
end Go.Proofs.Ythhnhajldhnfmaa
namespace Go.Proofs.Ythhnhajldhnfmaa
open Go.RowKit

theorem sqLoop_zero (a : Int) (l : List Int) : sqLoop a l = 0 ↔ (∀ b ∈ l, 0 ≤ b ∧ b ≤ 1099511627776) ∧ (a :: l).Pairwise (· < ·) := by
  induction l generalizing a with
  | nil => simp [sqLoop]
  | cons x r ih =>
    unfold sqLoop
    by_cases h1 : x < 0 ∨ 1099511627776 < x
    · rw [if_pos h1]
      refine ⟨fun h => by omega, fun ⟨h, _⟩ => by have := h x (by simp); omega⟩
    · rw [if_neg h1]
      by_cases h2 : x ≤ a
      · rw [if_pos h2]
        refine ⟨fun h => by omega, fun ⟨_, h⟩ => by have := (List.pairwise_cons.1 h).1 x (by simp); omega⟩
      · rw [if_neg h2, ih]
        constructor
        · rintro ⟨h3, h4⟩
          refine ⟨fun b hb => ?_, List.pairwise_cons.2 ⟨fun b hb => ?_, h4⟩⟩
          · rcases List.mem_cons.1 hb with rfl | hb
            · omega
            · exact h3 b hb
          · rcases List.mem_cons.1 hb with rfl | hb
            · omega
            · have := (List.pairwise_cons.1 h4).1 b hb; omega
        · rintro ⟨h3, h4⟩
          exact ⟨fun b hb => h3 b (by simp [hb]), (List.pairwise_cons.1 h4).2⟩
theorem sqCheck_zero (t : Trk) : sqCheck t = 0 ↔ (0 ≤ t.next ∧ t.next ≤ 1099511627777) ∧ t.beyond.length ≤ 256 ∧ (∀ b ∈ t.beyond, 0 ≤ b ∧ b ≤ 1099511627776) ∧ (t.next :: t.beyond).Pairwise (· < ·) := by
  unfold sqCheck
  by_cases h1 : t.next < 0 ∨ 1099511627777 < t.next
  · rw [if_pos h1]
    exact ⟨fun h => by omega, fun h => by omega⟩
  · rw [if_neg h1]
    by_cases h2 : 256 < t.beyond.length
    · rw [if_pos h2]
      exact ⟨fun h => by omega, fun h => by omega⟩
    · rw [if_neg h2, sqLoop_zero]
      exact ⟨fun h => ⟨by omega, by omega, h⟩, fun h => h.2.2⟩
theorem leastAt_first (l : List Trk) (k : Nat) (hk : k ≤ l.length) : ∀ i : Nat, (i : Int) < leastAt l k → (l.getD (leastAt l k).toNat zeroT).mark < (l.getD i zeroT).mark := by
  induction k with
  | zero => intro i hi; simp [leastAt] at hi; omega
  | succ k ih =>
    intro i hi
    have hr := leastAt_range l k
    unfold leastAt at hi ⊢
    split at hi
    · rename_i h
      rw [if_pos h]
      have hik : i < k := by omega
      simp only [Int.toNat_natCast]
      rcases hr with ⟨rfl, h1⟩ | ⟨h1, h2, h3⟩
      · omega
      · have h4 : (l.getD k zeroT).mark < (l.getD (leastAt l k).toNat zeroT).mark := by
          rcases h with h | h
          · omega
          · exact h
        have := leastAt_min l k (by omega) h1 i hik
        omega
    · rename_i h
      rw [if_neg h]
      exact ih (by omega) i hi
def wMissing (l : List Trk) : Int × List (Int × Int) × Int :=
  if wCheck l ≠ 0 then (0, [], wCheck l) else if l.length = 0 then (0, [], 6) else
  match (l.getD (leastIx l).toNat zeroT).points with
  | [] => (leastIx l, [], 0)
  | p :: _ => (leastIx l, lack p.seq (l.getD (leastIx l).toNat zeroT).next (l.getD (leastIx l).toNat zeroT).beyond, 0)
theorem leastIx_pos (l : List Trk) (h : 0 < l.length) : 0 ≤ leastIx l ∧ (leastIx l).toNat < l.length := by
  have := leastAt_range l l.length
  have hx : leastIx l = leastAt l l.length := rfl
  omega
theorem p_missing (n : Nat) (l : List Trk) (hn : 1000 ≤ n) : F_watermark_Missing n l = some (wMissing l) := by
  unfold F_watermark_Missing wMissing
  rw [p_check n l (by omega), bnd_some]
  simp only [cnd_not, cnd_if, List.length_map]
  by_cases h : wCheck l = 0
  · have hl := wCheck_len l h
    have hw : ¬ wCheck l ≠ 0 := by simpa using h
    rw [if_pos h, if_neg hw, p_least n l (by omega) (by omega), bnd_some]
    by_cases h0 : l.length = 0
    · have : leastIx l < 0 := by
        have hr := leastAt_range l l.length
        have hx : leastIx l = leastAt l l.length := rfl
        omega
      rw [if_pos this, if_pos h0]
    · obtain ⟨q1, q2⟩ := leastIx_pos l (by omega)
      rw [if_neg (by omega), if_neg h0, idx_int q1 q2]
      have hg : l.getD (leastIx l).toNat zeroT = l[(leastIx l).toNat] := by simp [List.getElem?_eq_getElem q2]
      rw [hg]
      have htk := ((wCheck_zero l).1 h).2 _ (List.getElem_mem q2)
      generalize l[(leastIx l).toNat] = t at *
      obtain ⟨hs1, hs2, hs3, hs4⟩ := (sqCheck_zero t).1 htk.sq
      cases hp : t.points with
      | nil => simp
      | cons p ps =>
        have hpo := htk.ok p (by rw [hp]; simp)
        unfold PtOk at hpo
        rw [if_neg (by simp; omega), idx_zero]
        unfold F_clone
        rw [if_pos (by omega), bndR_some, app_ok (by simp; omega) (by omega)]
        have := p_missing_l1 n (leastIx l) p (t.beyond ++ [p.seq]) (fun a b => some (a, b, 0)) (by simp; omega) ⟨hpo.1, hpo.2.1⟩ (fun b hb => by
          rcases List.mem_append.1 hb with hb | hb
          · exact (hs3 b hb).1
          · simp at hb; omega) n 0 t.next [] (by omega) (by simp; omega) (by simp)
        simp only [Int.natCast_zero, List.nil_append, List.drop_zero] at this
        rw [this]
        show _ = some (leastIx l, lack p.seq t.next t.beyond, 0)
        rw [lack_miss p.seq t.next t.beyond (fun b hb => by have := (List.pairwise_cons.1 hs4).1 b hb; omega) (List.pairwise_cons.1 hs4).2]
  · rw [if_neg h, if_pos h]
theorem leastOf_mark (l : List Trk) (h : wCheck l = 0) (h0 : 0 < l.length) : (l.getD (leastIx l).toNat zeroT).mark = leastOf l := by
  have e := wGlobal_eq l
  unfold wGlobalP wGlobal at e
  obtain ⟨q1, _⟩ := leastIx_pos l h0
  have hw : ¬ wCheck l ≠ 0 := by simpa using h
  rw [if_neg hw, if_neg hw, if_pos q1] at e
  simpa using e
theorem p_rmissing_l1 (n : Nat) (l : List Trk) (h : wCheck l = 0) (h0 : 0 < l.length) (hn : 1000 ≤ n) (K : Int → Option (Int × List (Int × Int) × Int)) : ∀ (m k : Nat), (k : Int) ≤ leastIx l → l.length < m + k → F_tidegateref36_Missing_l1 n l K m (k : Int) = K (leastIx l)
  | 0, k, h1, h3 => by have := leastIx_pos l h0; omega
  | m + 1, k, h1, h3 => by
    have hl := wCheck_len l h
    obtain ⟨q1, q2⟩ := leastIx_pos l h0
    have hk : k < l.length := by omega
    unfold F_tidegateref36_Missing_l1
    rw [idx_nat hk, p_rleast n l (by omega) (by omega), bnd_some]
    simp only [cnd_not, cnd_if]
    have hgk : l.getD k zeroT = l[k] := by simp [List.getElem?_eq_getElem hk]
    have hm := leastOf_mark l h h0
    by_cases hlt : (k : Int) < leastIx l
    · have := leastAt_first l l.length (Nat.le_refl _) k hlt
      have hx : leastIx l = leastAt l l.length := rfl
      rw [← hx, hm, hgk] at this
      rw [if_neg (by omega), wrapS k (by omega), p_rmissing_l1 n l h h0 hn K m (k + 1) (by omega) (by omega)]
    · have e : (leastIx l).toNat = k := by omega
      rw [e, hgk] at hm
      rw [if_pos hm]
      congr 1
      omega
theorem p_rmissing (n : Nat) (l : List Trk) (hn : 1000 ≤ n) : F_tidegateref36_Missing n l = some (wMissing l) := by
  unfold F_tidegateref36_Missing wMissing
  rw [p_rcheck n l (by omega), bnd_some]
  simp only [cnd_not, cnd_if, List.length_map]
  by_cases h : wCheck l = 0
  · have hl := wCheck_len l h
    have hw : ¬ wCheck l ≠ 0 := by simpa using h
    rw [if_pos h, if_neg hw]
    by_cases h0 : l.length = 0
    · rw [if_pos (by omega), if_pos h0]
    · obtain ⟨q1, q2⟩ := leastIx_pos l (by omega)
      rw [if_neg (by omega), if_neg h0]
      have := p_rmissing_l1 n l h (by omega) hn (fun y => idx l y fun x43 => if (x43.points.length : Int) = 0 then some (y, [], 0) else idx l y fun x44 => idx l y fun x45 => idx x45.points 0 fun x46 => bnd (F_tidegateref36_lacking n x44 x46.seq) fun x47 => some (y, x47, 0)) n 0 (by omega) (by omega)
      simp only [Int.natCast_zero] at this
      rw [this]
      have hg : l.getD (leastIx l).toNat zeroT = l[(leastIx l).toNat] := by simp [List.getElem?_eq_getElem q2]
      simp only [idx_int q1 q2, hg]
      have htk := ((wCheck_zero l).1 h).2 _ (List.getElem_mem q2)
      generalize l[(leastIx l).toNat] = t at *
      obtain ⟨hs1, hs2, hs3, hs4⟩ := (sqCheck_zero t).1 htk.sq
      cases hp : t.points with
      | nil => simp
      | cons p ps =>
        have hpo := htk.ok p (by rw [hp]; simp)
        unfold PtOk at hpo
        rw [if_neg (by simp; omega), idx_zero, p_lacking n t p.seq (by omega) ⟨hpo.1, hpo.2.1⟩ hs3 (by omega), bnd_some]
  · rw [if_neg h, if_pos h]

/-! ### Comparisons -/
theorem drop_eq {α : Type} [DecidableEq α] (a b : List α) (k : Nat) (h : k < a.length) (hb : k < b.length) : decide (a.drop k = b.drop k) = (decide (a[k] = b[k]) && decide (a.drop (k + 1) = b.drop (k + 1))) := by
  rw [← Bool.decide_and]
  exact decide_eq_decide.2 (by rw [drop_cons a k h, drop_cons b k hb, List.cons.injEq])
theorem p_same_l1 (n : Nat) (a b : List Trk) (hab : a.length = b.length) (ha : a.length ≤ 1000000) (hf : ∀ t ∈ a, t.beyond.length ≤ 1000000000 ∧ t.points.length ≤ 1000000000) : ∀ (m k : Nat), k ≤ a.length → a.length < m + k → F_tidegateref36_Same_l1 n b a (some true) m (k : Int) = some (decide (a.drop k = b.drop k))
  | 0, k, h1, h3 => by omega
  | m + 1, k, h1, h3 => by
    unfold F_tidegateref36_Same_l1
    simp only [List.length_map, cnd_if, cnd_not]
    by_cases h : k < a.length
    · have hb : k < b.length := by omega
      have hft := hf a[k] (List.getElem_mem h)
      rw [if_pos (by omega), idx_nat h, idx_nat hb]
      unfold F_trkSame
      rw [if_pos hft, bnd_some, cnd_if, wrapS k (by omega), p_same_l1 n a b hab ha hf m (k + 1) (by omega) (by omega), drop_eq a b k h hb]
      by_cases h2 : a[k] = b[k] <;> simp [h2]
    · rw [if_neg (by omega), List.drop_eq_nil_of_le (by omega), List.drop_eq_nil_of_le (by omega)]; simp
theorem p_same (n : Nat) (a b : List Trk) (ha : a.length ≤ 1000000) (hn : a.length < n) (hf : ∀ t ∈ a, t.beyond.length ≤ 1000000000 ∧ t.points.length ≤ 1000000000) : F_tidegateref36_Same n a b = some (decide (a = b)) := by
  unfold F_tidegateref36_Same
  simp only [List.length_map, cnd_if, cnd_not]
  by_cases h : a.length = b.length
  · rw [if_pos (by omega)]
    have := p_same_l1 n a b h ha hf n 0 (by omega) (by omega)
    simpa using this
  · rw [if_neg (by omega)]
    have : a ≠ b := fun e => h (by rw [e])
    simp [this]
theorem p_sameB_l1 (n : Nat) (a b : List Bool) (hab : a.length = b.length) (ha : a.length ≤ 1000000) : ∀ (m k : Nat), k ≤ a.length → a.length < m + k → F_tidegateref36_SameBools_l1 n b a (some true) m (k : Int) = some (decide (a.drop k = b.drop k))
  | 0, k, h1, h3 => by omega
  | m + 1, k, h1, h3 => by
    unfold F_tidegateref36_SameBools_l1
    simp only [List.length_map, cnd_if, cnd_not]
    by_cases h : k < a.length
    · have hb : k < b.length := by omega
      rw [if_pos (by omega), idx_nat h, idx_nat hb, wrapS k (by omega), p_sameB_l1 n a b hab ha m (k + 1) (by omega) (by omega), drop_eq a b k h hb, cnd_b]
      by_cases h2 : a[k] = b[k] <;> simp [h2]
    · rw [if_neg (by omega), List.drop_eq_nil_of_le (by omega), List.drop_eq_nil_of_le (by omega)]; simp
theorem p_sameB (n : Nat) (a b : List Bool) (ha : a.length ≤ 1000000) (hn : a.length < n) : F_tidegateref36_SameBools n a b = some (decide (a = b)) := by
  unfold F_tidegateref36_SameBools
  simp only [List.length_map, cnd_if, cnd_not]
  by_cases h : a.length = b.length
  · rw [if_pos (by omega)]
    have := p_sameB_l1 n a b h ha n 0 (by omega) (by omega)
    simpa using this
  · rw [if_neg (by omega)]
    have : a ≠ b := fun e => h (by rw [e])
    simp [this]
theorem p_sameG_l1 (n : Nat) (a b : List (Int × Int)) (hab : a.length = b.length) (ha : a.length ≤ 1000000) : ∀ (m k : Nat), k ≤ a.length → a.length < m + k → F_tidegateref34_SameGaps_l1 n b a (some true) m (k : Int) = some (decide (a.drop k = b.drop k))
  | 0, k, h1, h3 => by omega
  | m + 1, k, h1, h3 => by
    unfold F_tidegateref34_SameGaps_l1
    simp only [List.length_map, cnd_if, cnd_not]
    by_cases h : k < a.length
    · have hb : k < b.length := by omega
      rw [if_pos (by omega), idx_nat h, idx_nat hb, wrapS k (by omega), p_sameG_l1 n a b hab ha m (k + 1) (by omega) (by omega), drop_eq a b k h hb, cnd_b]
      by_cases h2 : a[k] = b[k]
      · simp [h2]
      · have : ¬ (a[k].1 = b[k].1 ∧ a[k].2 = b[k].2) := fun h3 => h2 (Prod.ext h3.1 h3.2)
        simp [h2, this]
    · rw [if_neg (by omega), List.drop_eq_nil_of_le (by omega), List.drop_eq_nil_of_le (by omega)]; simp
theorem p_sameG (n : Nat) (a b : List (Int × Int)) (ha : a.length ≤ 1000000) (hn : a.length < n) : F_tidegateref34_SameGaps n a b = some (decide (a = b)) := by
  unfold F_tidegateref34_SameGaps
  simp only [List.length_map, cnd_if, cnd_not]
  by_cases h : a.length = b.length
  · rw [if_pos (by omega)]
    have := p_sameG_l1 n a b h ha n 0 (by omega) (by omega)
    simpa using this
  · rw [if_neg (by omega)]
    have : a ≠ b := fun e => h (by rw [e])
    simp [this]
theorem p_fewT (n : Nat) (t : Trk) : F_tidegateref34_Few n t = some (fewT t) := by
  unfold F_tidegateref34_Few fewT
  simp only [List.length_map, cnd_if]
  by_cases h : t.beyond.length ≤ 300
  · rw [if_pos (by omega)]
    simp [h]; omega
  · rw [if_neg (by omega)]
    simp [h]
theorem p_few_l1 (n : Nat) (l : List Trk) : ∀ (m k : Nat), k ≤ l.length → k ≤ 12 → 12 < m + k → F_tidegateref36_Few_l1 n l (some (decide ((l.length : Int) ≤ 12))) m (k : Int) = some (((l.take 12).drop k).all fewT && decide (l.length ≤ 12))
  | 0, k, h1, h2, h3 => by omega
  | m + 1, k, h1, h2, h3 => by
    unfold F_tidegateref36_Few_l1
    simp only [List.length_map, cnd_if, cnd_not, p_fewT]
    by_cases h : k < l.length
    · rw [if_pos (by omega)]
      by_cases h12 : k < 12
      · have hk : k < (l.take 12).length := by simp; omega
        have e : (l.take 12)[k] = l[k] := by simp
        rw [if_pos (by omega), idx_nat h, bnd_some, cnd_b, wrapS k (by omega), p_few_l1 n l m (k + 1) (by omega) (by omega) (by omega), show ((l.take 12).drop k).all fewT = (fewT l[k] && ((l.take 12).drop (k + 1)).all fewT) by rw [drop_cons _ k hk, e, List.all_cons]]
        cases fewT l[k] <;> simp
      · rw [if_neg (by omega), List.drop_eq_nil_of_le (by simp; omega)]
        simp; omega
    · rw [if_neg (by omega), List.drop_eq_nil_of_le (by simp; omega)]
      simp; omega
theorem p_few (n : Nat) (l : List Trk) (hn : 100 ≤ n) : F_tidegateref36_Few n l = some (few36 l) := by
  unfold F_tidegateref36_Few few36
  simp only [List.length_map]
  have := p_few_l1 n l n 0 (by omega) (by omega) (by omega)
  simpa using this
end Go.Proofs.Ythhnhajldhnfmaa
namespace Go.Proofs.Ythhnhajldhnfmaa
open Go.RowKit

/-! ### Messages -/
def rng (a most : Int) : Bool := decide (0 ≤ a) && decide (a ≤ most)
def msgCheck (m : T_api_Message) : Int :=
  if m.fKind = 0 then
    if m.fSource = 0 ∧ m.fSeq = 0 ∧ m.fTime = 0 then
      if rng m.fEvent.fSource 7 = true ∧ rng m.fEvent.fSeq 1099511627776 = true ∧ rng m.fEvent.fTime 1099511627776 = true then 0 else 2
    else 3
  else if m.fKind = 1 then
    if m.fEvent.fSource = 0 ∧ m.fEvent.fSeq = 0 ∧ m.fEvent.fType = 0 ∧ m.fEvent.fTime = 0 ∧ m.fEvent.fValues.length = 0 then
      if rng m.fSource 7 = true ∧ ptValid ⟨m.fSeq, m.fTime⟩ = true then 0 else 2
    else 3
  else 1
theorem p_ranged (n : Nat) (a b : Int) : F_watermark_ranged n a b = some (rng a b) := by
  unfold F_watermark_ranged rng
  rw [cnd_if]
  by_cases h : 0 ≤ a <;> simp [h]
theorem p_within (n : Nat) (a b : Int) : F_tidegateref36_within n a b = some (rng a b) := by
  unfold F_tidegateref36_within rng
  rw [cnd_if]
  by_cases h : 0 ≤ a <;> simp [h]
theorem p_rvalid (n : Nat) (p : Pt) : F_tidegateref35_Valid n p = some (ptValid p) := by
  unfold F_tidegateref35_Valid ptValid
  simp only [cnd_if]
  by_cases h : 0 ≤ p.seq <;> by_cases h2 : p.seq ≤ 1099511627777 <;> by_cases h3 : 0 ≤ p.time <;> simp [h, h2, h3]
theorem begin_ok : TOk ⟨0, [], [], -1⟩ := (puCheck_zero _).1 (by decide +kernel)
theorem p_valid (n : Nat) (m : T_api_Message) : F_watermark_valid n m = some (ptValid ⟨m.fSeq, m.fTime⟩) := by
  unfold F_watermark_valid F_sequence_Begin F_puAdd
  rw [bnd_some, if_pos (by simp), bnd_some]
  cases h : ptValid ⟨m.fSeq, m.fTime⟩ with
  | true => simp [add_fits _ _ begin_ok h (by simp)]
  | false => simp [add_invalid ⟨0, [], [], -1⟩ _ h]
theorem p_checkM (n : Nat) (m : T_api_Message) : F_watermark_CheckMessage n m = some (msgCheck m) := by
  unfold F_watermark_CheckMessage F_watermark_checkEvent F_watermark_checkPoint msgCheck
  simp only [cnd_if, cnd_not, p_ranged, p_valid, bnd_some, List.length_map]
  by_cases h0 : m.fKind = 0
  · simp only [h0, if_true]
    rw [if_neg (by omega), if_neg (by omega)]
    by_cases h1 : m.fSource = 0
    · by_cases h2 : m.fSeq = 0
      · by_cases h3 : m.fTime = 0
        · simp only [h1, h2, h3, and_self, if_true]
          cases rng m.fEvent.fSource 7
          · simp [cnd_b, bnd_some]
          · cases rng m.fEvent.fSeq 1099511627776
            · simp [cnd_b, bnd_some]
            · cases rng m.fEvent.fTime 1099511627776 <;> simp [cnd_b, bnd_some]
        · simp [h1, h2, h3, bnd_some]
      · simp [h1, h2, bnd_some]
    · simp [h1, bnd_some]
  · by_cases h1 : m.fKind = 1
    · rw [if_neg (by omega), if_neg (by omega), if_neg h0, if_pos h1, if_neg h0, if_pos h1]
      by_cases e1 : m.fEvent.fSource = 0
      · by_cases e2 : m.fEvent.fSeq = 0
        · by_cases e3 : m.fEvent.fType = 0
          · by_cases e4 : m.fEvent.fTime = 0
            · by_cases e5 : m.fEvent.fValues.length = 0
              · simp only [e1, e2, e3, e4, e5, and_self, if_true]
                cases rng m.fSource 7
                · simp [cnd_b, bnd_some]
                · cases ptValid ⟨m.fSeq, m.fTime⟩ <;> simp [cnd_b, bnd_some]
              · have : 0 < m.fEvent.fValues.length := by omega
                simp [e1, e2, e3, e4, e5, bnd_some, this]
            · simp [e1, e2, e3, e4, bnd_some]
          · simp [e1, e2, e3, bnd_some]
        · simp [e1, e2, bnd_some]
      · simp [e1, bnd_some]
    · rw [if_neg h0, if_neg h1, if_neg h0, if_neg h1]
      by_cases h2 : m.fKind < 0
      · rw [if_pos h2]
      · rw [if_neg h2, if_pos (by omega)]
theorem p_rcheckM (n : Nat) (m : T_api_Message) : F_tidegateref36_CheckMessage n m = some (msgCheck m) := by
  unfold F_tidegateref36_CheckMessage msgCheck
  simp only [cnd_if, cnd_not, p_within, p_rvalid, bnd_some, List.length_map]
  by_cases h0 : m.fKind = 0
  · simp only [h0, if_true]
    by_cases h1 : m.fSource = 0
    · by_cases h2 : m.fSeq = 0
      · by_cases h3 : m.fTime = 0
        · simp only [h1, h2, h3, and_self, if_true]
          cases rng m.fEvent.fSource 7
          · simp [cnd_b, bnd_some]
          · cases rng m.fEvent.fSeq 1099511627776
            · simp [cnd_b, bnd_some]
            · cases rng m.fEvent.fTime 1099511627776 <;> simp [cnd_b, bnd_some]
        · simp [h1, h2, h3, bnd_some]
      · simp [h1, h2, bnd_some]
    · simp [h1, bnd_some]
  · by_cases h1 : m.fKind = 1
    · rw [if_neg h0, if_pos h1, if_neg h0, if_pos h1]
      by_cases e1 : m.fEvent.fSource = 0
      · by_cases e2 : m.fEvent.fSeq = 0
        · by_cases e3 : m.fEvent.fType = 0
          · by_cases e4 : m.fEvent.fTime = 0
            · by_cases e5 : m.fEvent.fValues.length = 0
              · simp only [e1, e2, e3, e4, e5, and_self, if_true]
                cases rng m.fSource 7
                · simp [cnd_b, bnd_some]
                · cases ptValid ⟨m.fSeq, m.fTime⟩ <;> simp [cnd_b, bnd_some]
              · have e6 : ¬ (m.fEvent.fValues.length : Int) = 0 := by omega
                simp only [e1, e2, e3, e4, e5, e6, if_true, if_false, true_and]
            · simp [e1, e2, e3, e4, bnd_some]
          · simp [e1, e2, e3, bnd_some]
        · simp [e1, e2, bnd_some]
      · simp [e1, bnd_some]
    · rw [if_neg h0, if_neg h1, if_neg h0, if_neg h1]
def srcOf (m : T_api_Message) : Int := if m.fKind = 0 then m.fEvent.fSource else m.fSource
theorem p_source (n : Nat) (m : T_api_Message) : F_tidegateref36_Source n m = some (srcOf m) := by
  unfold F_tidegateref36_Source srcOf
  rw [cnd_if]
  split <;> rfl

/-! ### The place of a number -/
def cntB (l : List Int) (a : Int) : Nat := (l.filter fun b => decide (b < a)).length
theorem cntB_lt (l : List Int) (a : Int) (h : l.Pairwise (· < ·)) : ∀ k (hk : k < l.length), l[k] < a ↔ k < cntB l a := by
  induction l with
  | nil => intro k hk; simp at hk
  | cons x r ih =>
    intro k hk
    have h' := List.pairwise_cons.1 h
    unfold cntB
    by_cases hx : x < a
    · rw [List.filter_cons_of_pos (by simpa using hx), List.length_cons]
      cases k with
      | zero => simp [hx]
      | succ k => simpa [cntB] using ih h'.2 k (by simpa using hk)
    · rw [List.filter_cons_of_neg (by simpa using hx)]
      have hall : r.filter (fun b => decide (b < a)) = [] := by
        rw [List.filter_eq_nil_iff]
        intro p hp
        have := h'.1 p hp
        simp; omega
      rw [hall]
      cases k with
      | zero => simp [hx]
      | succ k =>
        have hk' : k < r.length := by simpa using hk
        have := h'.1 r[k] (List.getElem_mem hk')
        simp; omega
theorem cntB_le (l : List Int) (a : Int) : cntB l a ≤ l.length := List.length_filter_le _ _
theorem mid_eq (i j : Nat) (hi : i ≤ 1000000000) (hj : j ≤ 1000000000) : IntKind.wrap .i64 (Int.fdiv (IntKind.wrap .u64 (IntKind.wrap .i64 ((i : Int) + (j : Int)))) (2 ^ min (Int.toNat (1 : Int)) (IntKind.bits .u64))) = (((i + j) / 2 : Nat) : Int) := by
  have h1 : IntKind.wrap .i64 ((i : Int) + (j : Int)) = (i : Int) + (j : Int) := wrap_in _ (by omega)
  have h2 : IntKind.wrap .u64 ((i : Int) + (j : Int)) = (i : Int) + (j : Int) := IntWalk.u64_in _ (by omega)
  rw [h1, h2]
  have e : (2 ^ min (Int.toNat (1 : Int)) (IntKind.bits .u64) : Int) = 2 := by decide
  rw [e]
  have e2 : Int.fdiv ((i : Int) + (j : Int)) 2 = (((i + j) / 2 : Nat) : Int) := by
    rw [Int.fdiv_eq_ediv_of_nonneg _ (by omega)]
    omega
  rw [e2, wrap_in _ (by omega)]
theorem p_search_l1 (n : Nat) (a : Int) (l : List Int) (hs : l.Pairwise (· < ·)) (hl : l.length ≤ 1000000) (K : Int → Option Int) : ∀ (m i j : Nat), i ≤ cntB l a → cntB l a ≤ j → j ≤ l.length → j - i < m → F_sort_Search_l1 n a l K m ((i : Int), (j : Int)) = K (cntB l a)
  | 0, i, j, h1, h2, h3, h4 => by omega
  | m + 1, i, j, h1, h2, h3, h4 => by
    unfold F_sort_Search_l1
    simp only [cnd_if, cnd_not]
    by_cases h : i < j
    · rw [if_pos (by omega), shx_ok (by omega), mid_eq i j (by omega) (by omega)]
      have hm : (i + j) / 2 < l.length := by omega
      unfold F_sequence_place_1
      rw [idx_nat hm, bnd_some, cnd_if]
      have hc := cntB_lt l a hs _ hm
      by_cases h5 : a ≤ l[(i + j) / 2]
      · rw [if_pos h5]
        exact p_search_l1 n a l hs hl K m i ((i + j) / 2) h1 (by omega) (by omega) (by omega)
      · rw [if_neg h5, wrapS _ (by omega)]
        exact p_search_l1 n a l hs hl K m ((i + j) / 2 + 1) j (by omega) h2 h3 (by omega)
    · rw [if_neg (by omega)]
      congr 1
      omega
theorem p_place (n : Nat) (l : List Int) (a : Int) (hs : l.Pairwise (· < ·)) (hl : l.length ≤ 1000000) (hn : l.length < n) : F_sequence_place n l a = some ((cntB l a : Nat) : Int) := by
  unfold F_sequence_place F_sort_Search
  have := p_search_l1 n a l hs hl (fun y => some y) n 0 l.length (by omega) (cntB_le l a) (Nat.le_refl _) (by omega)
  simp only [List.length_map]
  simp only [Int.natCast_zero] at this
  rw [this, bnd_some]
theorem cntB_mem (l : List Int) (a : Int) (hs : l.Pairwise (· < ·)) : l.contains a = true ↔ ∃ h : cntB l a < l.length, l[cntB l a] = a := by
  rw [List.contains_iff_mem]
  constructor
  · intro h
    obtain ⟨k, hk, rfl⟩ := List.mem_iff_getElem.1 h
    have h1 := (cntB_lt l l[k] hs k hk)
    have hle : cntB l l[k] ≤ k := by omega
    have hlt : cntB l l[k] < l.length := by omega
    refine ⟨hlt, ?_⟩
    have h2 := cntB_lt l l[k] hs _ hlt
    rcases Nat.eq_or_lt_of_le hle with e | hlt2
    · simp [e]
    · have := List.pairwise_iff_getElem.1 hs _ _ hlt hk hlt2
      omega
  · rintro ⟨h, e⟩
    have := List.getElem_mem h
    rwa [e] at this
theorem p_has (n : Nat) (t : Trk) (s : Int) (hs : t.beyond.Pairwise (· < ·)) (hl : t.beyond.length ≤ 1000000) (hn : t.beyond.length < n) : F_sequence_has n t s = some (hasB t s) := by
  unfold F_sequence_has hasB
  rw [cnd_if]
  split
  · rfl
  · rw [p_place n t.beyond s hs hl hn, bnd_some]
    simp only [List.length_map, cnd_if]
    have hm := cntB_mem t.beyond s hs
    by_cases h : cntB t.beyond s < t.beyond.length
    · rw [if_pos (by omega), idx_nat h]
      congr 1
      rw [Bool.eq_iff_iff, hm, decide_eq_true_iff]
      exact ⟨fun e => ⟨h, e⟩, fun ⟨_, e⟩ => e⟩
    · rw [if_neg (by omega)]
      congr 1
      symm
      rw [← Bool.not_eq_true, hm]
      rintro ⟨h', _⟩
      exact h h'
theorem sqLoop_cons (a b : Int) (r : List Int) : sqLoop a (b :: r) = if b < 0 ∨ 1099511627776 < b then 2 else if b ≤ a then 14 else sqLoop b r := rfl
theorem p_sqCheck_l1 (n : Nat) (t : Trk) (hl : t.beyond.length ≤ 1000000) : ∀ (m k : Nat) (a : Int), k ≤ t.beyond.length → t.beyond.length < m + k → F_sequence_Check_l1 n t (some 0) m (a, (k : Int)) = some (sqLoop a (t.beyond.drop k))
  | 0, k, a, h1, h3 => by omega
  | m + 1, k, a, h1, h3 => by
    unfold F_sequence_Check_l1
    simp only [List.length_map, cnd_if]
    by_cases h : k < t.beyond.length
    · rw [if_pos (by omega), idx_nat h, wrapS k (by omega), p_sqCheck_l1 n t hl m (k + 1) _ (by omega) (by omega), drop_cons _ k h, sqLoop_cons]
      by_cases h1 : t.beyond[k] < 0
      · simp only [h1, if_true, true_or]
      · by_cases h2 : 1099511627776 < t.beyond[k]
        · simp only [h1, h2, if_true, if_false, or_true]
        · simp only [h1, h2, if_false, or_self]
          split <;> rfl
    · rw [if_neg (by omega), List.drop_eq_nil_of_le (by omega)]; rfl
theorem p_sqCheck (n : Nat) (t : Trk) (hl : t.beyond.length ≤ 1000000) (hn : t.beyond.length < n) : F_sequence_Check n t = some (sqCheck t) := by
  unfold F_sequence_Check sqCheck
  simp only [List.length_map, cnd_if]
  have := p_sqCheck_l1 n t hl n 0 t.next (by omega) (by omega)
  simp only [Int.natCast_zero, List.drop_zero] at this
  rw [this]
  by_cases h1 : t.next < 0
  · simp only [h1, if_true, true_or]
  · by_cases h2 : 1099511627777 < t.next
    · simp only [h1, h2, if_true, if_false, or_true]
    · simp only [h1, h2, if_false, or_self]
      by_cases h3 : 256 < t.beyond.length
      · rw [if_pos (by omega), if_pos h3]
      · rw [if_neg (by omega), if_neg h3]
theorem p_rsqCheck_l1 (n : Nat) (t : Trk) (hl : t.beyond.length ≤ 1000000) : ∀ (m k : Nat) (a : Int), k ≤ t.beyond.length → t.beyond.length < m + k → F_tidegateref34_Check_l1 n t (some 0) m (a, (k : Int)) = some (sqLoop a (t.beyond.drop k))
  | 0, k, a, h1, h3 => by omega
  | m + 1, k, a, h1, h3 => by
    unfold F_tidegateref34_Check_l1
    simp only [List.length_map, cnd_if]
    by_cases h : k < t.beyond.length
    · rw [if_pos (by omega), idx_nat h, wrapS k (by omega), p_rsqCheck_l1 n t hl m (k + 1) _ (by omega) (by omega), drop_cons _ k h, sqLoop_cons]
      by_cases h1 : t.beyond[k] < 0
      · simp only [h1, if_true, true_or]
      · by_cases h2 : 1099511627776 < t.beyond[k]
        · simp only [h1, h2, if_true, if_false, or_true]
        · simp only [h1, h2, if_false, or_self]
          split <;> rfl
    · rw [if_neg (by omega), List.drop_eq_nil_of_le (by omega)]; rfl
theorem p_rsqCheck (n : Nat) (t : Trk) (hl : t.beyond.length ≤ 1000000) (hn : t.beyond.length < n) : F_tidegateref34_Check n t = some (sqCheck t) := by
  unfold F_tidegateref34_Check sqCheck
  simp only [List.length_map, cnd_if]
  have := p_rsqCheck_l1 n t hl n 0 t.next (by omega) (by omega)
  simp only [Int.natCast_zero, List.drop_zero] at this
  rw [this]
  by_cases h1 : t.next < 0
  · simp only [h1, if_true, true_or]
  · by_cases h2 : 1099511627777 < t.next
    · simp only [h1, h2, if_true, if_false, or_true]
    · simp only [h1, h2, if_false, or_self]
      by_cases h3 : 256 < t.beyond.length
      · rw [if_pos (by omega), if_pos h3]
      · rw [if_neg (by omega), if_neg h3]
theorem p_contains_l1 (n : Nat) (s : Int) (t : Trk) (hl : t.beyond.length ≤ 1000000) : ∀ (m k : Nat), k ≤ t.beyond.length → t.beyond.length < m + k → F_tidegateref34_Contains_l1 n s t (some false) m (k : Int) = some ((t.beyond.drop k).contains s)
  | 0, k, h1, h3 => by omega
  | m + 1, k, h1, h3 => by
    unfold F_tidegateref34_Contains_l1
    simp only [List.length_map, cnd_if]
    by_cases h : k < t.beyond.length
    · rw [if_pos (by omega), idx_nat h, wrapS k (by omega), p_contains_l1 n s t hl m (k + 1) (by omega) (by omega), show (t.beyond.drop k).contains s = ((s == t.beyond[k]) || (t.beyond.drop (k + 1)).contains s) by rw [drop_cons _ k h, List.contains_cons]]
      by_cases h2 : t.beyond[k] = s
      · rw [if_pos h2]; simp [h2]
      · rw [if_neg h2]
        have : (s == t.beyond[k]) = false := by rw [beq_eq_false_iff_ne]; exact fun e => h2 e.symm
        rw [this, Bool.false_or]
    · rw [if_neg (by omega), List.drop_eq_nil_of_le (by omega)]; rfl
theorem p_contains (n : Nat) (t : Trk) (s : Int) (hl : t.beyond.length ≤ 1000000) (hn : t.beyond.length < n) : F_tidegateref34_Contains n t s = some (hasB t s) := by
  unfold F_tidegateref34_Contains hasB
  rw [cnd_if]
  split
  · rfl
  · have := p_contains_l1 n s t hl n 0 (by omega) (by omega)
    simpa using this
end Go.Proofs.Ythhnhajldhnfmaa
namespace Go.Proofs.Ythhnhajldhnfmaa
open Go.RowKit

def strip : Int → List Int → Int × List Int
  | a, [] => (a, [])
  | a, b :: r => if b = a then strip (a + 1) r else (a, b :: r)
def insB (l : List Int) (s : Int) : List Int := l.take (cntB l s) ++ s :: l.drop (cntB l s)
def withT (t : Trk) (s : Int) : Trk :=
  if t.next < s then ⟨t.next, insB t.beyond s, t.points, t.mark⟩ else ⟨(strip (t.next + 1) t.beyond).1, (strip (t.next + 1) t.beyond).2, t.points, t.mark⟩
def recvT (t : Trk) (s : Int) : Trk × Bool × Int :=
  if sqCheck t ≠ 0 then (zeroT, false, sqCheck t) else if s < 0 ∨ 1099511627776 < s then (zeroT, false, 2) else
  if hasB t s = true then (t, false, 0) else if 256 < (withT t s).beyond.length then (zeroT, false, 5) else (withT t s, true, 0)

/-! ### Stripping -/
theorem p_strip_own (n : Nat) (t : Trk) (ps : List Pt) (K : Int → List Int → List Pt → Option Trk) : ∀ (l : List Int) (m : Nat) (a : Int), l.length < m → l.length ≤ 1000000 → 0 ≤ a → a + l.length ≤ 4000000000000 →
    F_sequence_with_l1 n t ps K m (a, l) = K (strip a l).1 (strip a l).2 ps
  | [], 0, a, h, _, _, _ => by simp at h
  | [], m + 1, a, h, _, _, _ => by
    unfold F_sequence_with_l1
    simp only [List.map_nil, List.length_nil, cnd_if]
    rw [if_neg (by omega)]
    rfl
  | b :: r, 0, a, h, _, _, _ => by simp at h
  | b :: r, m + 1, a, h, h1, h2, h3 => by
    unfold F_sequence_with_l1
    simp only [List.length_map, cnd_if, reg_eq]
    simp only [List.length_cons] at h h1 h3 ⊢
    rw [if_pos (by omega), idx_zero]
    unfold strip
    by_cases h4 : b = a
    · have e := sls_ok (l := b :: r) (a := 1) (b := r.length + 1) (by omega) (by simp) (fun x49 => F_sequence_with_l1 n t ps K m (IntKind.i64.wrap (a + 1), x49))
      simp only [Int.natCast_one] at e
      rw [if_pos h4, if_pos h4, e, wrap_in (a + 1) (by omega)]
      have : ((b :: r).take (r.length + 1)).drop 1 = r := by simp
      rw [this]
      exact p_strip_own n t ps K r m (a + 1) (by omega) (by omega) (by omega) (by omega)
    · rw [if_neg h4, if_neg h4]
theorem p_strip2 (n : Nat) (t : Trk) (K : List Int → Int → Option Trk) : ∀ (l : List Int) (m : Nat) (a : Int), l.length < m → l.length ≤ 1000000 → 0 ≤ a → a + l.length ≤ 4000000000000 →
    F_tidegateref34_With_l2 n t K m (l, a) = K (strip a l).2 (strip a l).1
  | [], 0, a, h, _, _, _ => by simp at h
  | [], m + 1, a, h, _, _, _ => by
    unfold F_tidegateref34_With_l2
    simp only [List.map_nil, List.length_nil, cnd_if]
    rw [if_neg (by omega)]
    rfl
  | b :: r, 0, a, h, _, _, _ => by simp at h
  | b :: r, m + 1, a, h, h1, h2, h3 => by
    unfold F_tidegateref34_With_l2
    simp only [List.length_map, cnd_if, reg_eq]
    simp only [List.length_cons] at h h1 h3 ⊢
    rw [if_pos (by omega), idx_zero]
    unfold strip
    by_cases h4 : b = a
    · have e := sls_ok (l := b :: r) (a := 1) (b := r.length + 1) (by omega) (by simp) (fun x49 => F_tidegateref34_With_l2 n t K m (x49, IntKind.i64.wrap (a + 1)))
      simp only [Int.natCast_one] at e
      rw [if_pos h4, if_pos h4, e, wrap_in (a + 1) (by omega)]
      have : ((b :: r).take (r.length + 1)).drop 1 = r := by simp
      rw [this]
      exact p_strip2 n t K r m (a + 1) (by omega) (by omega) (by omega) (by omega)
    · rw [if_neg h4, if_neg h4]
theorem p_strip3 (n : Nat) (t : Trk) (K : List Int → Int → Option Trk) : ∀ (l : List Int) (m : Nat) (a : Int), l.length < m → l.length ≤ 1000000 → 0 ≤ a → a + l.length ≤ 4000000000000 →
    F_tidegateref34_With_l3 n t K m (l, a) = K (strip a l).2 (strip a l).1
  | [], 0, a, h, _, _, _ => by simp at h
  | [], m + 1, a, h, _, _, _ => by
    unfold F_tidegateref34_With_l3
    simp only [List.map_nil, List.length_nil, cnd_if]
    rw [if_neg (by omega)]
    rfl
  | b :: r, 0, a, h, _, _, _ => by simp at h
  | b :: r, m + 1, a, h, h1, h2, h3 => by
    unfold F_tidegateref34_With_l3
    simp only [List.length_map, cnd_if, reg_eq]
    simp only [List.length_cons] at h h1 h3 ⊢
    rw [if_pos (by omega), idx_zero]
    unfold strip
    by_cases h4 : b = a
    · have e := sls_ok (l := b :: r) (a := 1) (b := r.length + 1) (by omega) (by simp) (fun x49 => F_tidegateref34_With_l3 n t K m (x49, IntKind.i64.wrap (a + 1)))
      simp only [Int.natCast_one] at e
      rw [if_pos h4, if_pos h4, e, wrap_in (a + 1) (by omega)]
      have : ((b :: r).take (r.length + 1)).drop 1 = r := by simp
      rw [this]
      exact p_strip3 n t K r m (a + 1) (by omega) (by omega) (by omega) (by omega)
    · rw [if_neg h4, if_neg h4]
theorem insB_len (l : List Int) (s : Int) : (insB l s).length = l.length + 1 := by
  have := cntB_le l s
  simp [insB]
  omega
theorem ins_ok {α : Type} {n c : Nat} {a : List α} {x : α} (h : c ≤ a.length) (hl : a.length ≤ 1000000000) : F_insert n a (c : Int) [x] = some (a.take c ++ x :: a.drop c) := by
  unfold F_insert
  simp [h, hl]
theorem p_with (n : Nat) (t : Trk) (s : Int) (hq : sqCheck t = 0) (hp : t.points.length ≤ 1000000) (hn : 1000 ≤ n) : F_sequence_with n t s = some (withT t s) := by
  obtain ⟨h1, h2, h3, h4⟩ := (sqCheck_zero t).1 hq
  unfold F_sequence_with F_clone withT
  rw [if_pos (by omega), bndR_some, if_pos (by omega), bnd_some, cnd_if]
  by_cases h : t.next < s
  · rw [if_pos h, if_pos h, p_place n t.beyond s (List.pairwise_cons.1 h4).2 (by omega) (by omega), bnd_some]
    have := cntB_le t.beyond s
    rw [ins_ok this (by omega), bndC_some]
    rfl
  · rw [if_neg h, if_neg h, wrap_in _ (by omega), p_strip_own n t t.points _ t.beyond n (t.next + 1) (by omega) (by omega) (by omega) (by omega)]

/-! ### The reference's With -/
def wl (s : Int) : Bool → List Int → List Int → Bool × List Int
  | p, acc, [] => (p, acc)
  | p, acc, b :: r => if p = false ∧ s < b then wl s true (acc ++ [s, b]) r else wl s p (acc ++ [b]) r
theorem p_withl (n : Nat) (s : Int) (t : Trk) (hl : t.beyond.length ≤ 1000000) (K : Bool → List Int → Option Trk) : ∀ (m k : Nat) (p : Bool) (acc : List Int), k ≤ t.beyond.length → t.beyond.length < m + k → acc.length ≤ 2 * k →
    F_tidegateref34_With_l1 n s t K m (p, (k : Int), acc) = K (wl s p acc (t.beyond.drop k)).1 (wl s p acc (t.beyond.drop k)).2
  | 0, k, p, acc, h1, h3, h4 => by omega
  | m + 1, k, p, acc, h1, h3, h4 => by
    unfold F_tidegateref34_With_l1
    simp only [List.length_map, cnd_if, cnd_not]
    by_cases h : k < t.beyond.length
    · have ih := p_withl n s t hl K m (k + 1)
      have hw : ∀ p acc, wl s p acc (t.beyond[k] :: t.beyond.drop (k + 1)) = if p = false ∧ s < t.beyond[k] then wl s true (acc ++ [s, t.beyond[k]]) (t.beyond.drop (k + 1)) else wl s p (acc ++ [t.beyond[k]]) (t.beyond.drop (k + 1)) := fun p acc => rfl
      simp only [idx_nat h]
      rw [if_pos (by omega), wrapS k (by omega), drop_cons _ k h, hw]
      cases p with
      | true =>
        rw [cnd_t, app_ok (by simp; omega) (by omega), ih true _ (by omega) (by omega) (by simp; omega), if_neg (by simp)]
      | false =>
        rw [cnd_f]
        by_cases h5 : s < t.beyond[k]
        · rw [if_pos h5, app_ok (by simp; omega) (by omega), app_ok (by simp; omega) (by omega), ih true _ (by omega) (by omega) (by simp; omega), if_pos ⟨rfl, h5⟩]
          simp
        · rw [if_neg h5, app_ok (by simp; omega) (by omega), ih false _ (by omega) (by omega) (by simp; omega), if_neg (by simp [h5])]
    · rw [if_neg (by omega), List.drop_eq_nil_of_le (by omega)]; rfl
theorem wl_cons (s : Int) (p : Bool) (acc : List Int) (b : Int) (r : List Int) : wl s p acc (b :: r) = if p = false ∧ s < b then wl s true (acc ++ [s, b]) r else wl s p (acc ++ [b]) r := rfl
theorem wl_true (s : Int) (acc l : List Int) : wl s true acc l = (true, acc ++ l) := by
  induction l generalizing acc with
  | nil => simp [wl]
  | cons b r ih => rw [wl_cons, if_neg (by simp), ih]; simp
theorem wl_false (s : Int) (acc l : List Int) (hs : l.Pairwise (· < ·)) (hn : s ∉ l) : (if (wl s false acc l).1 = true then (wl s false acc l).2 else (wl s false acc l).2 ++ [s]) = acc ++ insB l s := by
  induction l generalizing acc with
  | nil => simp [wl, insB, cntB]
  | cons b r ih =>
    have h' := List.pairwise_cons.1 hs
    have hsb : s ≠ b := fun e => hn (by simp [e])
    rw [wl_cons]
    by_cases h : s < b
    · rw [if_pos (show false = false ∧ s < b from ⟨rfl, h⟩), wl_true]
      have hc : cntB (b :: r) s = 0 := by
        unfold cntB
        rw [List.length_eq_zero_iff, List.filter_eq_nil_iff]
        intro x hx
        rcases List.mem_cons.1 hx with rfl | hx
        · simp; omega
        · have := h'.1 x hx; simp; omega
      unfold insB
      rw [hc]
      simp
    · rw [if_neg (show ¬ (false = false ∧ s < b) by simp [h]), ih _ h'.2 (fun hm => hn (by simp [hm]))]
      have hc : cntB (b :: r) s = cntB r s + 1 := by
        unfold cntB
        rw [List.filter_cons_of_pos (by simp; omega), List.length_cons]
      unfold insB
      rw [hc]
      simp
theorem strip_above (a : Int) (l : List Int) (h : ∀ b ∈ l, a < b) : strip a l = (a, l) := by
  cases l with
  | nil => rfl
  | cons b r => unfold strip; rw [if_neg (by have := h b (by simp); omega)]
theorem hasB_false (t : Trk) (s : Int) (h0 : 0 ≤ s) (h : hasB t s = false) : t.next ≤ s ∧ s ∉ t.beyond := by
  unfold hasB at h
  split at h
  · simp at h; omega
  · refine ⟨by omega, fun hm => ?_⟩
    rw [← Bool.not_eq_true, List.contains_iff_mem] at h
    exact h hm
theorem p_rwith (n : Nat) (t : Trk) (s : Int) (hq : sqCheck t = 0) (h0 : 0 ≤ s) (hs : s ≤ 1099511627776) (hb : hasB t s = false) (hn : 1000 ≤ n) : F_tidegateref34_With n t s = some (withT t s) := by
  obtain ⟨h1, h2, h3, h4⟩ := (sqCheck_zero t).1 hq
  obtain ⟨q1, q2⟩ := hasB_false t s h0 hb
  unfold F_tidegateref34_With
  rw [p_contains n t s (by omega) (by omega), bnd_some, hb, cnd_f]
  have e := p_withl n s t (by omega) (fun k1_0_0y0 k1_0_0y1 => cnd (!(k1_0_0y0)) (app k1_0_0y1 [s] 8 fun x44 =>
    F_tidegateref34_With_l2 n t (fun k2_1_0y0 k2_1_0y1 => some (⟨k2_1_0y1, k2_1_0y0, t.points, t.mark⟩)) n (x44, t.next)) <| F_tidegateref34_With_l3 n t
    (fun k3_2_0y0 k3_2_0y1 => some (⟨k3_2_0y1, k3_2_0y0, t.points, t.mark⟩)) n (k1_0_0y1, t.next)) n 0 false [] (by omega) (by omega) (by simp)
  simp only [Int.natCast_zero, List.drop_zero] at e
  rw [e]
  have hw := wl_false s [] t.beyond (List.pairwise_cons.1 h4).2 q2
  have hil := insB_len t.beyond s
  have hlen : (wl s false [] t.beyond).2.length ≤ t.beyond.length + 1 := by
    have := congrArg List.length hw
    simp only [List.nil_append] at this
    rw [hil] at this
    split at this
    · omega
    · simp at this; omega
  have key : strip t.next (insB t.beyond s) = if t.next < s then (t.next, insB t.beyond s) else strip (t.next + 1) t.beyond := by
    by_cases h : t.next < s
    · rw [if_pos h]
      refine strip_above _ _ fun b hb => ?_
      unfold insB at hb
      rcases List.mem_append.1 hb with hb | hb
      · exact (List.pairwise_cons.1 h4).1 b (List.mem_of_mem_take hb)
      · rcases List.mem_cons.1 hb with rfl | hb
        · exact h
        · exact (List.pairwise_cons.1 h4).1 b (List.mem_of_mem_drop hb)
    · rw [if_neg h]
      have hsn : s = t.next := by omega
      have hc : cntB t.beyond s = 0 := by
        unfold cntB
        rw [List.length_eq_zero_iff, List.filter_eq_nil_iff]
        intro x hx
        have := (List.pairwise_cons.1 h4).1 x hx
        simp; omega
      unfold insB
      rw [hc, List.take_zero, List.drop_zero, List.nil_append, hsn]
      conv => lhs; unfold strip
      rw [if_pos rfl]
  have fin : some (⟨(strip t.next (insB t.beyond s)).1, (strip t.next (insB t.beyond s)).2, t.points, t.mark⟩ : Trk) = some (withT t s) := by
    rw [key]
    unfold withT
    split <;> rfl
  cases hp : (wl s false [] t.beyond).1 with
  | false =>
    rw [hp, if_neg (by simp), List.nil_append] at hw
    rw [Bool.not_false, cnd_t, app_ok (by simp; omega) (by omega), hw, p_strip2 n t _ _ n t.next (by omega) (by omega) (by omega) (by omega)]
    exact fin
  | true =>
    rw [hp, if_pos rfl, List.nil_append] at hw
    rw [Bool.not_true, cnd_f, hw, p_strip3 n t _ _ n t.next (by omega) (by omega) (by omega) (by omega)]
    exact fin
theorem p_recv (n : Nat) (t : Trk) (s : Int) (hl : t.beyond.length ≤ 900) (hp : t.points.length ≤ 1000000) (hn : 1000 ≤ n) : F_sequence_Receive n t s = some (recvT t s) := by
  unfold F_sequence_Receive recvT
  rw [p_sqCheck n t (by omega) (by omega), bnd_some]
  simp only [cnd_not, cnd_if]
  by_cases hq : sqCheck t = 0
  · have hw : ¬ sqCheck t ≠ 0 := by simpa using hq
    rw [if_pos hq, if_neg hw]
    obtain ⟨h1, h2, h3, h4⟩ := (sqCheck_zero t).1 hq
    by_cases h5 : s < 0
    · simp only [h5, if_true, true_or]; rfl
    · by_cases h6 : 1099511627776 < s
      · simp only [h5, h6, if_true, if_false, or_true]; rfl
      · simp only [h5, h6, if_false, or_self]
        rw [p_has n t s (List.pairwise_cons.1 h4).2 (by omega) (by omega), bnd_some]
        cases hb : hasB t s with
        | true =>
          unfold F_clone
          rw [cnd_t, if_pos (by omega), bnd_some, if_pos (by omega), bnd_some]
          simp
        | false =>
          rw [cnd_f, p_with n t s hq hp hn, bnd_some]
          simp only [List.length_map, cnd_if, Bool.false_eq_true, if_false]
          by_cases h7 : 256 < (withT t s).beyond.length
          · rw [if_pos (by omega), if_pos h7]; rfl
          · rw [if_neg (by omega), if_neg h7]
  · rw [if_neg hq, if_pos hq]; rfl
theorem p_rrecv (n : Nat) (t : Trk) (s : Int) (hl : t.beyond.length ≤ 900) (hn : 1000 ≤ n) : F_tidegateref34_Receive n t s = some (recvT t s) := by
  unfold F_tidegateref34_Receive recvT
  rw [p_rsqCheck n t (by omega) (by omega), bnd_some]
  simp only [cnd_not, cnd_if]
  by_cases hq : sqCheck t = 0
  · have hw : ¬ sqCheck t ≠ 0 := by simpa using hq
    rw [if_pos hq, if_neg hw]
    obtain ⟨h1, h2, h3, h4⟩ := (sqCheck_zero t).1 hq
    by_cases h5 : s < 0
    · simp only [h5, if_true, true_or]; rfl
    · by_cases h6 : 1099511627776 < s
      · simp only [h5, h6, if_true, if_false, or_true]; rfl
      · simp only [h5, h6, if_false, or_self]
        rw [p_contains n t s (by omega) (by omega), bnd_some]
        cases hb : hasB t s with
        | true => simp [cnd_t]
        | false =>
          rw [cnd_f, p_rwith n t s hq (by omega) (by omega) hb hn, bnd_some]
          simp only [List.length_map, cnd_if, Bool.false_eq_true, if_false]
          by_cases h7 : 256 < (withT t s).beyond.length
          · rw [if_pos (by omega), if_pos h7]; rfl
          · rw [if_neg (by omega), if_neg h7]
  · rw [if_neg hq, if_pos hq]; rfl

/-! ### Settled -/
def settledR (t : Trk) : Trk := ⟨t.next, t.beyond, t.points.filter fun p => decide (t.next < p.seq) && decide (latest t.mark t.points t.next < p.time), latest t.mark t.points t.next⟩
theorem p_settled_l1 (n : Nat) (t : Trk) (hl : t.points.length ≤ 1000000) (K : Int → Option Trk) : ∀ (m k : Nat) (a : Int), k ≤ t.points.length → t.points.length < m + k → F_tidegateref35_Settled_l1 n t K m ((k : Int), a) = K (latest a (t.points.drop k) t.next)
  | 0, k, a, h1, h3 => by omega
  | m + 1, k, a, h1, h3 => by
    unfold F_tidegateref35_Settled_l1
    simp only [List.length_map, cnd_if]
    by_cases h : k < t.points.length
    · rw [if_pos (by omega), idx_nat h, idx_nat h, wrapS k (by omega), p_settled_l1 n t hl K m (k + 1) _ (by omega) (by omega), p_settled_l1 n t hl K m (k + 1) _ (by omega) (by omega), show latest a (t.points.drop k) t.next = latest (if t.points[k].seq ≤ t.next then max a t.points[k].time else a) (t.points.drop (k + 1)) t.next by
        rw [drop_cons _ k h]
        unfold latest
        by_cases h2 : t.points[k].seq ≤ t.next
        · rw [List.filter_cons_of_pos (by simpa using h2), List.foldl_cons, if_pos h2]
        · rw [List.filter_cons_of_neg (by simpa using h2), if_neg h2]]
      split <;> rfl
    · rw [if_neg (by omega), List.drop_eq_nil_of_le (by omega)]; rfl
theorem p_settled_l2 (n : Nat) (t : Trk) (y : Int) (hl : t.points.length ≤ 1000000) (K : List Pt → Option Trk) : ∀ (m k : Nat) (acc : List Pt), k ≤ t.points.length → t.points.length < m + k → acc.length ≤ k →
    F_tidegateref35_Settled_l2 n t y K m ((k : Int), acc) = K (acc ++ (t.points.drop k).filter fun p => decide (t.next < p.seq) && decide (y < p.time))
  | 0, k, acc, h1, h3, h4 => by omega
  | m + 1, k, acc, h1, h3, h4 => by
    unfold F_tidegateref35_Settled_l2
    simp only [List.length_map, cnd_if]
    by_cases h : k < t.points.length
    · rw [if_pos (by omega)]
      simp only [idx_nat h]
      rw [wrapS k (by omega), app_ok (by simp; omega) (by omega), p_settled_l2 n t y hl K m (k + 1) _ (by omega) (by omega) (by simp; omega), p_settled_l2 n t y hl K m (k + 1) _ (by omega) (by omega) (by omega), show ((t.points.drop k).filter fun p => decide (t.next < p.seq) && decide (y < p.time)) = (if t.next < t.points[k].seq ∧ y < t.points[k].time then [t.points[k]] else []) ++ (t.points.drop (k + 1)).filter fun p => decide (t.next < p.seq) && decide (y < p.time) by
        rw [drop_cons _ k h]
        by_cases h2 : t.next < t.points[k].seq ∧ y < t.points[k].time
        · rw [List.filter_cons_of_pos (by simpa using h2), if_pos h2]; rfl
        · rw [List.filter_cons_of_neg (by simpa using h2), if_neg h2]; rfl]
      by_cases h5 : t.next < t.points[k].seq
      · by_cases h6 : y < t.points[k].time
        · simp only [h5, h6, and_self, if_true, List.append_assoc]
        · simp only [h5, h6, and_false, if_true, if_false, List.nil_append]
      · simp only [h5, false_and, if_false, List.nil_append]
    · rw [if_neg (by omega), List.drop_eq_nil_of_le (by omega)]; simp
theorem p_settled (n : Nat) (t : Trk) (hl : t.points.length ≤ 1000000) (hn : t.points.length < n) : F_tidegateref35_Settled n t = some (settledR t) := by
  unfold F_tidegateref35_Settled settledR
  have e := p_settled_l1 n t hl (fun k1_0_0y => F_tidegateref35_Settled_l2 n t k1_0_0y (fun k2_1_0y => some (⟨t.next, t.beyond, k2_1_0y, k1_0_0y⟩)) n (0, [])) n 0 t.mark (by omega) (by omega)
  simp only [Int.natCast_zero, List.drop_zero] at e
  rw [e]
  have e2 := p_settled_l2 n t (latest t.mark t.points t.next) hl (fun k2_1_0y => some (⟨t.next, t.beyond, k2_1_0y, latest t.mark t.points t.next⟩)) n 0 [] (by omega) (by omega) (by simp)
  simp only [Int.natCast_zero, List.drop_zero, List.nil_append] at e2
  rw [e2]
end Go.Proofs.Ythhnhajldhnfmaa
namespace Go.Proofs.Ythhnhajldhnfmaa
open Go.RowKit

/-- What strip leaves: the least number that is missing, and what is beyond. -/
theorem strip_props (a : Int) (l : List Int) (hs : l.Pairwise (· < ·)) (ha : ∀ b ∈ l, a ≤ b) :
    a ≤ (strip a l).1 ∧ ((strip a l).1 = a ∨ (strip a l).1 - 1 ∈ l) ∧ (∀ b ∈ (strip a l).2, b ∈ l) ∧ ((strip a l).1 :: (strip a l).2).Pairwise (· < ·) ∧ (strip a l).2.length ≤ l.length ∧ ∀ x, (x < (strip a l).1 ∨ x ∈ (strip a l).2) ↔ (x < a ∨ x ∈ l) := by
  induction l generalizing a with
  | nil => simp [strip]
  | cons b r ih =>
    have h' := List.pairwise_cons.1 hs
    unfold strip
    by_cases h : b = a
    · rw [if_pos h]
      obtain ⟨i1, i2, i3, i4, i5, i6⟩ := ih (a + 1) h'.2 (fun x hx => by have := h'.1 x hx; omega)
      refine ⟨by omega, Or.inr ?_, fun x hx => by simp [i3 x hx], i4, by simp; omega, fun x => ?_⟩
      · rcases i2 with i2 | i2
        · rw [i2, show a + 1 - 1 = b by omega]; simp
        · simp [i2]
      · rw [i6 x]
        simp only [List.mem_cons]
        constructor
        · rintro (h1 | h1)
          · by_cases hx : x = b
            · exact Or.inr (Or.inl hx)
            · exact Or.inl (by omega)
          · exact Or.inr (Or.inr h1)
        · rintro (h1 | h1 | h1)
          · exact Or.inl (by omega)
          · exact Or.inl (by omega)
          · exact Or.inr h1
    · rw [if_neg h]
      have hb := ha b (by simp)
      exact ⟨by omega, Or.inl rfl, fun x hx => hx, List.pairwise_cons.2 ⟨fun x hx => by
        rcases List.mem_cons.1 hx with rfl | hx
        · omega
        · have := h'.1 x hx; omega, hs⟩, by simp, fun x => Iff.rfl⟩
theorem insB_mem (l : List Int) (s x : Int) : x ∈ insB l s ↔ x = s ∨ x ∈ l := by
  have e : x ∈ l ↔ x ∈ l.take (cntB l s) ∨ x ∈ l.drop (cntB l s) := by
    rw [← List.mem_append, List.take_append_drop]
  rw [e]
  simp only [insB, List.mem_append, List.mem_cons]
  constructor
  · rintro (h | h | h)
    · exact Or.inr (Or.inl h)
    · exact Or.inl h
    · exact Or.inr (Or.inr h)
  · rintro (h | h | h)
    · exact Or.inr (Or.inl h)
    · exact Or.inl h
    · exact Or.inr (Or.inr h)
theorem insB_sorted (l : List Int) (s : Int) (hs : l.Pairwise (· < ·)) (hn : s ∉ l) : (insB l s).Pairwise (· < ·) := by
  have h1 : ∀ x ∈ l.take (cntB l s), x < s := fun x hx => by
    obtain ⟨k, hk, rfl⟩ := List.mem_iff_getElem.1 hx
    simp only [List.length_take] at hk
    rw [List.getElem_take]
    exact (cntB_lt l s hs k (by omega)).2 (by omega)
  have h2 : ∀ x ∈ l.drop (cntB l s), s < x := fun x hx => by
    have hxl := List.mem_of_mem_drop hx
    obtain ⟨k, hk, rfl⟩ := List.mem_iff_getElem.1 hx
    simp only [List.length_drop] at hk
    rw [List.getElem_drop]
    have := (cntB_lt l s hs (cntB l s + k) (by omega))
    have hne : l[cntB l s + k] ≠ s := fun e => hn (e ▸ List.getElem_mem _)
    omega
  unfold insB
  rw [List.pairwise_append]
  refine ⟨hs.sublist (List.take_sublist _ _), List.pairwise_cons.2 ⟨h2, hs.sublist (List.drop_sublist _ _)⟩, fun x hx y hy => ?_⟩
  rcases List.mem_cons.1 hy with rfl | hy
  · exact h1 x hx
  · have := h1 x hx; have := h2 y hy; omega
/-- The numbers that a tracker has. -/
def Num (t : Trk) (x : Int) : Prop := x < t.next ∨ x ∈ t.beyond
theorem hasB_iff (t : Trk) (s : Int) (h0 : 0 ≤ s) : hasB t s = true ↔ Num t s := by
  unfold hasB Num
  by_cases h : s < t.next
  · simp [h, h0]
  · simp [h]
/-- A new number: the tracker stays sorted, and has it besides. -/
theorem withT_props (t : Trk) (s : Int) (hq : sqCheck t = 0) (h0 : 0 ≤ s) (hs : s ≤ 1099511627776) (hb : hasB t s = false) :
    (0 ≤ (withT t s).next ∧ (withT t s).next ≤ 1099511627777) ∧ (∀ b ∈ (withT t s).beyond, 0 ≤ b ∧ b ≤ 1099511627776) ∧ ((withT t s).next :: (withT t s).beyond).Pairwise (· < ·) ∧ (withT t s).beyond.length ≤ t.beyond.length + 1 ∧ t.next ≤ (withT t s).next ∧
      (∀ x, Num (withT t s) x ↔ x = s ∨ Num t x) ∧ (withT t s).points = t.points ∧ (withT t s).mark = t.mark := by
  obtain ⟨h1, h2, h3, h4⟩ := (sqCheck_zero t).1 hq
  obtain ⟨q1, q2⟩ := hasB_false t s h0 hb
  have h4' := List.pairwise_cons.1 h4
  unfold withT
  by_cases h : t.next < s
  · rw [if_pos h]
    refine ⟨h1, fun b hb => ?_, List.pairwise_cons.2 ⟨fun b hb => ?_, insB_sorted _ _ h4'.2 q2⟩, by rw [insB_len]; omega, Int.le_refl _, fun x => ?_, rfl, rfl⟩
    · rcases (insB_mem _ _ _).1 hb with rfl | hb
      · omega
      · exact h3 b hb
    · rcases (insB_mem _ _ _).1 hb with rfl | hb
      · exact h
      · exact h4'.1 b hb
    · unfold Num
      simp only [insB_mem]
      constructor
      · rintro (h | h | h)
        · exact Or.inr (Or.inl h)
        · exact Or.inl h
        · exact Or.inr (Or.inr h)
      · rintro (h | h | h)
        · exact Or.inr (Or.inl h)
        · exact Or.inl h
        · exact Or.inr (Or.inr h)
  · rw [if_neg h]
    obtain ⟨i1, i2, i3, i4, i5, i6⟩ := strip_props (t.next + 1) t.beyond h4'.2 (fun b hb => by have := h4'.1 b hb; omega)
    refine ⟨⟨by simp only; omega, ?_⟩, fun b hb => h3 b (i3 b hb), i4, by simp only; omega, by simp only; omega, fun x => ?_, rfl, rfl⟩
    · rcases i2 with i2 | i2
      · simp only; omega
      · have := h3 _ i2; simp only; omega
    · unfold Num
      rw [i6 x]
      constructor
      · rintro (h | h)
        · by_cases hx : x = s
          · exact Or.inl hx
          · exact Or.inr (Or.inl (by omega))
        · exact Or.inr (Or.inr h)
      · rintro (h | h | h)
        · exact Or.inl (by omega)
        · exact Or.inl (by omega)
        · exact Or.inr h
theorem withT_sq (t : Trk) (s : Int) (hq : sqCheck t = 0) (h0 : 0 ≤ s) (hs : s ≤ 1099511627776) (hb : hasB t s = false) (hl : (withT t s).beyond.length ≤ 256) : sqCheck (withT t s) = 0 := by
  obtain ⟨a, b, c, _⟩ := withT_props t s hq h0 hs hb
  exact (sqCheck_zero _).2 ⟨a, hl, b, c⟩
theorem latest_ge (mark : Int) (l : List Pt) (s : Int) : mark ≤ latest mark l s ∧ (∀ p ∈ l, p.seq ≤ s → p.time ≤ latest mark l s) ∧ (latest mark l s = mark ∨ ∃ p ∈ l, p.seq ≤ s ∧ latest mark l s = p.time) := by
  unfold latest
  have key : ∀ (l : List Pt) (a : Int), a ≤ l.foldl (fun m p => max m p.time) a ∧ (∀ p ∈ l, p.time ≤ l.foldl (fun m p => max m p.time) a) ∧ (l.foldl (fun m p => max m p.time) a = a ∨ ∃ p ∈ l, l.foldl (fun m p => max m p.time) a = p.time) := fun l => by
    induction l with
    | nil => intro a; simp
    | cons x r ih =>
      intro a
      obtain ⟨i1, i2, i3⟩ := ih (max a x.time)
      rw [List.foldl_cons]
      refine ⟨by omega, fun p hp => ?_, ?_⟩
      · rcases List.mem_cons.1 hp with rfl | hp
        · omega
        · exact i2 p hp
      · rcases i3 with i3 | ⟨p, hp, i3⟩
        · by_cases h : x.time ≤ a
          · exact Or.inl (by omega)
          · exact Or.inr ⟨x, by simp, by omega⟩
        · exact Or.inr ⟨p, by simp [hp], i3⟩
  obtain ⟨k1, k2, k3⟩ := key (l.filter fun p => decide (p.seq ≤ s)) mark
  refine ⟨k1, fun p hp h => k2 p (List.mem_filter.2 ⟨hp, by simpa using h⟩), ?_⟩
  rcases k3 with k3 | ⟨p, hp, k3⟩
  · exact Or.inl k3
  · obtain ⟨h1, h2⟩ := List.mem_filter.1 hp
    exact Or.inr ⟨p, h1, by simpa using h2, k3⟩
/-- A tracker with other numbers, settled: well-formed, and it forbids what it forbade. -/
theorem settled_ok (u : Trk) (hq : sqCheck u = 0) (hm : -1 ≤ u.mark ∧ u.mark ≤ 1099511627776) (hl : u.points.length ≤ 256) (ho : ∀ p ∈ u.points, PtOk p) (ha : u.points.Pairwise Asc2) :
    settleT u = (settledR u, 0) ∧ TOk (settledR u) ∧ (∀ s τ, u.next ≤ s → (Forb (settledR u) s τ ↔ Forb u s τ)) ∧ u.mark ≤ (settledR u).mark := by
  obtain ⟨l1, l2, l3⟩ := latest_ge u.mark u.points u.next
  have hmk : -1 ≤ latest u.mark u.points u.next ∧ latest u.mark u.points u.next ≤ 1099511627776 := by
    refine ⟨by omega, ?_⟩
    rcases l3 with l3 | ⟨p, hp, _, l3⟩
    · omega
    · have := (ho p hp).2.2.2; omega
  have hasc : asc u ⟨-1, -1⟩ = 0 := by
    unfold asc
    rw [if_neg (by simpa using hq), if_neg (by omega), if_neg (by omega)]
    refine (ascLoop_zero _ _).2 ⟨ho, List.pairwise_cons.2 ⟨fun p hp => ?_, ha⟩⟩
    have := ho p hp
    unfold PtOk at this
    unfold Asc2
    simp only
    omega
  refine ⟨by unfold settleT; rw [if_neg (by simpa using hasc)]; rfl, ⟨?_, hmk, ?_, ?_, ?_⟩, fun s τ hs => ?_, l1⟩
  · have : sqCheck (settledR u) = sqCheck u := rfl
    rw [this]; exact hq
  · have := List.length_filter_le (fun p => decide (u.next < p.seq) && decide (latest u.mark u.points u.next < p.time)) u.points
    show (List.filter _ u.points).length ≤ 256
    omega
  · intro p hp
    exact ho p (List.mem_filter.1 hp).1
  · refine List.pairwise_cons.2 ⟨fun p hp => ?_, ha.filter _⟩
    have := (List.mem_filter.1 hp).2
    simp only [Bool.and_eq_true, decide_eq_true_eq] at this
    exact this
  · unfold Forb
    constructor
    · rintro (h | ⟨p, hp, h⟩)
      · have h : τ ≤ latest u.mark u.points u.next := h
        rcases l3 with l3 | ⟨q, hq, h3, l3⟩
        · exact Or.inl (by omega)
        · exact Or.inr ⟨q, hq, by omega, by omega⟩
      · exact Or.inr ⟨p, (List.mem_filter.1 hp).1, h⟩
    · rintro (h | ⟨p, hp, h1, h2⟩)
      · exact Or.inl (by show τ ≤ latest u.mark u.points u.next; omega)
      · by_cases h3 : u.next < p.seq ∧ latest u.mark u.points u.next < p.time
        · exact Or.inr ⟨p, List.mem_filter.2 ⟨hp, by simpa using h3⟩, h1, h2⟩
        · left
          show τ ≤ latest u.mark u.points u.next
          by_cases h4 : u.next < p.seq
          · omega
          · have := l2 p hp (by omega); omega

/-! ### A message noted -/
def noteT (t : Trk) (m : T_api_Message) : Trk × Bool × Int :=
  if m.fKind = 1 then ((addT t ⟨m.fSeq, m.fTime⟩).1, false, (addT t ⟨m.fSeq, m.fTime⟩).2) else
  if hasB t m.fEvent.fSeq = true then (t, false, 0) else
  if latest t.mark t.points m.fEvent.fSeq < m.fEvent.fTime then
    (if 256 < (withT t m.fEvent.fSeq).beyond.length then (zeroT, false, 5) else (settledR (withT t m.fEvent.fSeq), true, 0))
  else (zeroT, false, 19)
def stepT (l : List Trk) (m : T_api_Message) : List Trk × Bool × Int :=
  if msgCheck m ≠ 0 then ([], false, msgCheck m) else if (l.length : Int) ≤ srcOf m then ([], false, 32) else
  if (noteT (l.getD (srcOf m).toNat zeroT) m).2.2 ≠ 0 then ([], false, (noteT (l.getD (srcOf m).toNat zeroT) m).2.2) else
  (l.set (srcOf m).toNat (noteT (l.getD (srcOf m).toNat zeroT) m).1, (noteT (l.getD (srcOf m).toNat zeroT) m).2.1, 0)
theorem rng_iff (a b : Int) : rng a b = true ↔ 0 ≤ a ∧ a ≤ b := by simp [rng]
/-- What CheckMessage says of events and of punctuations. -/
theorem msg_ok (m : T_api_Message) (h : msgCheck m = 0) : (m.fKind = 0 ∨ m.fKind = 1) ∧ 0 ≤ srcOf m ∧ srcOf m ≤ 7 ∧
    (m.fKind = 0 → 0 ≤ m.fEvent.fSeq ∧ m.fEvent.fSeq ≤ 1099511627776 ∧ 0 ≤ m.fEvent.fTime ∧ m.fEvent.fTime ≤ 1099511627776) ∧ (m.fKind = 1 → ptValid ⟨m.fSeq, m.fTime⟩ = true) := by
  unfold msgCheck at h
  unfold srcOf
  split at h
  · rename_i h0
    split at h
    · split at h
      · rename_i h2
        simp only [rng_iff] at h2
        rw [if_pos h0]
        exact ⟨Or.inl h0, by omega, by omega, fun _ => by omega, fun h1 => by omega⟩
      · omega
    · omega
  · rename_i h0
    split at h
    · rename_i h1
      split at h
      · split at h
        · rename_i h2
          rw [rng_iff] at h2
          rw [if_neg h0]
          exact ⟨Or.inr h1, by omega, by omega, fun h3 => absurd h3 h0, fun _ => h2.2⟩
        · omega
      · omega
    · omega
theorem event_new (t : Trk) (s : Int) (ht : TOk t) (h0 : 0 ≤ s) (hs : s ≤ 1099511627776) (hb : hasB t s = false) (hl : (withT t s).beyond.length ≤ 256) :
    settleT (withT t s) = (settledR (withT t s), 0) ∧ TOk (settledR (withT t s)) ∧ (∀ s' τ, (withT t s).next ≤ s' → (Forb (settledR (withT t s)) s' τ ↔ Forb t s' τ)) ∧ t.mark ≤ (settledR (withT t s)).mark := by
  have hq := withT_sq t s ht.sq h0 hs hb hl
  obtain ⟨_, _, _, _, _, _, hp, hm⟩ := withT_props t s ht.sq h0 hs hb
  have := settled_ok (withT t s) hq (by rw [hm]; exact ht.mark) (by rw [hp]; exact ht.len) (by rw [hp]; exact ht.ok) (by rw [hp]; exact (List.pairwise_cons.1 ht.asc).2)
  have hf : ∀ s' τ, Forb (withT t s) s' τ ↔ Forb t s' τ := fun s' τ => by unfold Forb; rw [hp, hm]
  refine ⟨this.1, this.2.1, fun s' τ h => (this.2.2.1 s' τ h).trans (hf s' τ), by rw [← hm]; exact this.2.2.2⟩
theorem noteT_ok (t : Trk) (m : T_api_Message) (ht : TOk t) (hm : msgCheck m = 0) (h : (noteT t m).2.2 = 0) : TOk (noteT t m).1 := by
  obtain ⟨k1, k2, k3, k4, k5⟩ := msg_ok m hm
  unfold noteT at h ⊢
  split
  · rename_i h1
    rw [if_pos h1] at h
    exact (added t _ h).2.2.ok
  · rename_i h1
    rw [if_neg h1] at h
    obtain ⟨e1, e2, e3, e4⟩ := k4 (by omega)
    split
    · exact ht
    · rename_i h2
      rw [if_neg h2] at h
      split
      · rename_i h3
        rw [if_pos h3] at h
        split
        · rename_i h4
          rw [if_pos h4] at h
          exact absurd h (by simp)
        · rename_i h4
          exact (event_new t _ ht e1 e2 (by simpa using h2) (by omega)).2.1
      · rename_i h3
        rw [if_neg h3] at h
        exact absurd h (by simp)
theorem p_recvE (n : Nat) (t : Trk) (m : T_api_Message) (ht : TOk t) (hm : msgCheck m = 0) (hk : m.fKind = 0) (hn : 1000 ≤ n) : ∃ r, F_watermark_receiveEvent n t m = some r ∧ r.2 = (noteT t m).2 ∧ (r.2.2 = 0 → r.1 = (noteT t m).1) := by
  obtain ⟨k1, k2, k3, k4, k5⟩ := msg_ok m hm
  obtain ⟨e1, e2, e3, e4⟩ := k4 hk
  obtain ⟨h1, h2, h3, h4⟩ := (sqCheck_zero t).1 ht.sq
  have hlp := ht.len
  unfold F_watermark_receiveEvent F_sequence_Has noteT
  rw [p_sqCheck n t (by omega) (by omega), bnd_some, ht.sq]
  simp only [cnd_not, cnd_if]
  rw [if_pos trivial, p_has n t _ (List.pairwise_cons.1 h4).2 (by omega) (by omega), bnd_some, bnd_some]
  simp only
  rw [if_pos trivial, if_neg (by omega)]
  cases hb : hasB t m.fEvent.fSeq with
  | true => rw [cnd_t, if_pos rfl]; exact ⟨_, rfl, rfl, fun _ => rfl⟩
  | false =>
    rw [cnd_f, if_neg (by simp)]
    obtain ⟨q1, q2⟩ := hasB_false t _ e1 hb
    unfold F_puAllows
    rw [if_pos (by omega), bnd_some]
    have ha : allowsT t m.fEvent.fSeq m.fEvent.fTime = (decide (latest t.mark t.points m.fEvent.fSeq < m.fEvent.fTime), 0) := by
      unfold allowsT
      rw [if_neg (by simp [(puCheck_zero t).2 ht]), if_neg (by omega), if_neg]
      rintro (h | h)
      · omega
      · rw [List.contains_iff_mem] at h; exact q2 h
    rw [ha]
    simp only
    rw [if_pos trivial, cnd_if]
    by_cases hlt : latest t.mark t.points m.fEvent.fSeq < m.fEvent.fTime
    · rw [if_pos hlt, if_pos hlt, p_recv n t _ (by omega) (by omega) hn, bnd_some]
      have hr : recvT t m.fEvent.fSeq = if 256 < (withT t m.fEvent.fSeq).beyond.length then (zeroT, false, 5) else (withT t m.fEvent.fSeq, true, 0) := by
        unfold recvT
        rw [if_neg (by simp [ht.sq]), if_neg (by omega), if_neg (by simp [hb])]
      rw [hr]
      by_cases h5 : 256 < (withT t m.fEvent.fSeq).beyond.length
      · rw [if_pos h5, if_pos h5]
        exact ⟨_, rfl, rfl, fun h => absurd h (by simp)⟩
      · rw [if_neg h5, if_neg h5]
        obtain ⟨s1, s2, s3, s4⟩ := event_new t _ ht e1 e2 hb (by omega)
        obtain ⟨_, _, _, _, _, _, hp, _⟩ := withT_props t _ ht.sq e1 e2 hb
        simp only
        rw [if_pos trivial]
        unfold F_puSettle
        rw [if_pos ⟨by omega, by rw [hp]; omega⟩, bnd_some, s1]
        exact ⟨_, rfl, rfl, fun _ => rfl⟩
    · rw [if_neg hlt, if_neg hlt]
      exact ⟨_, rfl, rfl, fun h => absurd h (by simp)⟩
theorem p_note (n : Nat) (t : Trk) (m : T_api_Message) (ht : TOk t) (hm : msgCheck m = 0) (hn : 1000 ≤ n) : ∃ r, F_tidegateref36_Note n t m = some r ∧ r.2 = (noteT t m).2 ∧ (r.2.2 = 0 → r.1 = (noteT t m).1) := by
  obtain ⟨k1, k2, k3, k4, k5⟩ := msg_ok m hm
  obtain ⟨h1, h2, h3, h4⟩ := (sqCheck_zero t).1 ht.sq
  have hlp := ht.len
  unfold F_tidegateref36_Note noteT
  rw [cnd_if]
  by_cases hk : m.fKind = 1
  · rw [if_pos hk, if_pos hk]
    unfold F_rpuAdd
    rw [if_pos (by omega), bnd_some, addR_eq]
    exact ⟨_, rfl, rfl, fun _ => rfl⟩
  · obtain ⟨e1, e2, e3, e4⟩ := k4 (by omega)
    rw [if_neg hk, if_neg hk, p_contains n t _ (by omega) (by omega), bnd_some]
    cases hb : hasB t m.fEvent.fSeq with
    | true => rw [cnd_t, if_pos rfl]; exact ⟨_, rfl, rfl, fun _ => rfl⟩
    | false =>
      rw [cnd_f, if_neg (by simp)]
      obtain ⟨q1, q2⟩ := hasB_false t _ e1 hb
      unfold F_puAllows
      rw [if_pos (by omega), bnd_some]
      have ha : allowsT t m.fEvent.fSeq m.fEvent.fTime = (decide (latest t.mark t.points m.fEvent.fSeq < m.fEvent.fTime), 0) := by
        unfold allowsT
        rw [if_neg (by simp [(puCheck_zero t).2 ht]), if_neg (by omega), if_neg]
        rintro (h | h)
        · omega
        · rw [List.contains_iff_mem] at h; exact q2 h
      rw [ha]
      simp only [cnd_not, cnd_if]
      by_cases hlt : latest t.mark t.points m.fEvent.fSeq < m.fEvent.fTime
      · rw [if_pos hlt, if_pos hlt, p_rrecv n t _ (by omega) hn, bnd_some]
        have hr : recvT t m.fEvent.fSeq = if 256 < (withT t m.fEvent.fSeq).beyond.length then (zeroT, false, 5) else (withT t m.fEvent.fSeq, true, 0) := by
          unfold recvT
          rw [if_neg (by simp [ht.sq]), if_neg (by omega), if_neg (by simp [hb])]
        rw [hr]
        by_cases h5 : 256 < (withT t m.fEvent.fSeq).beyond.length
        · rw [if_pos h5, if_pos h5]
          exact ⟨_, rfl, rfl, fun h => absurd h (by simp)⟩
        · rw [if_neg h5, if_neg h5]
          obtain ⟨_, _, _, _, _, _, hp, _⟩ := withT_props t _ ht.sq e1 e2 hb
          simp only
          rw [if_pos trivial, p_settled n _ (by rw [hp]; omega) (by rw [hp]; omega), bnd_some]
          exact ⟨_, rfl, rfl, fun _ => rfl⟩
      · rw [if_neg hlt, if_neg hlt]
        exact ⟨_, rfl, rfl, fun h => absurd h (by simp)⟩
theorem p_receive (n : Nat) (l : List Trk) (m : T_api_Message) (hl : l.length ≤ 1000) (ht : ∀ t ∈ l, TOk t) (hn : 1000 ≤ n) : F_watermark_receive n l m = some (stepT l m) := by
  unfold F_watermark_receive stepT
  rw [p_checkM, bnd_some]
  simp only [cnd_not, cnd_if, List.length_map]
  by_cases hm : msgCheck m = 0
  · have hw : ¬ msgCheck m ≠ 0 := by simpa using hm
    rw [if_pos hm, if_neg hw]
    obtain ⟨k1, k2, k3, k4, k5⟩ := msg_ok m hm
    have fin : ∀ (F : Option (Trk × Bool × Int)) (h : (srcOf m).toNat < l.length), (∃ r, F = some r ∧ r.2 = (noteT l[(srcOf m).toNat] m).2 ∧ (r.2.2 = 0 → r.1 = (noteT l[(srcOf m).toNat] m).1)) →
        (bnd F fun x4 => if x4.2.2 = 0 then bndR (F_clone n l) fun x5 => nat (srcOf m) x5.length fun x6 => stx x5 x6 (fun x7 => x4.1) fun x8 => some (x8, x4.2.1, 0) else some (([] : List Trk), false, x4.2.2)) =
        some (if (noteT (l.getD (srcOf m).toNat zeroT) m).2.2 ≠ 0 then ([], false, (noteT (l.getD (srcOf m).toNat zeroT) m).2.2) else (l.set (srcOf m).toNat (noteT (l.getD (srcOf m).toNat zeroT) m).1, (noteT (l.getD (srcOf m).toNat zeroT) m).2.1, 0)) := fun F h ⟨r, e, r1, r2⟩ => by
      have hg : l.getD (srcOf m).toNat zeroT = l[(srcOf m).toNat] := by simp [List.getElem?_eq_getElem h]
      rw [e, bnd_some, hg]
      have r3 : r.2.2 = (noteT l[(srcOf m).toNat] m).2.2 := by rw [r1]
      by_cases h0 : r.2.2 = 0
      · rw [if_pos h0, if_neg (by rw [← r3]; simpa using h0)]
        unfold F_clone
        rw [if_pos (by omega), bndR_some, nat_int k2 h, stx_ok h, r2 h0, r1]
      · rw [if_neg h0, if_pos (by rw [← r3]; exact h0), r3]
    by_cases hk : m.fKind = 0
    · have hs : srcOf m = m.fEvent.fSource := if_pos hk
      rw [if_pos hk]
      unfold F_watermark_kinds_1
      rw [bnd_some, ← hs]
      by_cases h5 : (l.length : Int) ≤ srcOf m
      · rw [if_pos h5, if_pos h5]
      · have h6 : (srcOf m).toNat < l.length := by omega
        rw [if_neg h5, if_neg h5, idx_int k2 h6]
        exact fin _ h6 (p_recvE n _ m (ht _ (List.getElem_mem h6)) hm hk hn)
    · have hk1 : m.fKind = 1 := by omega
      have hs : srcOf m = m.fSource := if_neg hk
      rw [if_neg hk, if_pos hk1]
      unfold F_watermark_kinds_2
      rw [bnd_some, ← hs]
      by_cases h5 : (l.length : Int) ≤ srcOf m
      · rw [if_pos h5, if_pos h5]
      · have h6 : (srcOf m).toNat < l.length := by omega
        rw [if_neg h5, if_neg h5, idx_int k2 h6]
        refine fin _ h6 ?_
        have hto := ht _ (List.getElem_mem h6)
        obtain ⟨q1, q2, q3, q4⟩ := (sqCheck_zero _).1 hto.sq
        have hlp := hto.len
        unfold F_watermark_receivePoint F_puAdd noteT
        rw [if_pos (by omega), bnd_some, if_pos hk1]
        exact ⟨_, rfl, rfl, fun _ => rfl⟩
  · rw [if_neg hm, if_pos hm]
end Go.Proofs.Ythhnhajldhnfmaa
namespace Go.Proofs.Ythhnhajldhnfmaa
open Go.RowKit

def recvAll (l : List Trk) (m : T_api_Message) : List Trk × Bool × Int := if wCheck l ≠ 0 then ([], false, wCheck l) else stepT l m
theorem stepT_ok (l : List Trk) (m : T_api_Message) (ht : ∀ t ∈ l, TOk t) (h : (stepT l m).2.2 = 0) :
    msgCheck m = 0 ∧ 0 ≤ srcOf m ∧ ∃ hs : (srcOf m).toNat < l.length, (noteT l[(srcOf m).toNat] m).2.2 = 0 ∧ stepT l m = (l.set (srcOf m).toNat (noteT l[(srcOf m).toNat] m).1, (noteT l[(srcOf m).toNat] m).2.1, 0) ∧ TOk (noteT l[(srcOf m).toNat] m).1 := by
  unfold stepT at h ⊢
  by_cases h1 : msgCheck m ≠ 0
  · rw [if_pos h1] at h; exact absurd h h1
  · rw [if_neg h1] at h ⊢
    by_cases h2 : (l.length : Int) ≤ srcOf m
    · rw [if_pos h2] at h; exact absurd h (by simp)
    · rw [if_neg h2] at h ⊢
      have hm : msgCheck m = 0 := by omega
      obtain ⟨k1, k2, k3, _⟩ := msg_ok m hm
      have hs : (srcOf m).toNat < l.length := by omega
      have hg : l.getD (srcOf m).toNat zeroT = l[(srcOf m).toNat] := by simp [List.getElem?_eq_getElem hs]
      rw [hg] at h ⊢
      by_cases h3 : (noteT l[(srcOf m).toNat] m).2.2 ≠ 0
      · rw [if_pos h3] at h; exact absurd h h3
      · rw [if_neg h3]
        have h4 : (noteT l[(srcOf m).toNat] m).2.2 = 0 := by omega
        exact ⟨hm, k2, hs, h4, rfl, noteT_ok _ m (ht _ (List.getElem_mem hs)) hm h4⟩
theorem stepT_err (l : List Trk) (m : T_api_Message) (h : (stepT l m).2.2 ≠ 0) : stepT l m = ([], false, (stepT l m).2.2) := by
  unfold stepT at h ⊢
  split
  · rfl
  · rename_i h1
    rw [if_neg h1] at h
    split
    · rfl
    · rename_i h2
      rw [if_neg h2] at h
      split
      · rfl
      · rename_i h3
        rw [if_neg h3] at h
        exact absurd rfl h
theorem set_mem {α : Type} {P : α → Prop} {l : List α} {i : Nat} {x : α} (h : ∀ t ∈ l, P t) (hx : P x) : ∀ t ∈ l.set i x, P t := fun t ht => by
  rcases List.mem_or_eq_of_mem_set ht with h1 | h1
  · exact h t h1
  · rw [h1]; exact hx
theorem stepT_all (l : List Trk) (m : T_api_Message) (ht : ∀ t ∈ l, TOk t) (h : (stepT l m).2.2 = 0) : (∀ t ∈ (stepT l m).1, TOk t) ∧ (stepT l m).1.length = l.length := by
  obtain ⟨_, _, hs, _, e, ho⟩ := stepT_ok l m ht h
  rw [e]
  exact ⟨set_mem ht ho, by simp⟩
theorem p_Receive_l1 (n : Nat) (x : List Trk × Bool × Int) (K : Bool → List Trk → Option (List Trk × Bool × Int)) (hl : x.1.length ≤ 1000) (ht : ∀ t ∈ x.1, TOk t) : ∀ (m k : Nat), k ≤ x.1.length → x.1.length < m + k → F_watermark_Receive_l1 n x K m ((k : Int), x.1) = K x.2.1 x.1
  | 0, k, h1, h2 => by omega
  | m + 1, k, h1, h2 => by
    rw [F_watermark_Receive_l1]
    simp only [List.length_map, cnd_if]
    by_cases h : k < x.1.length
    · have h0 := ht _ (List.getElem_mem h)
      have hb := ((sqCheck_zero _).1 h0.sq).2.1
      have hp := h0.len
      have e : ∀ (y : Trk), y = x.1[k] → x.1.set k y = x.1 := fun y hy => by rw [hy]; exact List.set_getElem_self h
      rw [if_pos (by omega), nat_nat h, ltx_ok h, elt_ok h]
      simp only [F_clone]
      rw [if_pos (by omega), bnd_some, nat_nat h, ltx_ok h, elt_ok h, if_pos (by omega), bnd_some, nat_nat h, ltx_ok h, stx_ok h, e _ rfl, nat_nat h, ltx_ok h, stx_ok h, e _ rfl, wrapS k (by omega)]
      exact p_Receive_l1 n x K hl ht m (k + 1) (by omega) (by omega)
    · rw [if_neg (by omega)]
theorem p_Receive (n : Nat) (l : List Trk) (m : T_api_Message) (hn : 1000 ≤ n) : F_watermark_Receive n l m = some (recvAll l m) := by
  unfold F_watermark_Receive recvAll
  rw [p_check n l (by omega), bnd_some]
  simp only [cnd_not, cnd_if]
  by_cases h : wCheck l = 0
  · have hw : ¬ wCheck l ≠ 0 := by simpa using h
    obtain ⟨hl, ht⟩ := (wCheck_zero l).1 h
    rw [if_pos h, if_neg hw, p_receive n l m (by omega) ht hn, bndR_some]
    by_cases h2 : (stepT l m).2.2 = 0
    · obtain ⟨ha, hb⟩ := stepT_all l m ht h2
      rw [if_pos h2]
      have := p_Receive_l1 n (stepT l m) (fun y z => some (z, y, 0)) (by omega) ha n 0 (by omega) (by omega)
      simp only [Int.natCast_zero] at this
      rw [this, ← h2]
    · rw [if_neg h2, ← stepT_err l m h2]
  · have hw : wCheck l ≠ 0 := h
    rw [if_neg h, if_pos hw]
theorem p_rReceive (n : Nat) (l : List Trk) (m : T_api_Message) (hn : 1000 ≤ n) : F_tidegateref36_Receive n l m = some (recvAll l m) := by
  unfold F_tidegateref36_Receive recvAll
  rw [p_rcheck n l (by omega), bnd_some]
  simp only [cnd_not, cnd_if, List.length_map]
  by_cases h : wCheck l = 0
  · have hw : ¬ wCheck l ≠ 0 := by simpa using h
    obtain ⟨hl, ht⟩ := (wCheck_zero l).1 h
    rw [if_pos h, if_neg hw, p_rcheckM, bnd_some]
    unfold stepT
    by_cases h1 : msgCheck m = 0
    · have h1' : ¬ msgCheck m ≠ 0 := by simpa using h1
      rw [if_pos h1, if_neg h1', p_source, bnd_some]
      obtain ⟨k1, k2, k3, _⟩ := msg_ok m h1
      by_cases h2 : (l.length : Int) ≤ srcOf m
      · rw [if_pos h2, if_pos h2]
      · have hs : (srcOf m).toNat < l.length := by omega
        have hg : l.getD (srcOf m).toNat zeroT = l[(srcOf m).toNat] := by simp [List.getElem?_eq_getElem hs]
        obtain ⟨r, e, r1, r2⟩ := p_note n l[(srcOf m).toNat] m (ht _ (List.getElem_mem hs)) h1 hn
        have r3 : r.2.2 = (noteT l[(srcOf m).toNat] m).2.2 := by rw [r1]
        rw [if_neg h2, if_neg h2, idx_int k2 hs, hg, e, bnd_some]
        by_cases h3 : r.2.2 = 0
        · have h3' : ¬ (noteT l[(srcOf m).toNat] m).2.2 ≠ 0 := by rw [← r3]; simpa using h3
          rw [if_pos h3, if_neg h3', app_ok (by simp; omega) (by omega), List.nil_append, nat_int k2 hs, stx_ok hs, r2 h3, r1]
        · have h3' : (noteT l[(srcOf m).toNat] m).2.2 ≠ 0 := by rw [← r3]; exact h3
          rw [if_neg h3, if_pos h3', r3]
    · have h1' : msgCheck m ≠ 0 := h1
      rw [if_neg h1, if_pos h1']
  · have hw : wCheck l ≠ 0 := h
    rw [if_neg h, if_pos hw]

/-! ### Begin -/
def t0 : Trk := ⟨0, [], [], -1⟩
def beginT (k : Int) : List Trk × Int := if k < 0 ∨ 8 < k then ([], 2) else (List.replicate k.toNat t0, 0)
theorem p_begin_l1 (n : Nat) (x : List Trk) (K : List Trk → Option (List Trk × Int)) (hl : x.length ≤ 1000) : ∀ (m k : Nat), k ≤ x.length → x.length < m + k → F_watermark_Begin_l1 n x K m ((k : Int), List.replicate k t0 ++ x.drop k) = K (List.replicate x.length t0)
  | 0, k, h1, h2 => by omega
  | m + 1, k, h1, h2 => by
    rw [F_watermark_Begin_l1]
    simp only [List.length_map, cnd_if]
    by_cases h : k < x.length
    · have hk : k < (List.replicate k t0 ++ x.drop k).length := by simp; omega
      rw [if_pos (by omega), show F_sequence_Begin n = some t0 from rfl, bnd_some, nat_nat hk, stx_ok hk, wrapS k (by omega)]
      have e : (List.replicate k t0 ++ x.drop k).set k t0 = List.replicate (k + 1) t0 ++ x.drop (k + 1) := by
        rw [drop_cons x k h, List.set_append_right _ _ (by simp), List.length_replicate, Nat.sub_self, List.set_cons_zero, List.replicate_succ', List.append_assoc]
        rfl
      rw [e]
      exact p_begin_l1 n x K hl m (k + 1) (by omega) (by omega)
    · have : k = x.length := by omega
      rw [if_neg (by omega), this, List.drop_eq_nil_of_le (Nat.le_refl _), List.append_nil]
theorem p_begin (n : Nat) (k : Int) (hn : 100 ≤ n) : F_watermark_Begin n k = some (beginT k) := by
  unfold F_watermark_Begin beginT
  simp only [cnd_if]
  by_cases h1 : k < 0
  · rw [if_pos h1, if_pos (Or.inl h1)]
  · by_cases h2 : 8 < k
    · rw [if_neg h1, if_pos h2, if_pos (Or.inr h2)]
    · have h3 : ¬ (k < 0 ∨ 8 < k) := by omega
      obtain ⟨j, rfl⟩ : ∃ j : Nat, k = j := ⟨k.toNat, by omega⟩
      rw [if_neg h1, if_neg h2, if_neg h3, mak_ok (by omega) (by omega)]
      have := p_begin_l1 n (List.replicate j (⟨0, [], [], 0⟩ : Trk)) (fun y => some (y, 0)) (by simp; omega) n 0 (by omega) (by simp; omega)
      simp only [Int.natCast_zero, List.replicate_zero, List.nil_append, List.drop_zero, List.length_replicate] at this
      rw [this, Int.toNat_natCast]
theorem p_rbegin_l1 (n : Nat) (j : Nat) (K : List Trk → Option (List Trk × Int)) (hl : j ≤ 1000) : ∀ (m k : Nat), k ≤ j → j < m + k → F_tidegateref36_Begin_l1 n (j : Int) K m ((k : Int), List.replicate k t0) = K (List.replicate j t0)
  | 0, k, h1, h2 => by omega
  | m + 1, k, h1, h2 => by
    rw [F_tidegateref36_Begin_l1]
    simp only [List.length_map, cnd_if]
    by_cases h : k < j
    · rw [if_pos (by omega), show F_tidegateref34_Begin n = some t0 from rfl, bnd_some, app_ok (by simp; omega) (by omega), wrapS k (by omega), ← List.replicate_succ']
      exact p_rbegin_l1 n j K hl m (k + 1) (by omega) (by omega)
    · have : k = j := by omega
      rw [if_neg (by omega), this]
theorem p_rbegin (n : Nat) (k : Int) (hn : 100 ≤ n) : F_tidegateref36_Begin n k = some (beginT k) := by
  unfold F_tidegateref36_Begin beginT
  simp only [cnd_if]
  by_cases h1 : k < 0
  · rw [if_pos h1, if_pos (Or.inl h1)]
  · by_cases h2 : 8 < k
    · rw [if_neg h1, if_pos h2, if_pos (Or.inr h2)]
    · have h3 : ¬ (k < 0 ∨ 8 < k) := by omega
      obtain ⟨j, rfl⟩ : ∃ j : Nat, k = j := ⟨k.toNat, by omega⟩
      rw [if_neg h1, if_neg h2, if_neg h3]
      have := p_rbegin_l1 n j (fun y => some (y, 0)) (by omega) n 0 (by omega) (by omega)
      simp only [Int.natCast_zero, List.replicate_zero] at this
      rw [this, Int.toNat_natCast]
theorem begin_all (k : Int) (h : (beginT k).2 = 0) : (∀ t ∈ (beginT k).1, TOk t) ∧ (beginT k).1.length ≤ 8 := by
  unfold beginT at h ⊢
  split
  · exact ⟨fun t ht => absurd ht (by simp), by simp⟩
  · exact ⟨fun t ht => by rw [List.eq_of_mem_replicate ht]; exact begin_ok, by simp; omega⟩

/-! ### Run -/
def runS : List Trk → List T_api_Message → List Trk × List Bool
  | l, [] => (l, [])
  | l, m :: r => if (stepT l m).2.2 = 0 then ((runS (stepT l m).1 r).1, (stepT l m).2.1 :: (runS (stepT l m).1 r).2) else ((runS l r).1, false :: (runS l r).2)
def runT (k : Int) (ms : List T_api_Message) : List Trk × List Bool × Int :=
  if (beginT k).2 ≠ 0 then ([], [], (beginT k).2) else if 4096 < ms.length then ([], [], 5) else ((runS (beginT k).1 ms).1, (runS (beginT k).1 ms).2, 0)
theorem runS_len (l : List Trk) (ms : List T_api_Message) : (runS l ms).2.length = ms.length := by
  induction ms generalizing l with
  | nil => rfl
  | cons m r ih => unfold runS; split <;> simp [ih]
theorem runS_all (l : List Trk) (ms : List T_api_Message) (ht : ∀ t ∈ l, TOk t) : (∀ t ∈ (runS l ms).1, TOk t) ∧ (runS l ms).1.length = l.length := by
  induction ms generalizing l with
  | nil => exact ⟨ht, rfl⟩
  | cons m r ih =>
    unfold runS
    split
    · rename_i h
      obtain ⟨h1, h2⟩ := stepT_all l m ht h
      obtain ⟨i1, i2⟩ := ih _ h1
      exact ⟨i1, by rw [← h2]; exact i2⟩
    · exact ih l ht
theorem runS_ok {l : List Trk} {m : T_api_Message} {r : List T_api_Message} (h : (stepT l m).2.2 = 0) : runS l (m :: r) = ((runS (stepT l m).1 r).1, (stepT l m).2.1 :: (runS (stepT l m).1 r).2) := by
  rw [runS, if_pos h]
theorem runS_err {l : List Trk} {m : T_api_Message} {r : List T_api_Message} (h : ¬ (stepT l m).2.2 = 0) : runS l (m :: r) = ((runS l r).1, false :: (runS l r).2) := by
  rw [runS, if_neg h]
theorem p_run_l1 (n : Nat) (ms : List T_api_Message) (K : List Trk → List Bool → Option (List Trk × List Bool × Int)) (hms : ms.length ≤ 5000) (hn : 1000 ≤ n) : ∀ (m k : Nat) (l : List Trk) (d : List Bool), k ≤ ms.length → ms.length < m + k → d.length = k → l.length ≤ 8 → (∀ t ∈ l, TOk t) →
    F_watermark_Run_l1 n ms K m (l, (k : Int), d ++ List.replicate (ms.length - k) false) = K (runS l (ms.drop k)).1 (d ++ (runS l (ms.drop k)).2)
  | 0, k, l, d, h1, h2, h3, h4, h5 => by omega
  | m + 1, k, l, d, h1, h2, h3, h4, h5 => by
    rw [F_watermark_Run_l1]
    simp only [List.length_map, cnd_if]
    by_cases h : k < ms.length
    · rw [if_pos (by omega), idx_nat h, p_receive n l _ (by omega) h5 hn, bnd_some, wrapS k (by omega), drop_cons ms k h]
      have hr : List.replicate (ms.length - k) false = false :: List.replicate (ms.length - (k + 1)) false := by
        rw [← List.replicate_succ]; congr 1; omega
      by_cases h6 : (stepT l ms[k]).2.2 = 0
      · have hk : k < (d ++ List.replicate (ms.length - k) false).length := by simp; omega
        obtain ⟨a1, a2⟩ := stepT_all l _ h5 h6
        rw [if_pos h6, nat_nat hk, stx_ok hk, runS_ok h6]
        have e : (d ++ List.replicate (ms.length - k) false).set k (stepT l ms[k]).2.1 = (d ++ [(stepT l ms[k]).2.1]) ++ List.replicate (ms.length - (k + 1)) false := by
          rw [hr, List.set_append_right _ _ (by omega), h3]; simp
        rw [e, p_run_l1 n ms K hms hn m (k + 1) _ _ (by omega) (by omega) (by simp [h3]) (by omega) a1]
        simp
      · rw [if_neg h6, runS_err h6]
        have e : d ++ List.replicate (ms.length - k) false = (d ++ [false]) ++ List.replicate (ms.length - (k + 1)) false := by
          rw [hr]; simp
        rw [e, p_run_l1 n ms K hms hn m (k + 1) _ _ (by omega) (by omega) (by simp [h3]) h4 h5]
        simp
    · have : k = ms.length := by omega
      rw [if_neg (by omega), this, List.drop_eq_nil_of_le (Nat.le_refl _)]
      simp [runS]
theorem p_run (n : Nat) (k : Int) (ms : List T_api_Message) (hn : 5000 ≤ n) : F_watermark_Run n k ms = some (runT k ms) := by
  unfold F_watermark_Run runT
  rw [p_begin n k (by omega), bnd_some]
  simp only [cnd_not, cnd_if, List.length_map]
  by_cases h : (beginT k).2 = 0
  · have h' : ¬ (beginT k).2 ≠ 0 := by simpa using h
    rw [if_pos h, if_neg h']
    by_cases h2 : 4096 < ms.length
    · rw [if_pos (by omega), if_pos h2]
    · obtain ⟨a1, a2⟩ := begin_all k h
      rw [if_neg (by omega), if_neg h2, mak_ok (by omega) (by omega)]
      have := p_run_l1 n ms (fun y z => some (y, z, 0)) (by omega) (by omega) n 0 (beginT k).1 [] (by omega) (by omega) rfl a2 a1
      simp only [Int.natCast_zero, List.nil_append, Nat.sub_zero, List.drop_zero] at this
      rw [this]
  · have h' : (beginT k).2 ≠ 0 := h
    rw [if_neg h, if_pos h']
theorem p_rrun_l1 (n : Nat) (ms : List T_api_Message) (K : List Trk → List Bool → Option (List Trk × List Bool × Int)) (hms : ms.length ≤ 5000) (hn : 1000 ≤ n) : ∀ (m k : Nat) (l : List Trk) (d : List Bool), k ≤ ms.length → ms.length < m + k → d.length = k → l.length ≤ 8 → (∀ t ∈ l, TOk t) →
    F_tidegateref36_Run_l1 n ms K m (l, (k : Int), d) = K (runS l (ms.drop k)).1 (d ++ (runS l (ms.drop k)).2)
  | 0, k, l, d, h1, h2, h3, h4, h5 => by omega
  | m + 1, k, l, d, h1, h2, h3, h4, h5 => by
    rw [F_tidegateref36_Run_l1]
    simp only [List.length_map, cnd_if]
    by_cases h : k < ms.length
    · have hw : recvAll l ms[k] = stepT l ms[k] := if_neg (by simpa using (wCheck_zero l).2 ⟨h4, h5⟩)
      rw [if_pos (by omega), idx_nat h, p_rReceive n l _ hn, bnd_some, wrapS k (by omega), drop_cons ms k h, hw]
      by_cases h6 : (stepT l ms[k]).2.2 = 0
      · obtain ⟨a1, a2⟩ := stepT_all l _ h5 h6
        rw [if_pos h6, runS_ok h6, app_ok (by simp; omega) (by omega), p_rrun_l1 n ms K hms hn m (k + 1) _ _ (by omega) (by omega) (by simp [h3]) (by omega) a1]
        simp
      · rw [if_neg h6, runS_err h6, app_ok (by simp; omega) (by omega), p_rrun_l1 n ms K hms hn m (k + 1) _ _ (by omega) (by omega) (by simp [h3]) h4 h5]
        rw [stepT_err l _ h6]
        simp
    · have : k = ms.length := by omega
      rw [if_neg (by omega), this, List.drop_eq_nil_of_le (Nat.le_refl _)]
      simp [runS]
theorem p_rrun (n : Nat) (k : Int) (ms : List T_api_Message) (hn : 5000 ≤ n) : F_tidegateref36_Run n k ms = some (runT k ms) := by
  unfold F_tidegateref36_Run runT
  rw [p_rbegin n k (by omega), bnd_some]
  simp only [cnd_not, cnd_if, List.length_map]
  by_cases h : (beginT k).2 = 0
  · have h' : ¬ (beginT k).2 ≠ 0 := by simpa using h
    rw [if_pos h, if_neg h']
    by_cases h2 : 4096 < ms.length
    · rw [if_pos (by omega), if_pos h2]
    · obtain ⟨a1, a2⟩ := begin_all k h
      rw [if_neg (by omega), if_neg h2]
      have := p_rrun_l1 n ms (fun y z => some (y, z, 0)) (by omega) (by omega) n 0 (beginT k).1 [] (by omega) (by omega) rfl a2 a1
      simp only [Int.natCast_zero, List.nil_append, List.drop_zero] at this
      rw [this]
  · have h' : (beginT k).2 ≠ 0 := h
    rw [if_neg h, if_pos h']
end Go.Proofs.Ythhnhajldhnfmaa
namespace Go.Proofs.Ythhnhajldhnfmaa
open Go.RowKit

theorem awake36 : F_tidegatelaw36_awake 100000 = some true := by decide +kernel
theorem few36_len (l : List Trk) (h : few36 l = true) : l.length ≤ 12 ∧ ∀ t ∈ l, t.beyond.length ≤ 300 ∧ t.points.length ≤ 300 := by
  unfold few36 at h
  simp only [Bool.and_eq_true, decide_eq_true_eq, List.all_eq_true] at h
  refine ⟨h.2, fun t ht => ?_⟩
  have := h.1 t (by rw [List.take_of_length_le h.2]; exact ht)
  simpa [fewT] using this
theorem law_looks (l : List Trk) : F_tidegatelaw36_WatermarkLooks 100000 l = some true := by
  unfold F_tidegatelaw36_WatermarkLooks
  rw [p_few _ _ (by omega), bnd_some, awake36]
  simp only [cnd_not, bnd_some]
  cases hf : few36 l with
  | false => rw [cnd_f]
  | true =>
    obtain ⟨hl, ht⟩ := few36_len l hf
    rw [cnd_t, p_global _ _ (by omega), p_rglobal _ _ (by omega), p_missing _ _ (by omega), p_rmissing _ _ (by omega)]
    simp only [bnd_some, cnd_t, cnd_if]
    rw [if_pos trivial, if_pos trivial, if_pos trivial]
    have hm : (wMissing l).2.1.length ≤ 100000 - 1 := by
      unfold wMissing
      by_cases h : wCheck l ≠ 0
      · rw [if_pos h]; simp
      · rw [if_neg h]
        by_cases h0 : l.length = 0
        · rw [if_pos h0]; simp
        · rw [if_neg h0]
          obtain ⟨_, hk⟩ := leastIx_pos l (by omega)
          have hg : l.getD (leastIx l).toNat zeroT = l[(leastIx l).toNat] := by simp [List.getElem?_eq_getElem hk]
          rw [hg]
          split
          · simp
          · rename_i p r _
            have := lack_len p.seq l[(leastIx l).toNat].next l[(leastIx l).toNat].beyond
            have := (ht _ (List.getElem_mem hk)).1
            simp only
            omega
    rw [p_sameG _ _ _ (by omega) (by omega), bnd_some]
    simp [cnd_t]
theorem recvAll_fit (l : List Trk) (m : T_api_Message) : (recvAll l m).1.length ≤ 8 ∧ ∀ t ∈ (recvAll l m).1, TOk t := by
  unfold recvAll
  by_cases h : wCheck l ≠ 0
  · rw [if_pos h]; simp
  · rw [if_neg h]
    obtain ⟨hl, ht⟩ := (wCheck_zero l).1 (by omega)
    by_cases h2 : (stepT l m).2.2 = 0
    · obtain ⟨a, b⟩ := stepT_all l m ht h2
      exact ⟨by omega, a⟩
    · rw [stepT_err l m h2]; simp
theorem TOk.fits {t : Trk} (h : TOk t) : t.beyond.length ≤ 1000000000 ∧ t.points.length ≤ 1000000000 := by
  have h1 := ((sqCheck_zero _).1 h.sq).2.1
  have h2 := h.len
  omega
theorem p_same_ok (a : List Trk) (ha : a.length ≤ 8) (ht : ∀ t ∈ a, TOk t) : F_tidegateref36_Same 100000 a a = some true := by
  rw [p_same _ a a (by omega) (by omega) (fun t h => (ht t h).fits)]
  simp
theorem law_receives (l : List Trk) (m : T_api_Message) : F_tidegatelaw36_WatermarkReceives 100000 l m = some true := by
  unfold F_tidegatelaw36_WatermarkReceives
  rw [p_few _ _ (by omega), bnd_some, awake36]
  simp only [cnd_not, bnd_some, cnd_t]
  obtain ⟨a, b⟩ := recvAll_fit l m
  rw [p_Receive _ _ _ (by omega), p_rReceive _ _ _ (by omega), p_check _ _ (by omega), p_rcheck _ _ (by omega), p_checkM, p_rcheckM]
  simp only [bnd_some, p_same_ok _ a b, cnd_t, cnd_if, beq_self_eq_true, if_true, decide_true, ite_self]
  unfold cnd
  split <;> rfl
theorem runT_fit (k : Int) (ms : List T_api_Message) : (runT k ms).1.length ≤ 8 ∧ (∀ t ∈ (runT k ms).1, TOk t) ∧ (runT k ms).2.1.length ≤ 4096 := by
  unfold runT
  by_cases h : (beginT k).2 ≠ 0
  · rw [if_pos h]; simp
  · rw [if_neg h]
    by_cases h2 : 4096 < ms.length
    · rw [if_pos h2]; simp
    · rw [if_neg h2]
      obtain ⟨a1, a2⟩ := begin_all k (by omega)
      obtain ⟨b1, b2⟩ := runS_all _ ms a1
      exact ⟨by simp only; omega, b1, by simp only [runS_len]; omega⟩
theorem begin_fit (k : Int) : (beginT k).1.length ≤ 8 ∧ ∀ t ∈ (beginT k).1, TOk t := by
  unfold beginT
  split
  · simp
  · exact ⟨by simp; omega, fun t ht => by rw [List.eq_of_mem_replicate ht]; exact begin_ok⟩
theorem law_runs (k : Int) (ms : List T_api_Message) : F_tidegatelaw36_WatermarkRuns 100000 k ms = some true := by
  unfold F_tidegatelaw36_WatermarkRuns
  obtain ⟨a1, a2⟩ := begin_fit k
  obtain ⟨b1, b2, b3⟩ := runT_fit k ms
  have e : F_tidegateref36_SameBools 100000 (runT k ms).2.1 (runT k ms).2.1 = some true := by
    rw [p_sameB _ _ _ (by omega) (by omega)]; simp
  rw [awake36, p_begin _ _ (by omega), p_rbegin _ _ (by omega), p_run _ _ _ (by omega), p_rrun _ _ _ (by omega)]
  simp only [bnd_some, p_same_ok _ a1 a2, p_same_ok _ b1 b2, e, cnd_t, cnd_if, if_true, decide_true, ite_self]
theorem runT_ok (k : Nat) (ms : List T_api_Message) (hk : k ≤ 8) (hms : ms.length ≤ 4096) : runT (k : Int) ms = ((runS (List.replicate k t0) ms).1, (runS (List.replicate k t0) ms).2, 0) := by
  have hb : beginT (k : Int) = (List.replicate k t0, 0) := by
    unfold beginT
    rw [if_neg (by omega), Int.toNat_natCast]
  unfold runT
  rw [hb, if_neg (by simp), if_neg (by omega)]
theorem run_state (k : Nat) (ms : List T_api_Message) : (∀ t ∈ (runS (List.replicate k t0) ms).1, TOk t) ∧ (runS (List.replicate k t0) ms).1.length = k := by
  obtain ⟨a, b⟩ := runS_all (List.replicate k t0) ms (fun t ht => by rw [List.eq_of_mem_replicate ht]; exact begin_ok)
  exact ⟨a, by rw [b]; simp⟩
theorem recvAll_ok (l : List Trk) (m : T_api_Message) (hl : l.length ≤ 8) (ht : ∀ t ∈ l, TOk t) : recvAll l m = stepT l m := if_neg (by simpa using (wCheck_zero l).2 ⟨hl, ht⟩)
theorem note_flag (t : Trk) (m : T_api_Message) (h : (noteT t m).2.1 = true) : m.fKind ≠ 1 := fun h1 => by
  unfold noteT at h
  rw [if_pos h1] at h
  exact absurd h (by simp)

/-! ### Separates -/
theorem sep_l1 (n : Nat) (m : T_api_Message) (x3 : List Trk × List Bool × Int) (x4 : List Trk × Bool × Int) (K : Bool → Option Bool) (h3 : x3.1.length = 3) (h4 : x4.1.length = 3) (ht : ∀ t ∈ x3.1, TOk t)
    (h : ∀ (i : Nat) (hi : i < 3), (i : Int) ≠ m.fEvent.fSource → x4.1[i] = x3.1[i]) (hK : K x4.2.1 = some true) : ∀ (f k : Nat), k ≤ 3 → 3 < f + k → F_tidegatelaw36_WatermarkSeparates_l1 n m x3 x4 K f (k : Int) = some true
  | 0, k, h1, h2 => by omega
  | f + 1, k, h1, h2 => by
    rw [F_tidegatelaw36_WatermarkSeparates_l1]
    simp only [cnd_if, cnd_not]
    have ih := sep_l1 n m x3 x4 K h3 h4 ht h hK f (k + 1)
    by_cases hk : k < 3
    · have hk' : (k : Int) < 3 := by omega
      rw [if_pos hk', wrapS k (by omega)]
      by_cases hs : (k : Int) = m.fEvent.fSource
      · rw [if_pos hs]; exact ih (by omega) (by omega)
      · have hb := (ht _ (List.getElem_mem (by omega : k < x3.1.length))).fits
        rw [if_neg hs, idx_nat (by omega), idx_nat (by omega), h k hk hs]
        unfold F_trkSame
        rw [if_pos hb, bnd_some, cnd_if, if_pos rfl]
        exact ih (by omega) (by omega)
    · rw [if_neg (by omega)]; exact hK
theorem sep_l2 (n : Nat) (m : T_api_Message) (x3 : List Trk × List Bool × Int) (x4 : List Trk × Bool × Int) (K : Bool → Option Bool) (h3 : x3.1.length = 3) (h4 : x4.1.length = 3) (ht : ∀ t ∈ x3.1, TOk t)
    (h : ∀ (i : Nat) (hi : i < 3), (i : Int) ≠ m.fSource → x4.1[i] = x3.1[i]) (hK : K x4.2.1 = some true) : ∀ (f k : Nat), k ≤ 3 → 3 < f + k → F_tidegatelaw36_WatermarkSeparates_l2 n m x3 x4 K f (k : Int) = some true
  | 0, k, h1, h2 => by omega
  | f + 1, k, h1, h2 => by
    rw [F_tidegatelaw36_WatermarkSeparates_l2]
    simp only [cnd_if, cnd_not]
    have ih := sep_l2 n m x3 x4 K h3 h4 ht h hK f (k + 1)
    by_cases hk : k < 3
    · have hk' : (k : Int) < 3 := by omega
      rw [if_pos hk', wrapS k (by omega)]
      by_cases hs : (k : Int) = m.fSource
      · rw [if_pos hs]; exact ih (by omega) (by omega)
      · have hb := (ht _ (List.getElem_mem (by omega : k < x3.1.length))).fits
        rw [if_neg hs, idx_nat (by omega), idx_nat (by omega), h k hk hs]
        unfold F_trkSame
        rw [if_pos hb, bnd_some, cnd_if, if_pos rfl]
        exact ih (by omega) (by omega)
    · rw [if_neg (by omega)]; exact hK
theorem law_separates (ms : List T_api_Message) (m : T_api_Message) : F_tidegatelaw36_WatermarkSeparates 100000 ms m = some true := by
  unfold F_tidegatelaw36_WatermarkSeparates
  rw [awake36]
  simp only [bnd_some, List.length_map, cnd_if, cnd_t, cnd_not]
  by_cases h14 : (14 : Int) < (ms.length : Int)
  · rw [if_pos h14]
  rw [if_neg h14]
  by_cases h20 : (20 : Int) < (m.fEvent.fValues.length : Int)
  · rw [if_pos h20]
  obtain ⟨ht, hl⟩ := run_state 3 ms
  rw [if_neg h20, p_run _ _ _ (by omega), bnd_some, p_Receive _ _ _ (by omega), bnd_some, show (3 : Int) = ((3 : Nat) : Int) from rfl, runT_ok 3 ms (by omega) (by omega)]
  simp only [hl, if_true]
  rw [recvAll_ok _ m (by omega) ht]
  by_cases he : (stepT (runS (List.replicate 3 t0) ms).1 m).2.2 = 0
  · obtain ⟨hm, k2, hs, h4, e, ho⟩ := stepT_ok _ m ht he
    obtain ⟨k1, _⟩ := msg_ok m hm
    rw [if_pos he, e]
    simp only [List.length_set, hl, if_true]
    by_cases hk : m.fKind = 0
    · rw [if_pos hk]
      have hsrc : srcOf m = m.fEvent.fSource := if_pos hk
      refine sep_l1 100000 m _ _ _ hl (by rw [List.length_set]; exact hl) ht (fun i hi hne => ?_) ?_ 100000 0 (by omega) (by omega)
      · simp only
        rw [List.getElem_set_ne (by omega)]
      · unfold cnd
        split <;> simp [hk]
    · rw [if_neg hk]
      have hsrc : srcOf m = m.fSource := if_neg hk
      refine sep_l2 100000 m _ _ _ hl (by rw [List.length_set]; exact hl) ht (fun i hi hne => ?_) ?_ 100000 0 (by omega) (by omega)
      · simp only
        rw [List.getElem_set_ne (by omega)]
      · have : (noteT (runS (List.replicate 3 t0) ms).1[(srcOf m).toNat] m).2.1 = false := by
          cases hb : (noteT (runS (List.replicate 3 t0) ms).1[(srcOf m).toNat] m).2.1
          · rfl
          · exact absurd (by omega) (note_flag _ _ hb)
        simp only [this, cnd_f]
  · rw [if_neg he, stepT_err _ m he]
    simp
end Go.Proofs.Ythhnhajldhnfmaa
namespace Go.Proofs.Ythhnhajldhnfmaa
open Go.RowKit

/-- What came to a tracker: the numbers S, the promises Q. -/
structure Fwd (t u : Trk) (S : Int → Prop) (Q : Pt → Prop) : Prop where
  num : ∀ x, Num u x ↔ Num t x ∨ S x
  next : t.next ≤ u.next
  mark : t.mark ≤ u.mark
  forb : ∀ s τ, u.next ≤ s → (Forb u s τ ↔ Forb t s τ ∨ ∃ p, Q p ∧ p.seq ≤ s ∧ τ ≤ p.time)
def evOf (m : T_api_Message) (x : Int) : Prop := m.fKind = 0 ∧ x = m.fEvent.fSeq
def ptOf (m : T_api_Message) (p : Pt) : Prop := m.fKind = 1 ∧ p = ⟨m.fSeq, m.fTime⟩
theorem note_fwd (t : Trk) (m : T_api_Message) (ht : TOk t) (hm : msgCheck m = 0) (h : (noteT t m).2.2 = 0) :
    Fwd t (noteT t m).1 (evOf m) (ptOf m) ∧ (noteT t m).1.beyond.length ≤ t.beyond.length + 1 ∧ (noteT t m).1.points.length ≤ t.points.length + 1 := by
  obtain ⟨k1, k2, k3, k4, k5⟩ := msg_ok m hm
  unfold noteT at h ⊢
  by_cases h1 : m.fKind = 1
  · rw [if_pos h1] at h ⊢
    obtain ⟨_, _, ad⟩ := added t _ h
    refine ⟨⟨fun x => ?_, by rw [ad.next]; exact Int.le_refl _, ad.mark, fun s τ hs => ?_⟩, by rw [ad.beyond]; omega, ad.len⟩
    · unfold Num evOf
      rw [ad.next, ad.beyond]
      exact ⟨Or.inl, fun h => h.elim id fun h => by omega⟩
    · rw [ad.forb s τ (by rw [ad.next] at hs; exact hs)]
      unfold ptOf
      constructor
      · rintro (h | h)
        · exact Or.inl h
        · exact Or.inr ⟨_, ⟨h1, rfl⟩, h⟩
      · rintro (h | ⟨p, ⟨_, rfl⟩, h⟩)
        · exact Or.inl h
        · exact Or.inr h
  · rw [if_neg h1] at h ⊢
    have hk : m.fKind = 0 := by omega
    obtain ⟨e1, e2, e3, e4⟩ := k4 hk
    have none : ∀ s τ, ¬ ∃ p, ptOf m p ∧ p.seq ≤ s ∧ τ ≤ p.time := fun s τ ⟨p, hp, _⟩ => h1 hp.1
    by_cases hb : hasB t m.fEvent.fSeq = true
    · rw [if_pos hb] at h ⊢
      refine ⟨⟨fun x => ?_, Int.le_refl _, Int.le_refl _, fun s τ _ => ?_⟩, by simp only; omega, by simp only; omega⟩
      · constructor
        · exact Or.inl
        · rintro (h | ⟨_, rfl⟩)
          · exact h
          · exact (hasB_iff t _ e1).1 hb
      · exact ⟨Or.inl, fun h => h.elim id fun h => absurd h (none s τ)⟩
    · rw [if_neg hb] at h ⊢
      by_cases h3 : latest t.mark t.points m.fEvent.fSeq < m.fEvent.fTime
      · rw [if_pos h3] at h ⊢
        by_cases h4 : 256 < (withT t m.fEvent.fSeq).beyond.length
        · rw [if_pos h4] at h; exact absurd h (by simp)
        · rw [if_neg h4]
          obtain ⟨s1, s2, s3, s4⟩ := event_new t _ ht e1 e2 (by simpa using hb) (by omega)
          obtain ⟨w1, w2, w3, w4, w5, w6, w7, w8⟩ := withT_props t _ ht.sq e1 e2 (by simpa using hb)
          refine ⟨⟨fun x => ?_, w5, s4, fun s τ hs => ?_⟩, w4, ?_⟩
          · have : Num (settledR (withT t m.fEvent.fSeq)) x ↔ Num (withT t m.fEvent.fSeq) x := Iff.rfl
            rw [this, w6 x]
            unfold evOf
            constructor
            · rintro (h | h)
              · exact Or.inr ⟨hk, h⟩
              · exact Or.inl h
            · rintro (h | h)
              · exact Or.inr h
              · exact Or.inl h.2
          · rw [s3 s τ hs]
            exact ⟨Or.inl, fun h => h.elim id fun h => absurd h (none s τ)⟩
          · have := List.length_filter_le (fun p => decide ((withT t m.fEvent.fSeq).next < p.seq) && decide (latest (withT t m.fEvent.fSeq).mark (withT t m.fEvent.fSeq).points (withT t m.fEvent.fSeq).next < p.time)) (withT t m.fEvent.fSeq).points
            show (List.filter _ (withT t m.fEvent.fSeq).points).length ≤ _
            rw [w7] at this ⊢
            omega
      · rw [if_neg h3] at h; exact absurd h (by simp)
/-- Which message is counted as new. -/
theorem note_new (t : Trk) (m : T_api_Message) (hm : msgCheck m = 0) (h : (noteT t m).2.2 = 0) : (noteT t m).2.1 = true ↔ m.fKind = 0 ∧ ¬ Num t m.fEvent.fSeq := by
  obtain ⟨k1, k2, k3, k4, k5⟩ := msg_ok m hm
  unfold noteT at h ⊢
  by_cases h1 : m.fKind = 1
  · rw [if_pos h1]; simp [h1]
  · have hk : m.fKind = 0 := by omega
    obtain ⟨e1, e2, e3, e4⟩ := k4 hk
    rw [if_neg h1] at h ⊢
    rw [← hasB_iff t _ e1]
    by_cases hb : hasB t m.fEvent.fSeq = true
    · rw [if_pos hb]; simp [hb]
    · rw [if_neg hb] at h ⊢
      by_cases h3 : latest t.mark t.points m.fEvent.fSeq < m.fEvent.fTime
      · rw [if_pos h3] at h ⊢
        by_cases h4 : 256 < (withT t m.fEvent.fSeq).beyond.length
        · rw [if_pos h4] at h; exact absurd h (by simp)
        · rw [if_neg h4]; simp [hb, hk]
      · rw [if_neg h3] at h; exact absurd h (by simp)
theorem note_late (t : Trk) (m : T_api_Message) (hm : msgCheck m = 0) (h : (noteT t m).2.1 = true) : t.mark < m.fEvent.fTime := by
  unfold noteT at h
  by_cases h1 : m.fKind = 1
  · rw [if_pos h1] at h; exact absurd h (by simp)
  · rw [if_neg h1] at h
    by_cases hb : hasB t m.fEvent.fSeq = true
    · rw [if_pos hb] at h; exact absurd h (by simp)
    · rw [if_neg hb] at h
      by_cases h3 : latest t.mark t.points m.fEvent.fSeq < m.fEvent.fTime
      · have := (latest_ge t.mark t.points m.fEvent.fSeq).1
        omega
      · rw [if_neg h3] at h; exact absurd h (by simp)

/-! ### Completes -/
/-- Marks only grow. -/
theorem marks_up (l : List Trk) (ms : List T_api_Message) (ht : ∀ t ∈ l, TOk t) : (runS l ms).1.length = l.length ∧ ∀ i (hi : i < l.length) (hj : i < (runS l ms).1.length), l[i].mark ≤ (runS l ms).1[i].mark := by
  induction ms generalizing l with
  | nil => exact ⟨rfl, fun i _ _ => Int.le_refl _⟩
  | cons m r ih =>
    by_cases h : (stepT l m).2.2 = 0
    · rw [runS_ok h]
      obtain ⟨hm, k2, hs, h4, e, ho⟩ := stepT_ok l m ht h
      obtain ⟨a1, a2⟩ := stepT_all l m ht h
      obtain ⟨i1, i2⟩ := ih _ a1
      refine ⟨i1.trans a2, fun i hi hj => ?_⟩
      have h1 := i2 i (by omega) hj
      refine Int.le_trans ?_ h1
      simp only [e]
      by_cases hi2 : (srcOf m).toNat = i
      · subst hi2
        rw [List.getElem_set_self]
        exact (note_fwd _ m (ht _ (List.getElem_mem hs)) hm h4).1.mark
      · rw [List.getElem_set_ne hi2]; exact Int.le_refl _
    · rw [runS_err h]
      exact ih l ht
theorem runS_append (l : List Trk) (a b : List T_api_Message) : runS l (a ++ b) = ((runS (runS l a).1 b).1, (runS l a).2 ++ (runS (runS l a).1 b).2) := by
  induction a generalizing l with
  | nil => rfl
  | cons m r ih =>
    by_cases h : (stepT l m).2.2 = 0
    · rw [List.cons_append, runS_ok h, runS_ok h, ih]; rfl
    · rw [List.cons_append, runS_err h, runS_err h, ih]; rfl
theorem leastOf_le (l : List Trk) (i : Nat) (h : i < l.length) : leastOf l ≤ l[i].mark := (foldl_min l _).1 _ (List.getElem_mem h)
theorem leastOf_mono (l m : List Trk) (hl : m.length = l.length) (h : ∀ i (hi : i < l.length) (hj : i < m.length), l[i].mark ≤ m[i].mark) : leastOf l ≤ leastOf m := by
  rcases (foldl_min m 1099511627776).2.2 with h1 | ⟨t, ht, h1⟩
  · have := (foldl_min l 1099511627776).2.1
    unfold leastOf; omega
  · obtain ⟨i, hi, rfl⟩ := List.mem_iff_getElem.1 ht
    have h2 := leastOf_le l i (by omega)
    have h3 := h i (by omega) hi
    have h4 : leastOf m = m[i].mark := h1
    omega
/-- What is received later is later than all the marks. -/
theorem later (g : Int) : ∀ (ms : List T_api_Message) (l : List Trk), (∀ t ∈ l, TOk t) → (∀ t ∈ l, g ≤ t.mark) → ∀ i (hi : i < ms.length) (hj : i < (runS l ms).2.length), (runS l ms).2[i] = true → g < ms[i].fEvent.fTime
  | [], l, ht, hg, i, hi, hj, h => absurd hi (by simp)
  | m :: r, l, ht, hg, i, hi, hj, h => by
    by_cases he : (stepT l m).2.2 = 0
    · obtain ⟨hm, k2, hs, h4, e, ho⟩ := stepT_ok l m ht he
      obtain ⟨a1, a2⟩ := stepT_all l m ht he
      have hg2 : ∀ t ∈ (stepT l m).1, g ≤ t.mark := fun t h => by
        rw [e] at h
        have := (note_fwd _ m (ht _ (List.getElem_mem hs)) hm h4).1.mark
        exact set_mem (P := fun t => g ≤ t.mark) hg (by have := hg _ (List.getElem_mem hs); omega) t h
      cases i with
      | zero =>
        simp only [runS_ok he, List.getElem_cons_zero] at h ⊢
        rw [e] at h
        have := note_late _ m hm h
        have := hg _ (List.getElem_mem hs)
        omega
      | succ i =>
        simp only [runS_ok he, List.getElem_cons_succ] at h ⊢
        exact later g r _ a1 hg2 i (by simpa using hi) (by simp only [runS_ok he] at hj; simpa using hj) h
    · cases i with
      | zero =>
        simp only [runS_err he, List.getElem_cons_zero] at h
        exact absurd h (by simp)
      | succ i =>
        simp only [runS_err he, List.getElem_cons_succ] at h ⊢
        exact later g r l ht hg i (by simpa using hi) (by simp only [runS_err he] at hj; simpa using hj) h
theorem comp_l1 (n : Nat) (ms : List T_api_Message) (x6 : List Trk × List Bool × Int) (x7 : Int × Int) (hl : x6.2.1.length = ms.length) (hm : ms.length ≤ 1000000) (c : Nat)
    (h : ∀ i (hi : i < ms.length) (hj : i < x6.2.1.length), c ≤ i → x6.2.1[i] = true → x7.1 < ms[i].fEvent.fTime) : ∀ (f k : Nat), c ≤ k → k ≤ ms.length → ms.length < f + k → F_tidegatelaw36_WatermarkCompletes_l1 n ms x6 x7 (some true) f (k : Int) = some true
  | 0, k, h1, h2, h3 => by omega
  | f + 1, k, h1, h2, h3 => by
    rw [F_tidegatelaw36_WatermarkCompletes_l1]
    simp only [cnd_if, List.length_map]
    have ih := comp_l1 n ms x6 x7 hl hm c h f (k + 1)
    by_cases hk : k < ms.length
    · have hj : k < x6.2.1.length := by omega
      rw [if_pos (by omega), idx_nat hj, wrapS k (by omega)]
      cases hb : x6.2.1[k] with
      | true =>
        have := h k hk hj h1 hb
        rw [cnd_t, idx_nat hk, if_neg (by omega)]
        exact ih (by omega) (by omega) (by omega)
      | false => rw [cnd_f]; exact ih (by omega) (by omega) (by omega)
    · rw [if_neg (by omega)]
/-! ### Honest -/
def badB (a b : T_api_Message) : Bool :=
  if msgCheck b ≠ 0 then false else if srcOf a ≠ srcOf b then false else if a.fKind ≠ 0 then false else
  if b.fKind = 0 then decide (a.fEvent.fSeq = b.fEvent.fSeq) && !decide (a.fEvent.fTime = b.fEvent.fTime) else
  if b.fKind = 1 then decide (b.fSeq ≤ a.fEvent.fSeq) && decide (a.fEvent.fTime ≤ b.fTime) else false
def honB (k : Int) (ms : List T_api_Message) : Bool := ms.all fun a => decide (msgCheck a = 0) && (!decide (k ≤ srcOf a) && ms.all fun b => !badB a b)
theorem p_honest_l2 (n : Nat) (ms : List T_api_Message) (a0 : Int) (i : Nat) (hi : i < ms.length) (K : Option Bool) (hl : ms.length ≤ 1000000) : ∀ (f k : Nat), k ≤ ms.length → ms.length < f + k →
    F_tidegateref36_Honest_l2 n ms a0 (i : Int) K f (k : Int) = if (ms.drop k).all (fun b => !badB ms[i] b) = true then K else some false
  | 0, k, h1, h2 => by omega
  | f + 1, k, h1, h2 => by
    rw [F_tidegateref36_Honest_l2]
    simp only [cnd_if, cnd_not, List.length_map]
    by_cases hk : k < ms.length
    · have ih := p_honest_l2 n ms a0 i hi K hl f (k + 1) (by omega) (by omega)
      have e : (if (ms.drop k).all (fun b => !badB ms[i] b) = true then K else some false) = if badB ms[i] ms[k] = true then some false else (if (ms.drop (k + 1)).all (fun b => !badB ms[i] b) = true then K else some false) := by
        rw [drop_cons ms k hk, List.all_cons]
        cases badB ms[i] ms[k] <;> simp
      rw [e, if_pos (by omega), idx_nat hk, p_rcheckM, bnd_some, wrapS k (by omega), ih, idx_nat hi, p_source, bnd_some]
      simp only [idx_nat hk, idx_nat hi, p_source, bnd_some]
      unfold badB
      by_cases c1 : msgCheck ms[k] = 0
      · by_cases c2 : srcOf ms[i] = srcOf ms[k]
        · by_cases c3 : ms[i].fKind = 0
          · by_cases c4 : ms[k].fKind = 0
            · by_cases c5 : ms[i].fEvent.fSeq = ms[k].fEvent.fSeq
              · by_cases c6 : ms[i].fEvent.fTime = ms[k].fEvent.fTime
                · simp [c1, c2, c3, c4, c5, c6]
                · simp [c1, c2, c3, c4, c5, c6]
              · simp [c1, c2, c3, c4, c5]
            · by_cases c5 : ms[k].fKind = 1
              · by_cases c6 : ms[k].fSeq ≤ ms[i].fEvent.fSeq
                · by_cases c7 : ms[i].fEvent.fTime ≤ ms[k].fTime
                  · simp [c1, c2, c3, c5, c6, c7]
                  · simp [c1, c2, c3, c5, c6, c7]
                · simp [c1, c2, c3, c5, c6]
              · simp [c1, c2, c3, c4, c5]
          · simp [c1, c2, c3]
        · simp [c1, c2]
      · simp [c1]
    · rw [if_neg (by omega), List.drop_eq_nil_of_le (by omega)]; simp
theorem p_honest_l1 (n : Nat) (ms : List T_api_Message) (a0 : Int) (K : Option Bool) (hl : ms.length ≤ 1000000) (hn : ms.length < n) : ∀ (f k : Nat), k ≤ ms.length → ms.length < f + k →
    F_tidegateref36_Honest_l1 n ms a0 K f (k : Int) = if (ms.drop k).all (fun a => decide (msgCheck a = 0) && (!decide (a0 ≤ srcOf a) && ms.all fun b => !badB a b)) = true then K else some false
  | 0, k, h1, h2 => by omega
  | f + 1, k, h1, h2 => by
    rw [F_tidegateref36_Honest_l1]
    simp only [cnd_if, cnd_not, List.length_map]
    by_cases hk : k < ms.length
    · have ih := p_honest_l1 n ms a0 K hl hn f (k + 1) (by omega) (by omega)
      have h2 := p_honest_l2 n ms a0 k hk (F_tidegateref36_Honest_l1 n ms a0 K f ((k + 1 : Nat) : Int)) hl n 0 (by omega) (by omega)
      simp only [Int.natCast_zero, List.drop_zero] at h2
      rw [if_pos (by omega), idx_nat hk, p_rcheckM, bnd_some, idx_nat hk, p_source, bnd_some, wrapS k (by omega), h2, ih, drop_cons ms k hk, List.all_cons]
      by_cases c1 : msgCheck ms[k] = 0
      · by_cases c2 : a0 ≤ srcOf ms[k]
        · simp [c1, c2]
        · simp only [c1, c2, if_true, if_false, decide_true, decide_false, Bool.not_false, Bool.true_and]
          cases ms.all (fun b => !badB ms[k] b) <;> simp
      · simp [c1]
    · rw [if_neg (by omega), List.drop_eq_nil_of_le (by omega)]; simp
theorem p_honest (n : Nat) (k : Int) (ms : List T_api_Message) (hl : ms.length ≤ 1000000) (hn : ms.length < n) : F_tidegateref36_Honest n k ms = some (honB k ms) := by
  unfold F_tidegateref36_Honest honB
  have := p_honest_l1 n ms k (some true) hl hn n 0 (by omega) (by omega)
  simp only [Int.natCast_zero, List.drop_zero] at this
  rw [this]
  split
  · rename_i h; rw [h]
  · rename_i h; simp only [Bool.not_eq_true] at h; rw [h]
theorem law_completes (ms : List T_api_Message) (c : Int) (h0 : 0 ≤ c) (h1 : c < 256) : F_tidegatelaw36_WatermarkCompletes 100000 ms c = some true := by
  unfold F_tidegatelaw36_WatermarkCompletes
  rw [awake36]
  simp only [bnd_some, List.length_map, cnd_if, cnd_t, cnd_not]
  by_cases h14 : (14 : Int) < (ms.length : Int)
  · rw [if_pos h14]
  rw [if_neg h14, p_honest _ _ _ (by omega) (by omega), bnd_some]
  obtain ⟨j, rfl⟩ : ∃ j : Nat, c = j := ⟨c.toNat, by omega⟩
  rw [wrapS ms.length (by omega), wrap_in (j : Int) (by omega), ← Int.ofNat_tmod, nzx_ok (by omega)]
  have hc : j % (ms.length + 1) ≤ ms.length := by have := Nat.mod_lt j (show 0 < ms.length + 1 by omega); omega
  generalize j % (ms.length + 1) = c at hc ⊢
  have hs := sls_ok (β := Bool) (l := ms) (Nat.zero_le c) hc
  simp only [Int.natCast_zero] at hs
  rw [hs, List.drop_zero, p_run _ _ _ (by omega), bnd_some, p_run _ _ _ (by omega), bnd_some, p_global _ _ (by omega), bnd_some, p_global _ _ (by omega), bnd_some, show (3 : Int) = ((3 : Nat) : Int) from rfl, runT_ok 3 ms (by omega) (by omega), runT_ok 3 (ms.take c) (by omega) (by simp; omega)]
  obtain ⟨ha, hb⟩ := run_state 3 ms
  obtain ⟨pa, pb⟩ := run_state 3 (ms.take c)
  have hg : ∀ l : List Trk, l.length = 3 → (∀ t ∈ l, TOk t) → wGlobal l = (leastOf l, 0) := fun l hl ht => if_neg (by simpa using (wCheck_zero l).2 ⟨by omega, ht⟩)
  rw [hg _ hb ha, hg _ pb pa]
  have ap := runS_append (List.replicate 3 t0) (ms.take c) (ms.drop c)
  rw [List.take_append_drop] at ap
  obtain ⟨u1, u2⟩ := marks_up (runS (List.replicate 3 t0) (ms.take c)).1 (ms.drop c) pa
  have hmono := leastOf_mono (runS (List.replicate 3 t0) (ms.take c)).1 (runS (List.replicate 3 t0) ms).1 (by omega) (fun i hi hj => by simp only [ap]; exact u2 i hi (by simp only [ap] at hj; exact hj))
  simp only [runS_len, if_true]
  rw [if_neg (by omega)]
  have fin := comp_l1 100000 ms ((runS (List.replicate 3 t0) ms).1, (runS (List.replicate 3 t0) ms).2, 0) (leastOf (runS (List.replicate 3 t0) (ms.take c)).1, 0) (by simp only [runS_len]) (by omega) c (fun i hi hj hci hb => by
    simp only at hb hj ⊢
    have hlen : (runS (List.replicate 3 t0) (ms.take c)).2.length = c := by rw [runS_len]; simp; omega
    have hd : (ms.drop c)[i - c]'(by simp; omega) = ms[i] := by simp [show c + (i - c) = i by omega]
    rw [← hd]
    refine later (leastOf (runS (List.replicate 3 t0) (ms.take c)).1) (ms.drop c) (runS (List.replicate 3 t0) (ms.take c)).1 pa (fun t ht => (foldl_min _ _).1 t ht) (i - c) (by simp; omega) (by rw [runS_len]; simp; omega) ?_
    simp only [ap] at hb
    rw [List.getElem_append_right (by omega)] at hb
    simp only [hlen] at hb
    exact hb) 100000 c (Nat.le_refl _) hc (by omega)
  rw [fin]
  unfold cnd
  split <;> rfl
end Go.Proofs.Ythhnhajldhnfmaa
namespace Go.Proofs.Ythhnhajldhnfmaa
open Go.RowKit

/-- The gaps: in order, apart, and together the numbers that are lacking. -/
theorem lack_props (s a : Int) (l : List Int) (hl : l.Pairwise (· < ·)) (ha : ∀ b ∈ l, a ≤ b) :
    (∀ g ∈ lack s a l, a ≤ g.1 ∧ g.1 ≤ g.2 ∧ g.2 < s) ∧ (lack s a l).Pairwise (fun g h => g.2 < h.1) ∧ ∀ x, (∃ g ∈ lack s a l, g.1 ≤ x ∧ x ≤ g.2) ↔ a ≤ x ∧ x < s ∧ x ∉ l := by
  induction l generalizing a with
  | nil =>
    unfold lack
    by_cases h : a < s
    · rw [if_pos h]
      refine ⟨fun g hg => ?_, by simp, fun x => ?_⟩
      · rw [List.mem_singleton.1 hg]; simp only; omega
      · simp only [List.mem_singleton, exists_eq_left, List.not_mem_nil, not_false_eq_true, and_true]
        omega
    · rw [if_neg h]
      refine ⟨fun g hg => absurd hg (by simp), by simp, fun x => ?_⟩
      constructor
      · rintro ⟨g, hg, _⟩; exact absurd hg (by simp)
      · rintro ⟨h1, h2, _⟩; omega
  | cons b r ih =>
    obtain ⟨p1, p2⟩ := List.pairwise_cons.1 hl
    obtain ⟨i1, i2, i3⟩ := ih (b + 1) p2 (fun x hx => by have := p1 x hx; omega)
    have hab := ha b (by simp)
    unfold lack
    by_cases h : a < min s b
    · rw [if_pos h]
      refine ⟨fun g hg => ?_, ?_, fun x => ?_⟩
      · rcases List.mem_append.1 hg with hg | hg
        · rw [List.mem_singleton.1 hg]; simp only; omega
        · have := i1 g hg; omega
      · refine List.pairwise_append.2 ⟨by simp, i2, fun g hg h2 hh => ?_⟩
        have := i1 h2 hh
        rw [List.mem_singleton.1 hg]; simp only; omega
      · have e : (∃ g ∈ [(a, min s b - 1)] ++ lack s (b + 1) r, g.1 ≤ x ∧ x ≤ g.2) ↔ (a ≤ x ∧ x ≤ min s b - 1) ∨ ∃ g ∈ lack s (b + 1) r, g.1 ≤ x ∧ x ≤ g.2 := by simp
        rw [e, i3 x, List.mem_cons]
        constructor
        · rintro (h1 | ⟨h1, h2, h3⟩)
          · refine ⟨by omega, by omega, ?_⟩
            rintro (h2 | h2)
            · omega
            · have := p1 x h2; omega
          · refine ⟨by omega, h2, ?_⟩
            rintro (h4 | h4)
            · omega
            · exact h3 h4
        · rintro ⟨h1, h2, h3⟩
          by_cases h4 : x < b
          · exact Or.inl (by omega)
          · exact Or.inr ⟨by have : x ≠ b := fun h => h3 (Or.inl h); omega, h2, fun h => h3 (Or.inr h)⟩
    · rw [if_neg h, List.nil_append]
      refine ⟨fun g hg => by have := i1 g hg; omega, i2, fun x => ?_⟩
      rw [i3 x, List.mem_cons]
      constructor
      · rintro ⟨h1, h2, h3⟩
        refine ⟨by omega, h2, ?_⟩
        rintro (h4 | h4)
        · omega
        · exact h3 h4
      · rintro ⟨h1, h2, h3⟩
        have : x ≠ b := fun h => h3 (Or.inl h)
        exact ⟨by omega, h2, fun h => h3 (Or.inr h)⟩

/-- The state while gaps are filled: only tracker i has changed, by the numbers S. -/
structure Fill (l0 l : List Trk) (i : Nat) (hi : i < l0.length) (S : Int → Prop) : Prop where
  ok : ∀ t ∈ l, TOk t
  len : l.length = l0.length
  fwd : ∀ h : i < l.length, Fwd l0[i] l[i] S (fun _ => False)
def evM (i : Nat) (s : Int) : T_api_Message := ⟨0, ⟨(i : Int), s, 0, 1099511627776, []⟩, 0, 0, 0⟩
theorem evM_check (i : Nat) (s : Int) (hi : i ≤ 7) (h0 : 0 ≤ s) (h1 : s ≤ 1099511627776) : msgCheck (evM i s) = 0 := by
  unfold msgCheck evM
  simp only [rng_iff]
  rw [if_pos trivial, if_pos ⟨trivial, trivial, trivial⟩, if_pos (by omega)]
theorem evM_src (i : Nat) (s : Int) : srcOf (evM i s) = (i : Int) := if_pos rfl
/-- An event whose number is new is taken, or is refused with one of two errors. -/
theorem note_new_err (t : Trk) (i : Nat) (s : Int) (h0 : 0 ≤ s) (hb : ¬ Num t s) : (noteT t (evM i s)).2 = (false, 19) ∨ (noteT t (evM i s)).2 = (false, 5) ∨ (noteT t (evM i s)).2 = (true, 0) := by
  unfold noteT
  have hb' : ¬ hasB t (evM i s).fEvent.fSeq = true := fun h => hb ((hasB_iff t _ h0).1 h)
  rw [if_neg (show ¬ (evM i s).fKind = 1 by simp [evM]), if_neg hb']
  by_cases h1 : latest t.mark t.points (evM i s).fEvent.fSeq < (evM i s).fEvent.fTime
  · rw [if_pos h1]
    by_cases h2 : 256 < (withT t (evM i s).fEvent.fSeq).beyond.length
    · rw [if_pos h2]; exact Or.inr (Or.inl rfl)
    · rw [if_neg h2]; exact Or.inr (Or.inr rfl)
  · rw [if_neg h1]; exact Or.inl rfl
theorem fill_step (l0 l : List Trk) (i : Nat) (hi : i < l0.length) (S : Int → Prop) (s : Int) (hi7 : i ≤ 7) (h0 : 0 ≤ s) (h1 : s ≤ 1099511627776) (hf : Fill l0 l i hi S) (hn : ¬ Num l0[i] s) (hS : ¬ S s) :
    (stepT l (evM i s) = ([], false, 19) ∨ stepT l (evM i s) = ([], false, 5)) ∨ (stepT l (evM i s)).2 = (true, 0) ∧ Fill l0 (stepT l (evM i s)).1 i hi (fun x => S x ∨ x = s) := by
  have hl := hf.len
  have hil : i < l.length := by omega
  have hm := evM_check i s hi7 h0 h1
  have hnum : ¬ Num l[i] s := fun h => ((hf.fwd hil).num s).1 h |>.elim hn hS
  have hg : l.getD i zeroT = l[i] := by simp [List.getElem?_eq_getElem hil]
  have e : stepT l (evM i s) = if (noteT l[i] (evM i s)).2.2 ≠ 0 then ([], false, (noteT l[i] (evM i s)).2.2) else (l.set i (noteT l[i] (evM i s)).1, (noteT l[i] (evM i s)).2.1, 0) := by
    unfold stepT
    rw [if_neg (by simpa using hm), evM_src, if_neg (by omega), Int.toNat_natCast, hg]
  rw [e]
  rcases note_new_err l[i] i s h0 hnum with h | h | h
  · rw [h]; exact Or.inl (Or.inl rfl)
  · rw [h]; exact Or.inl (Or.inr rfl)
  · right
    have h2 : (noteT l[i] (evM i s)).2.2 = 0 := by rw [h]
    obtain ⟨f, _, _⟩ := note_fwd l[i] (evM i s) (hf.ok _ (List.getElem_mem hil)) hm h2
    rw [if_neg (by simpa using h2), h]
    refine ⟨rfl, ⟨set_mem hf.ok (noteT_ok _ _ (hf.ok _ (List.getElem_mem hil)) hm h2), by simpa using hl, fun h3 => ?_⟩⟩
    have f0 := hf.fwd hil
    simp only [List.getElem_set_self]
    refine ⟨fun x => ?_, Int.le_trans f0.next f.next, Int.le_trans f0.mark f.mark, fun a τ ha => ?_⟩
    · rw [f.num x, f0.num x]
      constructor
      · rintro ((h | h) | ⟨_, h⟩)
        · exact Or.inl h
        · exact Or.inr (Or.inl h)
        · exact Or.inr (Or.inr h)
      · rintro (h | h | h)
        · exact Or.inl (Or.inl h)
        · exact Or.inl (Or.inr h)
        · exact Or.inr ⟨rfl, h⟩
    · rw [f.forb a τ ha, f0.forb a τ (Int.le_trans f.next ha)]
      constructor
      · rintro ((h | ⟨p, h, _⟩) | ⟨p, h, _⟩)
        · exact Or.inl h
        · exact absurd h id
        · exact absurd h.1 (by simp [evM])
      · rintro (h | ⟨p, h, _⟩)
        · exact Or.inl (Or.inl h)
        · exact absurd h id
theorem Fill.iff {l0 l : List Trk} {i : Nat} {hi : i < l0.length} {S S' : Int → Prop} (h : Fill l0 l i hi S) (e : ∀ x, S x ↔ S' x) : Fill l0 l i hi S' := by
  have : S = S' := funext fun x => propext (e x)
  rw [← this]; exact h
theorem fill_l2 (l0 : List Trk) (i : Nat) (hi : i < l0.length) (h8 : l0.length ≤ 8) (gs : List (Int × Int)) (mk : Int) (j : Nat) (hj : j < gs.length) (hg : 0 ≤ gs[j].1 ∧ gs[j].1 ≤ gs[j].2 ∧ gs[j].2 ≤ 1099511627776) (S : Int → Prop)
    (hnum : ∀ x, gs[j].1 ≤ x → x ≤ gs[j].2 → ¬ Num l0[i] x) (hS : ∀ x, gs[j].1 ≤ x → x ≤ gs[j].2 → ¬ S x) (lv : List Trk) (K : List Trk → Option Bool) (hK : ∀ l, Fill l0 l i hi (fun x => S x ∨ gs[j].1 ≤ x ∧ x ≤ gs[j].2) → K l = some true) :
    ∀ (f k : Nat) (l : List Trk), k ≤ 41 → 60 < f + k → gs[j].1 + k ≤ gs[j].2 + 1 → Fill l0 l i hi (fun x => S x ∨ gs[j].1 ≤ x ∧ x < gs[j].1 + k) → F_tidegatelaw36_WatermarkFills_l2 100000 (lv, (i : Int), gs, mk, (j : Int)) K f (l, gs[j].1 + k) = some true
  | 0, k, l, h1, h2, h3, hf => by omega
  | f + 1, k, l, h1, h2, h3, hf => by
    rw [F_tidegatelaw36_WatermarkFills_l2]
    simp only [cnd_if, cnd_not, List.length_map, idx_nat hj, awake36]
    by_cases hk : gs[j].1 + k ≤ gs[j].2
    · rw [if_pos hk, wrap_in _ (by omega)]
      by_cases h40 : 40 < gs[j].1 + (k : Int) - gs[j].1
      · rw [if_pos h40, bnd_some]
      · rw [if_neg h40]
        rw [show F_tidegatelaw36_event 100000 (i : Int) (gs[j].1 + k) 1099511627776 = some (evM i (gs[j].1 + k)) from rfl, bnd_some, p_Receive _ _ _ (by omega), bnd_some]
        have hl := hf.len
        rw [recvAll_ok _ _ (by omega) hf.ok]
        rcases fill_step l0 l i hi _ (gs[j].1 + k) (by omega) (by omega) (by omega) hf (hnum _ (by omega) hk) (by have := hS (gs[j].1 + k) (by omega) hk; rintro (h | h); exact this h; omega) with (h | h) | ⟨h, hf2⟩
        · rw [h]
          have : ¬ ((0 : Nat) : Int) = (l.length : Int) := by omega
          simp [this, bnd_some]
        · rw [h]
          have : ¬ ((0 : Nat) : Int) = (l.length : Int) := by omega
          simp [this, bnd_some]
        · have hl2 := hf2.len
          have hq : ((stepT l (evM i (gs[j].1 + k))).1.length : Int) = (l.length : Int) := by omega
          have e1 : (stepT l (evM i (gs[j].1 + k))).2.2 = 0 := by rw [h]
          have e2 : (stepT l (evM i (gs[j].1 + k))).2.1 = true := by rw [h]
          have ih := fill_l2 l0 i hi h8 gs mk j hj hg S hnum hS lv K hK f (k + 1) (stepT l (evM i (gs[j].1 + k))).1 (by omega) (by omega) (by omega) (hf2.iff fun x => by
            constructor
            · rintro ((h | h) | h)
              · exact Or.inl h
              · exact Or.inr (by omega)
              · exact Or.inr (by omega)
            · rintro (h | h)
              · exact Or.inl (Or.inl h)
              · by_cases hx : x = gs[j].1 + k
                · exact Or.inr hx
                · exact Or.inl (Or.inr (by omega)))
          have ew : IntKind.wrap .i64 (gs[j].1 + (k : Int) + 1) = gs[j].1 + ((k + 1 : Nat) : Int) := by rw [wrap_in _ (by omega)]; omega
          rw [if_pos e1, if_pos hq, e2, cnd_t, ew, ih]
          simp [e1]
    · rw [if_neg hk]
      exact hK l (hf.iff fun x => by
        constructor
        · rintro (h | h)
          · exact Or.inl h
          · exact Or.inr (by omega)
        · rintro (h | h)
          · exact Or.inl h
          · exact Or.inr (by omega))
theorem fill_l1 (l0 : List Trk) (i : Nat) (hi : i < l0.length) (h8 : l0.length ≤ 8) (gs : List (Int × Int)) (mk : Int) (hg : ∀ g ∈ gs, 0 ≤ g.1 ∧ g.1 ≤ g.2 ∧ g.2 ≤ 1099511627776) (hp : gs.Pairwise fun g h => g.2 < h.1) (hlen : gs.length ≤ 1000)
    (hnum : ∀ g ∈ gs, ∀ x, g.1 ≤ x → x ≤ g.2 → ¬ Num l0[i] x) (K : List Trk → Int → List (Int × Int) → Int → Option Bool) (hK : ∀ l, Fill l0 l i hi (fun x => ∃ g ∈ gs, g.1 ≤ x ∧ x ≤ g.2) → K l (i : Int) gs mk = some true) :
    ∀ (f j : Nat) (l : List Trk), j ≤ gs.length → gs.length < f + j → Fill l0 l i hi (fun x => ∃ g ∈ gs.take j, g.1 ≤ x ∧ x ≤ g.2) → F_tidegatelaw36_WatermarkFills_l1 100000 K f (l, (i : Int), gs, mk, (j : Int)) = some true
  | 0, j, l, h1, h2, hf => by omega
  | f + 1, j, l, h1, h2, hf => by
    rw [F_tidegatelaw36_WatermarkFills_l1]
    simp only [cnd_if, List.length_map]
    by_cases hj : j < gs.length
    · rw [if_pos (by omega), idx_nat hj, wrapS j (by omega)]
      have := fill_l2 l0 i hi h8 gs mk j hj (hg _ (List.getElem_mem hj)) (fun x => ∃ g ∈ gs.take j, g.1 ≤ x ∧ x ≤ g.2) (hnum _ (List.getElem_mem hj)) (fun x h3 h4 => by
        rintro ⟨g, hgm, h5, h6⟩
        obtain ⟨q, hq, rfl⟩ := List.mem_iff_getElem.1 hgm
        simp only [List.length_take] at hq
        rw [List.getElem_take] at h6
        have := List.pairwise_iff_getElem.1 hp q j (by omega) hj (by omega)
        omega) l (fun y => F_tidegatelaw36_WatermarkFills_l1 100000 K f (y, (i : Int), gs, mk, ((j + 1 : Nat) : Int))) (fun l' hf' => fill_l1 l0 i hi h8 gs mk hg hp hlen hnum K hK f (j + 1) l' (by omega) (by omega) (hf'.iff fun x => by
          rw [List.take_succ_eq_append_getElem hj]
          simp only [List.mem_append, List.mem_singleton]
          constructor
          · rintro (⟨g, h, h'⟩ | h)
            · exact ⟨g, Or.inl h, h'⟩
            · exact ⟨_, Or.inr rfl, h⟩
          · rintro ⟨g, h | rfl, h'⟩
            · exact Or.inl ⟨g, h, h'⟩
            · exact Or.inr h')) 100000 0 l (by omega) (by omega) (by have := hg _ (List.getElem_mem hj); omega) (hf.iff fun x => by
          constructor
          · exact Or.inl
          · rintro (h | h)
            · exact h
            · omega)
      simp only [Int.natCast_zero, Int.add_zero] at this
      exact this
    · have e : j = gs.length := by omega
      rw [if_neg (by omega)]
      exact hK l (hf.iff fun x => by rw [e, List.take_length])
theorem beyond_len (c : Nat) : ∀ (ms : List T_api_Message) (l : List Trk), (∀ t ∈ l, TOk t) → (∀ t ∈ l, t.beyond.length ≤ c) → ∀ t ∈ (runS l ms).1, t.beyond.length ≤ c + ms.length
  | [], l, ht, hc => fun t h => by have := hc t h; simpa using this
  | m :: r, l, ht, hc => by
    by_cases h : (stepT l m).2.2 = 0
    · rw [runS_ok h]
      obtain ⟨hm, k2, hs, h4, e, ho⟩ := stepT_ok l m ht h
      obtain ⟨a1, a2⟩ := stepT_all l m ht h
      have := beyond_len (c + 1) r (stepT l m).1 a1 (by
        rw [e]
        refine set_mem (P := fun (t : Trk) => t.beyond.length ≤ c + 1) (fun t ht => by have := hc t ht; omega) ?_
        have h1 := (note_fwd _ m (ht _ (List.getElem_mem hs)) hm h4).2.1
        have h2 := hc _ (List.getElem_mem hs)
        omega)
      intro t ht'
      have h3 := this t ht'
      simp only [List.length_cons]
      omega
    · rw [runS_err h]
      intro t ht'
      have := beyond_len c r l ht hc t ht'
      simp only [List.length_cons]
      omega
theorem fill_mark (t u : Trk) (p : Pt) (r : List Pt) (hp : t.points = p :: r) (ht : TOk t) (hu : TOk u) (f : Fwd t u (fun x => ∃ g ∈ lack p.seq t.next t.beyond, g.1 ≤ x ∧ x ≤ g.2) (fun _ => False)) : t.mark < u.mark := by
  obtain ⟨_, _, _, q4⟩ := (sqCheck_zero t).1 ht.sq
  obtain ⟨_, _, _, r4⟩ := (sqCheck_zero u).1 hu.sq
  have q5 := List.pairwise_cons.1 q4
  have r5 := List.pairwise_cons.1 r4
  obtain ⟨_, _, l3⟩ := lack_props p.seq t.next t.beyond q5.2 (fun b hb => by have := q5.1 b hb; omega)
  have hnext : p.seq ≤ u.next := by
    apply Int.not_lt.1
    intro hlt
    have hn : ¬ Num u u.next := by
      rintro (h | h)
      · omega
      · have := r5.1 _ h; omega
    apply hn
    rw [f.num]
    have := f.next
    by_cases hb : u.next ∈ t.beyond
    · exact Or.inl (Or.inr hb)
    · exact Or.inr ((l3 u.next).2 ⟨this, hlt, hb⟩)
  have hF : Forb u u.next p.time := (f.forb _ _ (Int.le_refl _)).2 (Or.inl (Or.inr ⟨p, by rw [hp]; simp, hnext, Int.le_refl _⟩))
  have h1 := (List.pairwise_cons.1 ht.asc).1 p (by rw [hp]; simp)
  rcases hF with h | ⟨q, hq, h2, _⟩
  · have : t.mark < p.time := h1.2
    omega
  · have := ((List.pairwise_cons.1 hu.asc).1 q hq).1
    simp only at this
    omega
theorem fill_nil (n : Nat) (K : List Trk → Int → List (Int × Int) → Int → Option Bool) (f : Nat) (l : List Trk) (i mk : Int) : F_tidegatelaw36_WatermarkFills_l1 n K (f + 1) (l, i, [], mk, 0) = K l i [] mk := by
  rw [F_tidegatelaw36_WatermarkFills_l1]
  simp [cnd_if, cnd_f]
theorem law_fills (ms : List T_api_Message) : F_tidegatelaw36_WatermarkFills 100000 ms = some true := by
  unfold F_tidegatelaw36_WatermarkFills
  rw [awake36]
  simp only [bnd_some, List.length_map, cnd_if, cnd_t, cnd_not]
  by_cases h14 : (14 : Int) < (ms.length : Int)
  · rw [if_pos h14]
  obtain ⟨ht, hl⟩ := run_state 2 ms
  rw [if_neg h14, p_run _ _ _ (by omega), bnd_some, p_missing _ _ (by omega), bnd_some, show (2 : Int) = ((2 : Nat) : Int) from rfl, runT_ok 2 ms (by omega) (by omega)]
  have hbl := beyond_len 0 ms (List.replicate 2 t0) (fun t ht => by rw [List.eq_of_mem_replicate ht]; exact begin_ok) (fun t ht => by rw [List.eq_of_mem_replicate ht]; simp [t0])
  simp only
  generalize (runS (List.replicate 2 t0) ms).1 = l at ht hl hbl ⊢
  obtain ⟨hx0, hx1⟩ := leastIx_pos l (by omega)
  obtain ⟨i, hi⟩ : ∃ i : Nat, leastIx l = (i : Int) := ⟨(leastIx l).toNat, by omega⟩
  rw [hi, Int.toNat_natCast] at hx1
  have hg : l.getD i zeroT = l[i] := by simp [List.getElem?_eq_getElem hx1]
  have hw : wMissing l = match l[i].points with
    | [] => ((i : Int), [], 0)
    | p :: _ => ((i : Int), lack p.seq l[i].next l[i].beyond, 0) := by
    unfold wMissing
    rw [if_neg (by simpa using (wCheck_zero l).2 ⟨by omega, ht⟩), if_neg (by omega), hi, Int.toNat_natCast, hg]
    all_goals (cases l[i].points <;> rfl)
  have hf0 : ∀ S : Int → Prop, (∀ x, ¬ S x) → Fill l l i hx1 S := fun S hS => ⟨ht, rfl, fun _ => ⟨fun x => ⟨Or.inl, fun h => h.elim id fun h => absurd h (hS x)⟩, Int.le_refl _, Int.le_refl _, fun s τ _ => ⟨Or.inl, fun h => h.elim id fun ⟨p, hp, _⟩ => hp.elim⟩⟩⟩
  have hti := ht _ (List.getElem_mem hx1)
  obtain ⟨q1, q2, q3, q4⟩ := (sqCheck_zero l[i]).1 hti.sq
  have q5 := List.pairwise_cons.1 q4
  rw [hw]
  cases hp : l[i].points with
  | nil =>
    simp only [if_true, List.length_nil]
    rw [if_neg (by omega), if_neg (by omega), if_neg (by omega), idx_nat hx1]
    rw [show (100000 : Nat) = 99999 + 1 from rfl, fill_nil]
    simp only [List.length_nil, Int.natCast_zero, if_true]
    rw [idx_nat hx1, hp]
    rfl
  | cons p r =>
    obtain ⟨l1, l2, l3⟩ := lack_props p.seq l[i].next l[i].beyond q5.2 (fun b hb => by have := q5.1 b hb; omega)
    have hpo := hti.ok p (by rw [hp]; simp)
    have hlen := lack_len p.seq l[i].next l[i].beyond
    have := hbl _ (List.getElem_mem hx1)
    simp only [if_true]
    rw [if_neg (by omega), if_neg (by omega), if_neg (by omega), idx_nat hx1]
    refine fill_l1 l i hx1 (by omega) _ l[i].mark (fun g hg => by have := l1 g hg; have := hpo.2.1; omega) l2 (by omega) (fun g hg x h1 h2 => ?_) _ (fun l' hf' => ?_) 100000 0 l (by omega) (by omega) (hf0 _ (by simp))
    · have h3 := (l3 x).1 ⟨g, hg, h1, h2⟩
      rintro (h | h)
      · omega
      · exact h3.2.2 h
    · have hl' := hf'.len
      have hx1' : i < l'.length := by omega
      have hne : ¬ ((lack p.seq l[i].next l[i].beyond).length : Int) = 0 := by
        have h1 := ((List.pairwise_cons.1 hti.asc).1 p (by rw [hp]; simp)).1
        obtain ⟨g, hg, _⟩ := (l3 l[i].next).2 ⟨Int.le_refl _, h1, fun hb => by have := q5.1 _ hb; omega⟩
        have := List.length_pos_of_mem hg
        omega
      rw [if_neg hne, idx_nat hx1']
      have := fill_mark l[i] l'[i] p r hp hti (hf'.ok _ (List.getElem_mem hx1')) (hf'.fwd hx1')
      simp [this]
end Go.Proofs.Ythhnhajldhnfmaa
namespace Go.Proofs.Ythhnhajldhnfmaa
open Go.RowKit

/-- Messages that fit together (what Honest says of a list). -/
structure Hon (k : Nat) (H : T_api_Message → Prop) : Prop where
  ok : ∀ m, H m → msgCheck m = 0
  src : ∀ m, H m → srcOf m < (k : Int)
  fit : ∀ a b, H a → H b → srcOf a = srcOf b → a.fKind = 0 → b.fKind = 1 → ¬ (b.fSeq ≤ a.fEvent.fSeq ∧ a.fEvent.fTime ≤ b.fTime)
theorem honB_hon (k : Nat) (ms : List T_api_Message) (h : honB (k : Int) ms = true) : Hon k (· ∈ ms) := by
  unfold honB at h
  simp only [List.all_eq_true, Bool.and_eq_true, decide_eq_true_eq, Bool.not_eq_true', decide_eq_false_iff_not] at h
  refine ⟨fun m hm => (h m hm).1, fun m hm => by have := (h m hm).2.1; omega, fun a b ha hb hs h0 h1 hc => ?_⟩
  have := (h a ha).2.2 b hb
  unfold badB at this
  rw [if_neg (by simp [(h b hb).1]), if_neg (by simp [hs]), if_neg (by simp [h0]), if_neg (by omega), if_pos h1] at this
  simp [hc.1, hc.2] at this
def Evs (d : List T_api_Message) (i : Int) (x : Int) : Prop := ∃ m ∈ d, srcOf m = i ∧ evOf m x
def PtsM (d : List T_api_Message) (i : Int) (p : Pt) : Prop := ∃ m ∈ d, srcOf m = i ∧ ptOf m p
/-- The trackers after the messages d. -/
structure Got (k : Nat) (l : List Trk) (d : List T_api_Message) : Prop where
  len : l.length = k
  ok : ∀ t ∈ l, TOk t
  fwd : ∀ i (h : i < l.length), Fwd t0 l[i] (Evs d (i : Int)) (PtsM d (i : Int))
  bl : ∀ t ∈ l, t.beyond.length ≤ d.length
  pl : ∀ t ∈ l, t.points.length ≤ d.length
theorem note_fit (t : Trk) (m : T_api_Message) (ht : TOk t) (hm : msgCheck m = 0) (hb : t.beyond.length < 256) (hp : t.points.length < 256) (hf : m.fKind = 0 → ¬ Num t m.fEvent.fSeq → ¬ Forb t m.fEvent.fSeq m.fEvent.fTime) : (noteT t m).2.2 = 0 := by
  obtain ⟨k1, k2, k3, k4, k5⟩ := msg_ok m hm
  unfold noteT
  by_cases h1 : m.fKind = 1
  · rw [if_pos h1]
    exact add_fits t _ ht (k5 h1) hp
  · have hk : m.fKind = 0 := by omega
    obtain ⟨e1, e2, e3, e4⟩ := k4 hk
    rw [if_neg h1]
    by_cases hh : hasB t m.fEvent.fSeq = true
    · rw [if_pos hh]
    · rw [if_neg hh, if_pos ((forb_latest t _ _).2 (hf hk fun h => hh ((hasB_iff t _ e1).2 h)))]
      have := (withT_props t m.fEvent.fSeq ht.sq e1 e2 (by simpa using hh)).2.2.2.1
      rw [if_neg (by omega)]
theorem t0_num (x : Int) (h : 0 ≤ x) : ¬ Num t0 x := by
  unfold Num t0
  simp only [List.not_mem_nil, or_false]
  omega
theorem t0_forb (s τ : Int) (h : 0 ≤ τ) : ¬ Forb t0 s τ := by
  unfold Forb t0
  simp only [List.not_mem_nil, false_and, exists_false, or_false]
  omega
theorem got_step {k : Nat} {H : T_api_Message → Prop} (hH : Hon k H) (hk : k ≤ 8) {l : List Trk} {d : List T_api_Message} (hg : Got k l d) (hd : ∀ m ∈ d, H m) (m : T_api_Message) (hm : H m) (hlen : d.length < 200) :
    (stepT l m).2 = (decide (m.fKind = 0) && !(d.any fun m' => decide (m'.fKind = 0) && (decide (srcOf m' = srcOf m) && decide (m'.fEvent.fSeq = m.fEvent.fSeq))), 0) ∧ Got k (stepT l m).1 (d ++ [m]) := by
  have hc := hH.ok m hm
  obtain ⟨k1, k2, k3, k4, k5⟩ := msg_ok m hc
  have hs3 := hH.src m hm
  have hl := hg.len
  obtain ⟨i, hi⟩ : ∃ i : Nat, srcOf m = (i : Int) := ⟨(srcOf m).toNat, by omega⟩
  have hil : i < l.length := by omega
  have hti := hg.ok _ (List.getElem_mem hil)
  have hf := hg.fwd i hil
  have hb := hg.bl _ (List.getElem_mem hil)
  have hp := hg.pl _ (List.getElem_mem hil)
  have h0 : (noteT l[i] m).2.2 = 0 := note_fit l[i] m hti hc (by omega) (by omega) fun h0 hn hF => by
    obtain ⟨e1, e2, e3, e4⟩ := k4 h0
    have hnx : l[i].next ≤ m.fEvent.fSeq := Int.not_lt.1 fun h => hn (Or.inl h)
    rcases (hf.forb _ _ hnx).1 hF with h | ⟨p, ⟨b, hb, hbs, hbk, hbp⟩, h1, h2⟩
    · exact t0_forb _ _ e3 h
    · subst hbp
      exact hH.fit m b hm (hd b hb) (by omega) h0 hbk ⟨h1, h2⟩
  have hgD : l.getD i zeroT = l[i] := by simp [List.getElem?_eq_getElem hil]
  have e : stepT l m = (l.set i (noteT l[i] m).1, (noteT l[i] m).2.1, 0) := by
    unfold stepT
    rw [if_neg (by simpa using hc), if_neg (by omega), hi, Int.toNat_natCast, hgD, if_neg (by simpa using h0)]
  obtain ⟨f, fb, fp⟩ := note_fwd l[i] m hti hc h0
  have hnew : (noteT l[i] m).2.1 = (decide (m.fKind = 0) && !(d.any fun m' => decide (m'.fKind = 0) && (decide (srcOf m' = srcOf m) && decide (m'.fEvent.fSeq = m.fEvent.fSeq)))) := by
    rw [Bool.eq_iff_iff, note_new l[i] m hc h0]
    simp only [Bool.and_eq_true, decide_eq_true_eq, Bool.not_eq_true', List.any_eq_false, not_and]
    constructor
    · rintro ⟨h1, h2⟩
      refine ⟨h1, fun x hx h3 h4 h5 => h2 ((hf.num _).2 (Or.inr ⟨x, hx, by omega, h3, h5.symm⟩))⟩
    · rintro ⟨h1, h2⟩
      refine ⟨h1, fun h3 => ?_⟩
      rcases (hf.num _).1 h3 with h4 | ⟨x, hx, h4, h5, h6⟩
      · exact t0_num _ (k4 h1).1 h4
      · exact h2 x hx h5 (by omega) h6.symm
  rw [e]
  refine ⟨by rw [hnew], ⟨by simpa using hl, set_mem hg.ok (noteT_ok _ _ hti hc h0), fun j hj => ?_, ?_, ?_⟩⟩
  · have hj' : j < l.length := by simpa using hj
    have hfj := hg.fwd j hj'
    simp only
    by_cases hij : i = j
    · subst hij
      simp only [List.getElem_set_self]
      refine ⟨fun x => ?_, Int.le_trans hf.next f.next, Int.le_trans hf.mark f.mark, fun s τ hs => ?_⟩
      · rw [f.num x, hf.num x]
        unfold Evs
        constructor
        · rintro ((h | ⟨a, h1, h2⟩) | h)
          · exact Or.inl h
          · exact Or.inr ⟨a, by simp [h1], h2⟩
          · exact Or.inr ⟨m, by simp, hi, h⟩
        · rintro (h | ⟨a, h1, h2, h3⟩)
          · exact Or.inl (Or.inl h)
          · rcases List.mem_append.1 h1 with h1 | h1
            · exact Or.inl (Or.inr ⟨a, h1, h2, h3⟩)
            · rw [List.mem_singleton.1 h1] at h3; exact Or.inr h3
      · rw [f.forb s τ hs, hf.forb s τ (Int.le_trans f.next hs)]
        unfold PtsM
        constructor
        · rintro ((h | ⟨p, ⟨a, h1, h2⟩, h3⟩) | ⟨p, h1, h3⟩)
          · exact Or.inl h
          · exact Or.inr ⟨p, ⟨a, by simp [h1], h2⟩, h3⟩
          · exact Or.inr ⟨p, ⟨m, by simp, hi, h1⟩, h3⟩
        · rintro (h | ⟨p, ⟨a, h1, h2, h4⟩, h3⟩)
          · exact Or.inl (Or.inl h)
          · rcases List.mem_append.1 h1 with h1 | h1
            · exact Or.inl (Or.inr ⟨p, ⟨a, h1, h2, h4⟩, h3⟩)
            · rw [List.mem_singleton.1 h1] at h4; exact Or.inr ⟨p, h4, h3⟩
    · simp only [List.getElem_set_ne hij]
      have hmj : ∀ a, a ∈ d ++ [m] → srcOf a = (j : Int) → a ∈ d := fun a ha hs => by
        rcases List.mem_append.1 ha with h1 | h1
        · exact h1
        · rw [List.mem_singleton.1 h1] at hs; omega
      refine ⟨fun x => ?_, hfj.next, hfj.mark, fun s τ hs => ?_⟩
      · rw [hfj.num x]
        unfold Evs
        constructor
        · rintro (h | ⟨a, h1, h2⟩)
          · exact Or.inl h
          · exact Or.inr ⟨a, by simp [h1], h2⟩
        · rintro (h | ⟨a, h1, h2, h3⟩)
          · exact Or.inl h
          · exact Or.inr ⟨a, hmj a h1 h2, h2, h3⟩
      · rw [hfj.forb s τ hs]
        unfold PtsM
        constructor
        · rintro (h | ⟨p, ⟨a, h1, h2⟩, h3⟩)
          · exact Or.inl h
          · exact Or.inr ⟨p, ⟨a, by simp [h1], h2⟩, h3⟩
        · rintro (h | ⟨p, ⟨a, h1, h2, h4⟩, h3⟩)
          · exact Or.inl h
          · exact Or.inr ⟨p, ⟨a, hmj a h1 h2, h2, h4⟩, h3⟩
  · refine set_mem (P := fun (t : Trk) => t.beyond.length ≤ (d ++ [m]).length) (fun t ht => ?_) ?_
    · have := hg.bl t ht; simp; omega
    · simp; omega
  · refine set_mem (P := fun (t : Trk) => t.points.length ≤ (d ++ [m]).length) (fun t ht => ?_) ?_
    · have := hg.pl t ht; simp; omega
    · simp; omega
def newB (d : List T_api_Message) (m : T_api_Message) : Bool := decide (m.fKind = 0) && !(d.any fun m' => decide (m'.fKind = 0) && (decide (srcOf m' = srcOf m) && decide (m'.fEvent.fSeq = m.fEvent.fSeq)))
theorem got_run {k : Nat} {H : T_api_Message → Prop} (hH : Hon k H) (hk : k ≤ 8) : ∀ (ms d : List T_api_Message) (l : List Trk), Got k l d → (∀ m ∈ d, H m) → (∀ m ∈ ms, H m) → d.length + ms.length < 200 →
    Got k (runS l ms).1 (d ++ ms) ∧ ∀ i (hi : i < ms.length) (hj : i < (runS l ms).2.length), (runS l ms).2[i] = newB (d ++ ms.take i) ms[i]
  | [], d, l, hg, h1, h2, h3 => ⟨by simpa [runS] using hg, fun i hi => absurd hi (by simp)⟩
  | m :: r, d, l, hg, h1, h2, h3 => by
    simp only [List.length_cons] at h3
    obtain ⟨s1, s2⟩ := got_step hH hk hg h1 m (h2 m (by simp)) (by omega)
    have h0 : (stepT l m).2.2 = 0 := by rw [s1]
    obtain ⟨i1, i2⟩ := got_run hH hk r (d ++ [m]) (stepT l m).1 s2 (fun x hx => by
      rcases List.mem_append.1 hx with h | h
      · exact h1 x h
      · rw [List.mem_singleton.1 h]; exact h2 m (by simp)) (fun x hx => h2 x (by simp [hx])) (by simp; omega)
    rw [runS_ok h0]
    refine ⟨by simpa using i1, fun i hi hj => ?_⟩
    cases i with
    | zero => simp only [List.getElem_cons_zero, List.take_zero, List.append_nil, s1]; rfl
    | succ i =>
      simp only [List.getElem_cons_succ, List.take_succ_cons]
      rw [i2 i (by simpa using hi) (by simpa using hj)]
      simp
theorem got_zero (k : Nat) : Got k (List.replicate k t0) [] := by
  refine ⟨by simp, fun t ht => by rw [List.eq_of_mem_replicate ht]; exact begin_ok, fun i hi => ?_, fun t ht => by rw [List.eq_of_mem_replicate ht]; simp [t0], fun t ht => by rw [List.eq_of_mem_replicate ht]; simp [t0]⟩
  rw [List.getElem_replicate]
  exact ⟨fun x => ⟨Or.inl, fun h => h.elim id fun ⟨_, h, _⟩ => absurd h (by simp)⟩, Int.le_refl _, Int.le_refl _, fun s τ _ => ⟨Or.inl, fun h => h.elim id fun ⟨_, ⟨_, h, _⟩, _⟩ => absurd h (by simp)⟩⟩
theorem num_ext (t u : Trk) (ht : TOk t) (hu : TOk u) (h : ∀ x, Num t x ↔ Num u x) : t.next = u.next ∧ t.beyond = u.beyond := by
  obtain ⟨_, _, _, q4⟩ := (sqCheck_zero t).1 ht.sq
  obtain ⟨_, _, _, r4⟩ := (sqCheck_zero u).1 hu.sq
  have q5 := List.pairwise_cons.1 q4
  have r5 := List.pairwise_cons.1 r4
  have hn : t.next = u.next := by
    have a1 : ¬ Num t t.next := by
      rintro (h | h)
      · omega
      · have := q5.1 _ h; omega
    have a2 : ¬ Num u u.next := by
      rintro (h | h)
      · omega
      · have := r5.1 _ h; omega
    have b1 : ¬ t.next < u.next := fun hlt => a1 ((h _).2 (Or.inl hlt))
    have b2 : ¬ u.next < t.next := fun hlt => a2 ((h _).1 (Or.inl hlt))
    omega
  refine ⟨hn, ?_⟩
  have hm : ∀ x, x ∈ t.beyond ↔ x ∈ u.beyond := fun x => by
    constructor
    · intro hx
      rcases (h x).1 (Or.inr hx) with h1 | h1
      · have := q5.1 x hx; omega
      · exact h1
    · intro hx
      rcases (h x).2 (Or.inr hx) with h1 | h1
      · have := r5.1 x hx; omega
      · exact h1
  have key : ∀ (a b : List Int), a.Pairwise (· < ·) → b.Pairwise (· < ·) → (∀ x, x ∈ a ↔ x ∈ b) → a = b := fun a => by
    induction a with
    | nil => intro b _ _ h; cases b with
      | nil => rfl
      | cons y s => exact absurd ((h y).2 (by simp)) (by simp)
    | cons x r ih =>
      intro b ha hb h
      cases b with
      | nil => exact absurd ((h x).1 (by simp)) (by simp)
      | cons y s =>
        obtain ⟨a1, a2⟩ := List.pairwise_cons.1 ha
        obtain ⟨b1, b2⟩ := List.pairwise_cons.1 hb
        have hxy : x = y := by
          rcases List.mem_cons.1 ((h x).1 (by simp)) with h1 | h1
          · exact h1
          · rcases List.mem_cons.1 ((h y).2 (by simp)) with h2 | h2
            · exact h2.symm
            · have := a1 y h2; have := b1 x h1; omega
        subst hxy
        rw [ih s a2 b2 fun z => ?_]
        constructor
        · intro hz
          rcases List.mem_cons.1 ((h z).1 (by simp [hz])) with h1 | h1
          · have := a1 z hz; omega
          · exact h1
        · intro hz
          rcases List.mem_cons.1 ((h z).2 (by simp [hz])) with h1 | h1
          · have := b1 z hz; omega
          · exact h1
  exact key _ _ q5.2 r5.2 hm
/-- The same messages, in any order and any number: the same trackers. -/
theorem got_same {k : Nat} {l l' : List Trk} {d d' : List T_api_Message} (h : Got k l d) (h' : Got k l' d') (hd : ∀ m, m ∈ d ↔ m ∈ d') : l = l' := by
  apply List.ext_getElem (h.len.trans h'.len.symm)
  intro i h1 h2
  have hE : ∀ x, Evs d (i : Int) x ↔ Evs d' (i : Int) x := fun x => ⟨fun ⟨m, a, b⟩ => ⟨m, (hd m).1 a, b⟩, fun ⟨m, a, b⟩ => ⟨m, (hd m).2 a, b⟩⟩
  have hP : ∀ x, PtsM d (i : Int) x ↔ PtsM d' (i : Int) x := fun x => ⟨fun ⟨m, a, b⟩ => ⟨m, (hd m).1 a, b⟩, fun ⟨m, a, b⟩ => ⟨m, (hd m).2 a, b⟩⟩
  have f := h.fwd i h1
  have f' := h'.fwd i h2
  obtain ⟨a, b⟩ := num_ext _ _ (h.ok _ (List.getElem_mem h1)) (h'.ok _ (List.getElem_mem h2)) fun x => by rw [f.num, f'.num, hE]
  refine tok_ext _ _ (h.ok _ (List.getElem_mem h1)) (h'.ok _ (List.getElem_mem h2)) a b fun s τ hs => ?_
  rw [f.forb s τ hs, f'.forb s τ (by omega)]
  simp only [hP]

/-! ### The law -/
theorem comm_l1 (n : Nat) (bs : List Int) (ms : List T_api_Message) (hbs : ∀ b ∈ bs, 0 ≤ b ∧ b < 256) (hlb : bs.length ≤ 1000) (hlm : ms.length ≤ 1000) (K : List T_api_Message → Option Bool) (hK : ∀ acc, (∀ m ∈ acc, m ∈ ms) → acc.length ≤ bs.length → K acc = some true) :
    ∀ (f k : Nat) (acc : List T_api_Message), k ≤ bs.length → bs.length < f + k → acc.length ≤ k → (∀ m ∈ acc, m ∈ ms) → F_tidegatelaw36_WatermarkCommutes_l1 n bs ms K f ((k : Int), acc) = some true
  | 0, k, acc, h1, h2, h3, h4 => by omega
  | f + 1, k, acc, h1, h2, h3, h4 => by
    rw [F_tidegatelaw36_WatermarkCommutes_l1]
    simp only [cnd_if, List.length_map]
    by_cases hk : k < bs.length
    · rw [if_pos (by omega)]
      by_cases hm : (0 : Int) < (ms.length : Int)
      · rw [if_pos hm, idx_nat hk, nzx_ok (by omega), wrapS k (by omega)]
        have hb := hbs _ (List.getElem_mem hk)
        obtain ⟨b, hb'⟩ : ∃ b : Nat, bs[k] = (b : Int) := ⟨bs[k].toNat, by omega⟩
        rw [wrap_in _ (by omega), hb', ← Int.ofNat_tmod]
        have hlt : b % ms.length < ms.length := Nat.mod_lt _ (by omega)
        rw [idx_nat hlt, app_ok (by simp; omega) (by omega)]
        refine comm_l1 n bs ms hbs hlb hlm K hK f (k + 1) _ (by omega) (by omega) (by simp; omega) (fun m hm => ?_)
        rcases List.mem_append.1 hm with h | h
        · exact h4 m h
        · rw [List.mem_singleton.1 h]; exact List.getElem_mem hlt
      · rw [if_neg hm]; exact hK acc h4 (by omega)
    · rw [if_neg (by omega)]; exact hK acc h4 (by omega)
theorem comm_l2 (n : Nat) (ms : List T_api_Message) (hlm : ms.length ≤ 1000) (K : List T_api_Message → Option Bool) : ∀ (f k : Nat) (acc : List T_api_Message), k ≤ ms.length → k < f → acc.length + k ≤ 10000 →
    F_tidegatelaw36_WatermarkCommutes_l2 n ms K f ((k : Int) - 1, acc) = K (acc ++ (ms.take k).reverse)
  | 0, k, acc, h1, h2, h3 => by omega
  | f + 1, k, acc, h1, h2, h3 => by
    rw [F_tidegatelaw36_WatermarkCommutes_l2]
    simp only [cnd_if]
    cases k with
    | zero => rw [if_neg (by omega)]; simp
    | succ k =>
      have hk : k < ms.length := by omega
      have e : (((k + 1 : Nat) : Int) - 1) = (k : Int) := by omega
      rw [e, if_pos (by omega), idx_nat hk, app_ok (by simp; omega) (by omega), wrap_in _ (by omega), comm_l2 n ms hlm K f k _ (by omega) (by omega) (by simp; omega), List.take_succ_eq_append_getElem hk, List.reverse_append, List.append_assoc]
      rfl
def sameM (m m' : T_api_Message) : Bool := decide (m'.fKind = 0) && (decide (m'.fEvent.fSource = m.fEvent.fSource) && decide (m'.fEvent.fSeq = m.fEvent.fSeq))
theorem comm_l4 (n : Nat) (ms : List T_api_Message) (fl : List Bool) (i : Nat) (hi : i < ms.length) (hlm : ms.length ≤ 1000) (K : Bool → Option Bool) : ∀ (f k : Nat) (w : Bool), k ≤ i → i < f + k →
    F_tidegatelaw36_WatermarkCommutes_l4 n ms (fl, (i : Int)) K f (w, (k : Int)) = K (w && !((ms.take i).drop k).any (sameM ms[i]))
  | 0, k, w, h1, h2 => by omega
  | f + 1, k, w, h1, h2 => by
    rw [F_tidegatelaw36_WatermarkCommutes_l4]
    simp only [cnd_if]
    by_cases hk : k < i
    · have hkm : k < ms.length := by omega
      have hkt : k < (ms.take i).length := by simp; omega
      have hg : (ms.take i)[k] = ms[k] := List.getElem_take
      have ih := fun w => comm_l4 n ms fl i hi hlm K f (k + 1) w (by omega) (by omega)
      rw [if_pos (by omega), drop_cons (ms.take i) k hkt, List.any_cons, hg, wrapS k (by omega), ih, ih]
      simp only [idx_nat hkm, idx_nat hi]
      unfold sameM
      by_cases c1 : ms[k].fKind = 0
      · by_cases c2 : ms[k].fEvent.fSource = ms[i].fEvent.fSource
        · by_cases c3 : ms[k].fEvent.fSeq = ms[i].fEvent.fSeq
          · simp [c1, c2, c3]
          · simp [c1, c2, c3]
        · simp [c1, c2]
      · simp [c1]
    · have : k = i := by omega
      rw [if_neg (by omega), List.drop_eq_nil_of_le (by simp; omega)]
      simp
theorem newB_eq (d : List T_api_Message) (m : T_api_Message) : newB d m = (decide (m.fKind = 0) && !d.any (sameM m)) := by
  unfold newB
  by_cases h : m.fKind = 0
  · have hm : srcOf m = m.fEvent.fSource := if_pos h
    have : (fun m' : T_api_Message => decide (m'.fKind = 0) && (decide (srcOf m' = srcOf m) && decide (m'.fEvent.fSeq = m.fEvent.fSeq))) = sameM m := by
      funext m'
      unfold sameM
      by_cases h' : m'.fKind = 0
      · rw [hm, show srcOf m' = m'.fEvent.fSource from if_pos h']
      · simp [h']
    rw [this]
  · simp [h]
theorem comm_l3 (n : Nat) (ms : List T_api_Message) (fl : List Bool) (hlm : ms.length ≤ 1000) (hn : 2000 ≤ n) (hfl : fl.length = ms.length) (hf : ∀ i (hi : i < ms.length) (hj : i < fl.length), fl[i] = newB (ms.take i) ms[i]) (K : Option Bool) (hK : K = some true) :
    ∀ (f k : Nat), k ≤ ms.length → ms.length < f + k → F_tidegatelaw36_WatermarkCommutes_l3 n ms K f (fl, (k : Int)) = some true
  | 0, k, h1, h2 => by omega
  | f + 1, k, h1, h2 => by
    rw [F_tidegatelaw36_WatermarkCommutes_l3]
    simp only [cnd_if, List.length_map]
    by_cases hk : k < ms.length
    · have hj : k < fl.length := by omega
      have h4 := comm_l4 n ms fl k hk hlm (fun y => idx fl (k : Int) fun x => cnd (!(x == y)) (some false) (F_tidegatelaw36_WatermarkCommutes_l3 n ms K f (fl, IntKind.wrap .i64 ((k : Int) + 1)))) n 0 (decide (ms[k].fKind = 0)) (by omega) (by omega)
      simp only [Int.natCast_zero, List.drop_zero] at h4
      rw [if_pos (by omega), idx_nat hk, h4, ← newB_eq, idx_nat hj, hf k hk hj, wrapS k (by omega)]
      simp only [beq_self_eq_true, Bool.not_true, cnd_f]
      exact comm_l3 n ms fl hlm hn hfl hf K hK f (k + 1) (by omega) (by omega)
    · rw [if_neg (by omega)]; exact hK
theorem law_commutes (ms : List T_api_Message) (bs : List Int) (hbs : ∀ b ∈ bs, 0 ≤ b ∧ b < 256) : F_tidegatelaw36_WatermarkCommutes 100000 ms bs = some true := by
  unfold F_tidegatelaw36_WatermarkCommutes
  rw [awake36]
  simp only [bnd_some, List.length_map, cnd_if, cnd_t, cnd_not]
  by_cases h14 : (14 : Int) < (ms.length : Int)
  · rw [if_pos h14]
  rw [if_neg h14, p_honest _ _ _ (by omega) (by omega), bnd_some]
  cases hh : honB 3 ms with
  | false => rw [cnd_f]
  | true =>
    have hH := honB_hon 3 ms hh
    rw [cnd_t]
    by_cases h20 : (20 : Int) < (bs.length : Int)
    · rw [if_pos h20]
    rw [if_neg h20]
    have := comm_l1 100000 bs ms hbs (by omega) (by omega)
    refine this _ (fun acc ha hl => ?_) 100000 0 [] (by omega) (by omega) (by simp) (by simp)
    rw [wrap_in _ (by omega), comm_l2 _ ms (by omega) _ _ _ _ (Nat.le_refl _) (by omega) (by omega), List.take_length]
    have hlen : (acc ++ ms.reverse).length ≤ 40 := by simp; omega
    rw [p_run _ _ _ (by omega), bnd_some, frz_eq, reg_eq, p_run _ _ _ (by omega), bnd_some, show (3 : Int) = ((3 : Nat) : Int) from rfl, runT_ok 3 ms (by omega) (by omega), runT_ok 3 (acc ++ ms.reverse) (by omega) (by omega)]
    obtain ⟨g1, _⟩ := got_run hH (by omega) ms [] _ (got_zero 3) (by simp) (fun m h => h) (by simp; omega)
    obtain ⟨g2, g3⟩ := got_run hH (by omega) (acc ++ ms.reverse) [] _ (got_zero 3) (by simp) (fun m h => by
      rcases List.mem_append.1 h with h | h
      · exact ha m h
      · exact List.mem_reverse.1 h) (by rw [List.length_nil]; omega)
    have hs := got_same g1 g2 (fun m => by
      simp only [List.nil_append, List.mem_append, List.mem_reverse]
      exact ⟨Or.inr, fun h => h.elim (ha m) id⟩)
    obtain ⟨ht, hl3⟩ := run_state 3 ms
    simp only [runS_len, if_true]
    rw [← hs, p_same_ok _ (by omega) ht, bnd_some, cnd_t]
    exact comm_l3 100000 (acc ++ ms.reverse) _ (by omega) (by omega) (runS_len _ _) (fun i hi hj => by rw [g3 i hi hj]; simp) _ rfl 100000 0 (by omega) (by omega)
end Go.Proofs.Ythhnhajldhnfmaa
