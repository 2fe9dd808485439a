/- Chapter 36: plain functions and plain laws. -/
import Derived.Test.YthhnhajldhnfmaaAm1
import Derived.Test.YthhnhajldhnfmaaSpec35c
set_option linter.unusedVariables false
set_option linter.unusedSimpArgs false
namespace Go.Proofs.Ythhnhajldhnfmaa
open Go.RowKit

def aTrks (l : List Trk) : AV := .sl 4 (l.map aTrk)
def fewT (t : Trk) : Bool := decide (t.beyond.length ≤ 300) && decide (t.points.length ≤ 300)
def few36 (l : List Trk) : Bool := (l.take 12).all fewT && decide (l.length ≤ 12)
def wChecks : List Trk → Int
  | [] => 0
  | t :: r => if puCheck t ≠ 0 then puCheck t else wChecks r
def wCheck (l : List Trk) : Int := if 8 < l.length then 5 else wChecks l
theorem wChecks_drop (l : List Trk) (k : Nat) (h : k < l.length) : wChecks (l.drop k) = if puCheck l[k] ≠ 0 then puCheck l[k] else wChecks (l.drop (k + 1)) := by
  rw [drop_cons l k h]; rfl
def leastOf (l : List Trk) : Int := l.foldl (fun m t => min m t.mark) 1099511627776
/-- The index of the first least mark among the first k; -1 without any. -/
def leastAt (l : List Trk) : Nat → Int
  | 0 => -1
  | k + 1 => if leastAt l k < 0 ∨ (l.getD k zeroT).mark < (l.getD (leastAt l k).toNat zeroT).mark then k else leastAt l k
def leastIx (l : List Trk) : Int := leastAt l l.length
theorem leastAt_range (l : List Trk) (k : Nat) : (k = 0 ∧ leastAt l k = -1) ∨ (0 < k ∧ 0 ≤ leastAt l k ∧ leastAt l k < k) := by
  induction k with
  | zero => exact Or.inl ⟨rfl, rfl⟩
  | succ k ih =>
    refine Or.inr ⟨by omega, ?_⟩
    unfold leastAt
    split
    · omega
    · rcases ih with ⟨rfl, h⟩ | ih
      · rename_i hn; rw [h] at hn; simp at hn
      · omega
/-- The least mark, or the greatest time. -/
theorem leastAt_min (l : List Trk) (k : Nat) (hk : k ≤ l.length) (h0 : 0 < k) : ∀ i, i < k → (l.getD (leastAt l k).toNat zeroT).mark ≤ (l.getD i zeroT).mark := by
  induction k with
  | zero => omega
  | succ k ih =>
    intro i hi
    have hr := leastAt_range l k
    unfold leastAt
    split
    · rename_i h
      rcases Nat.eq_zero_or_pos k with rfl | hpos
      · have : i = 0 := by omega
        subst this
        simp
      · have := ih (by omega) hpos
        simp only [Int.toNat_natCast]
        by_cases hik : i = k
        · subst hik; exact Int.le_refl _
        · have := this i (by omega)
          omega
    · rename_i h
      have hpos : 0 < k := by
        rcases hr with ⟨rfl, h1⟩ | h1
        · rw [h1] at h; simp at h
        · exact h1.1
      by_cases hik : i = k
      · subst hik; omega
      · exact ih (by omega) hpos i (by omega)
def wGlobal (l : List Trk) : Int × Int := if wCheck l ≠ 0 then (0, wCheck l) else (leastOf l, 0)
def wGlobalP (l : List Trk) : Int × Int := if wCheck l ≠ 0 then (0, wCheck l) else (if 0 ≤ leastIx l then (l.getD (leastIx l).toNat zeroT).mark else 1099511627776, 0)
theorem wCheck_len (l : List Trk) (h : wCheck l = 0) : l.length ≤ 8 := by
  unfold wCheck at h
  split at h
  · simp at h
  · omega
theorem foldl_min (l : List Trk) (m : Int) : (∀ t ∈ l, l.foldl (fun m t => min m t.mark) m ≤ t.mark) ∧ l.foldl (fun m t => min m t.mark) m ≤ m ∧ (l.foldl (fun m t => min m t.mark) m = m ∨ ∃ t ∈ l, l.foldl (fun m t => min m t.mark) m = t.mark) := by
  induction l generalizing m with
  | nil => exact ⟨fun t h => by simp at h, Int.le_refl _, Or.inl rfl⟩
  | cons x r ih =>
    obtain ⟨h1, h2, h3⟩ := ih (min m x.mark)
    simp only [List.foldl_cons]
    refine ⟨fun t ht => ?_, by omega, ?_⟩
    · rcases List.mem_cons.1 ht with rfl | ht
      · omega
      · exact h1 t ht
    · rcases h3 with h3 | ⟨t, ht, h3⟩
      · rcases Int.le_total m x.mark with hm | hm
        · exact Or.inl (by rw [h3, Int.min_eq_left hm])
        · exact Or.inr ⟨x, by simp, by rw [h3, Int.min_eq_right hm]⟩
      · exact Or.inr ⟨t, by simp [ht], h3⟩
theorem wChecks_zero (l : List Trk) : wChecks l = 0 ↔ ∀ t ∈ l, puCheck t = 0 := by
  induction l with
  | nil => simp [wChecks]
  | cons x r ih =>
    unfold wChecks
    by_cases h : puCheck x = 0
    · rw [if_neg (by simp [h]), ih]; simp [h]
    · rw [if_pos h]; simp [h]
theorem wCheck_zero (l : List Trk) : wCheck l = 0 ↔ l.length ≤ 8 ∧ ∀ t ∈ l, TOk t := by
  unfold wCheck
  split
  · constructor
    · intro h; simp at h
    · intro h; omega
  · rw [wChecks_zero]
    exact ⟨fun h => ⟨by omega, fun t ht => (puCheck_zero t).1 (h t ht)⟩, fun h t ht => (puCheck_zero t).2 (h.2 t ht)⟩
theorem wGlobal_eq (l : List Trk) : wGlobalP l = wGlobal l := by
  unfold wGlobalP wGlobal
  by_cases h : wCheck l = 0
  · have hne : ¬ wCheck l ≠ 0 := by simp [h]
    simp only [if_neg hne]
    obtain ⟨hl, hok⟩ := (wCheck_zero l).1 h
    obtain ⟨f1, f2, f3⟩ := foldl_min l 1099511627776
    have hr : (l.length = 0 ∧ leastIx l = -1) ∨ (0 < l.length ∧ 0 ≤ leastIx l ∧ leastIx l < l.length) := leastAt_range l l.length
    rcases hr with ⟨h0, h1⟩ | ⟨h0, h1, h2⟩
    · have : l = [] := List.length_eq_zero_iff.1 h0
      subst this
      rw [if_neg (by rw [h1]; omega)]; rfl
    · rw [if_pos h1]
      have hm := leastAt_min l l.length (Nat.le_refl _) h0
      have hj : (leastIx l).toNat < l.length := by omega
      have hg : l.getD (leastIx l).toNat zeroT = l[(leastIx l).toNat] := by simp [hj]
      have hin : l[(leastIx l).toNat] ∈ l := List.getElem_mem _
      have q1 := f1 _ hin
      have q2 := (hok _ hin).mark
      have : (l.getD (leastIx l).toNat zeroT).mark = leastOf l := by
        unfold leastOf
        rw [hg]
        rcases f3 with f3 | ⟨t, ht, f3⟩
        · omega
        · obtain ⟨i, hi, rfl⟩ := List.getElem_of_mem ht
          have q3 := hm i hi
          have e1 : l.getD (leastAt l l.length).toNat zeroT = l[(leastIx l).toNat] := hg
          rw [e1, show l.getD i zeroT = l[i] by simp [hi]] at q3
          omega
      rw [this]
  · rw [if_pos h, if_pos h]
def aIv (p : Int × Int) : AV := .agg [aI p.1, aI p.2]
def aIvs (l : List (Int × Int)) : AV := .sl 2 (l.map aIv)
def lack (seq : Int) : Int → List Int → List (Int × Int)
  | a, [] => if a < seq then [(a, seq - 1)] else []
  | a, b :: r => (if a < min seq b then [(a, min seq b - 1)] else []) ++ lack seq (b + 1) r
def miss (til : Int) : Int → List Int → List (Int × Int)
  | _, [] => []
  | a, n :: r => (if a < min n til then [(a, min n til - 1)] else []) ++ miss til (max a (min n til + 1)) r
theorem miss_none (til a : Int) (l : List Int) (h : til ≤ a) : miss til a l = [] := by
  induction l generalizing a with
  | nil => rfl
  | cons n r ih =>
    unfold miss
    rw [if_neg (by omega), ih _ (by omega)]; rfl
theorem lack_none (til a : Int) (l : List Int) (h : til ≤ a) (hl : ∀ b ∈ l, til ≤ b + 1) : lack til a l = [] := by
  induction l generalizing a with
  | nil => unfold lack; rw [if_neg (by omega)]
  | cons n r ih =>
    unfold lack
    rw [if_neg (by omega), ih _ (hl n (by simp)) (fun b hb => hl b (by simp [hb]))]; rfl
theorem lack_miss (til a : Int) (l : List Int) (h0 : ∀ b ∈ l, a ≤ b) (h : l.Pairwise (· < ·)) : lack til a l = miss til a (l ++ [til]) := by
  induction l generalizing a with
  | nil => simp [lack, miss]
  | cons n r ih =>
    have ha := h0 n (by simp)
    obtain ⟨h3, h4⟩ := List.pairwise_cons.1 h
    simp only [List.cons_append, lack, miss]
    rw [Int.min_comm til n]
    congr 1
    by_cases hn : n < til
    · rw [show max a (min n til + 1) = n + 1 by omega]
      exact ih _ (fun x hx => by have := h3 x hx; omega) h4
    · rw [miss_none _ _ _ (by omega), lack_none _ _ _ (by omega) (fun b hb => by have := h3 b hb; omega)]
theorem lack_len (seq a : Int) (l : List Int) : (lack seq a l).length ≤ l.length + 1 := by
  induction l generalizing a with
  | nil => unfold lack; split <;> simp
  | cons b r ih =>
    unfold lack
    have := ih (b + 1)
    split <;> simp <;> omega
end Go.Proofs.Ythhnhajldhnfmaa
