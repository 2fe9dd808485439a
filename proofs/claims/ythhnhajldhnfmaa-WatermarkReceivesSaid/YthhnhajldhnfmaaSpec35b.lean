/- Plain laws of layer 35: checked trackers are sorted; where a punctuation is put. -/
import Derived.Test.YthhnhajldhnfmaaSpec35
set_option linter.unusedVariables false
set_option linter.unusedSimpArgs false
namespace Go.Proofs.Ythhnhajldhnfmaa
open Go.RowKit

def PtOk (p : Pt) : Prop := 0 ≤ p.seq ∧ p.seq ≤ 1099511627777 ∧ 0 ≤ p.time ∧ p.time ≤ 1099511627776
theorem ptValid_iff (p : Pt) : ptValid p = true ↔ PtOk p := by simp [ptValid, PtOk]
def Asc2 (a b : Pt) : Prop := a.seq < b.seq ∧ a.time < b.time

theorem ascLoop_zero (last : Pt) (l : List Pt) : ascLoop last l = 0 ↔ (∀ p ∈ l, PtOk p) ∧ (last :: l).Pairwise Asc2 := by
  induction l generalizing last with
  | nil => simp [ascLoop]
  | cons x r ih =>
    unfold ascLoop
    by_cases hv : ptValid x = true
    · rw [if_neg (by simp [hv])]
      by_cases ho : x.seq ≤ last.seq ∨ x.time ≤ last.time
      · rw [if_pos ho]
        constructor
        · intro h; omega
        · rintro ⟨_, h⟩
          have := (List.pairwise_cons.1 h).1 x (by simp)
          unfold Asc2 at this
          omega
      · rw [if_neg ho, ih]
        have hx := (ptValid_iff x).1 hv
        have hlx : Asc2 last x := by unfold Asc2; omega
        constructor
        · rintro ⟨h1, h2⟩
          refine ⟨fun p hp => ?_, ?_⟩
          · rcases List.mem_cons.1 hp with rfl | hp
            · exact hx
            · exact h1 p hp
          · refine List.pairwise_cons.2 ⟨fun p hp => ?_, h2⟩
            rcases List.mem_cons.1 hp with rfl | hp
            · exact hlx
            · have := (List.pairwise_cons.1 h2).1 p hp
              unfold Asc2 at *
              omega
        · rintro ⟨h1, h2⟩
          exact ⟨fun p hp => h1 p (by simp [hp]), (List.pairwise_cons.1 h2).2⟩
    · rw [if_pos (by simpa using hv)]
      constructor
      · intro h; omega
      · rintro ⟨h, _⟩
        exact absurd ((ptValid_iff x).2 (h x (by simp))) hv

/-- What a tracker is that Check accepts (layer 35). -/
structure TOk (t : Trk) : Prop where
  sq : sqCheck t = 0
  mark : -1 ≤ t.mark ∧ t.mark ≤ 1099511627776
  len : t.points.length ≤ 256
  ok : ∀ p ∈ t.points, PtOk p
  asc : (⟨t.next, t.mark⟩ :: t.points).Pairwise Asc2

theorem puCheck_zero (t : Trk) : puCheck t = 0 ↔ TOk t := by
  unfold puCheck Go.Proofs.Ythhnhajldhnfmaa.asc
  constructor
  · intro h
    split at h
    · contradiction
    · rename_i hs
      split at h
      · omega
      · split at h
        · omega
        · obtain ⟨h1, h2⟩ := (ascLoop_zero _ _).1 h
          exact ⟨by simpa using hs, by omega, by omega, h1, h2⟩
  · intro h
    rw [if_neg (by simp [h.sq]), if_neg (by have := h.mark; omega), if_neg (by have := h.len; omega)]
    exact (ascLoop_zero _ _).2 ⟨h.ok, h.asc⟩

theorem below_lt (l : List Pt) (s : Int) (h : l.Pairwise fun a b => a.seq < b.seq) : ∀ k (hk : k < l.length), l[k].seq < s ↔ k < below l s := by
  induction l with
  | nil => intro k hk; simp at hk
  | cons x r ih =>
    intro k hk
    have h' := List.pairwise_cons.1 h
    unfold below
    by_cases hx : x.seq < s
    · rw [List.filter_cons_of_pos (by simpa using hx), List.length_cons]
      cases k with
      | zero => simp [hx]
      | succ k => simpa [below] using ih h'.2 k (by simpa using hk)
    · rw [List.filter_cons_of_neg (by simpa using hx)]
      have hall : r.filter (fun p => decide (p.seq < s)) = [] := by
        rw [List.filter_eq_nil_iff]
        intro p hp
        have := h'.1 p hp
        simp; omega
      rw [hall]
      cases k with
      | zero => simp [hx]
      | succ k =>
        have hk' : k < r.length := by simpa using hk
        have := h'.1 r[k] (List.getElem_mem hk')
        simp; omega
theorem below_le (l : List Pt) (s : Int) : below l s ≤ l.length := List.length_filter_le _ _

theorem add_mono (t : Trk) (p : Pt) (q : Pt → Bool) (h : puCheck t = 0) (hp : ptValid p = true) : ∀ k (hk : k < (t.points.filter q).length), wrap64 ((t.points.filter q)[k].seq - p.seq) < 0 ↔ k < below (t.points.filter q) p.seq := by
  intro k hk
  have ht := (puCheck_zero t).1 h
  have hps := (ptValid_iff p).1 hp
  have hpw : (t.points.filter q).Pairwise fun a b => a.seq < b.seq := ((List.pairwise_cons.1 ht.asc).2.imp fun h => h.1).filter q
  have hmem := List.getElem_mem hk
  have hok := ht.ok _ (List.mem_filter.1 hmem).1
  rw [← below_lt _ _ hpw k hk]
  unfold PtOk at *
  have hw : wrap64 ((t.points.filter q)[k].seq - p.seq) = (t.points.filter q)[k].seq - p.seq := IntWalk.wrap64_in _ (by omega)
  rw [hw]
  omega

end Go.Proofs.Ythhnhajldhnfmaa
