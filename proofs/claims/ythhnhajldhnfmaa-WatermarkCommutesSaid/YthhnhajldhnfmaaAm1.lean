/- Contracts by the abstract walk: layers 34 and 35. -/
import Derived.Test.YthhnhajldhnfmaaTab
import Derived.Test.YthhnhajldhnfmaaSpec35
set_option linter.unusedVariables false
set_option linter.unusedSimpArgs false
namespace Go.Proofs.Ythhnhajldhnfmaa
open Go.RowKit

def aI (n : Int) : AV := .int .i64 n
def aPt (p : Pt) : AV := .agg [aI p.seq, aI p.time]
def aInts (l : List Int) : AV := .sl 1 (l.map aI)
def aPts (l : List Pt) : AV := .sl 2 (l.map aPt)
def aTrk (t : Trk) : AV := .agg [aI t.next, aInts t.beyond, aPts t.points, aI t.mark]

theorem wrap_in (n : Int) (h : -9223372036854775808 ≤ n ∧ n ≤ 9223372036854775807) : IntKind.i64.wrap n = n := IntWalk.i64_in _ h
theorem ret_i {a b : Int} {v : AV} (h : a = b) (hv : v = aI a) : RetX v (aI b) := RetX.mk (hv.trans (congrArg aI h))

set_option maxRecDepth 100000 in
theorem implies_con (a b : Pt) : Con E0 true 21 [aPt a, aPt b] (.bool (implies a b)) := by
  refine Con.walk _ Try.func21 rfl (enters_of Try.func21 rfl rfl) rfl (Or.inr rfl) ?_
  refine AW.step ?_; conv => whnf
  repeat' (first | ((with_reducible refine CondX.t ?_); refine AW.step ?_; conv => whnf) | ((with_reducible refine CondX.f ?_); refine AW.step ?_; conv => whnf) | (refine CondX.mk (fun h => ?_) (fun h => ?_) <;> (refine AW.step ?_; conv => whnf)))
  all_goals (refine RetX.mk (congrArg AV.bool ?_); simp_all [implies] <;> omega)
def sqS (lb : List Int) (k : Nat) (last : Int) : AS := ⟨[(3, aI last), (23, aInts lb), (24, aI lb.length), (25, aI k)], []⟩
set_option maxRecDepth 100000 in
theorem sqCheck_con (t : Trk) (hl : t.beyond.length ≤ 1000000000) : Con E0 true 83 [aTrk t] (aI (sqCheck t)) := by
  obtain ⟨next, lb, l, mark⟩ := t
  refine Con.walk _ Try.func83 rfl (enters_of Try.func83 rfl rfl) rfl (Or.inr rfl) ?_
  dsimp only at hl
  refine AW.step ?_; conv => whnf
  repeat' (first | ((with_reducible refine CondX.t ?_); refine AW.step ?_; conv => whnf) | ((with_reducible refine CondX.f ?_); refine AW.step ?_; conv => whnf) | (refine CondX.mk (fun h => ?_) (fun h => ?_) <;> (refine AW.step ?_; conv => whnf)))
  all_goals simp only [decide_eq_true_eq, decide_eq_false_iff_not, List.length_map] at *
  · exact ret_i (by unfold sqCheck; rw [if_pos (by simp; omega)]) rfl
  · exact ret_i (by unfold sqCheck; rw [if_pos (by simp; omega)]) rfl
  · exact ret_i (by unfold sqCheck; rw [if_neg (by simp; omega), if_pos (by simp at *; omega)]) rfl
  · have hres : sqCheck ⟨next, lb, l, mark⟩ = sqLoop next lb := by unfold sqCheck; rw [if_neg (by simp; omega), if_neg (by simp at *; omega)]
    rw [hres]
    clear hres
    generalize hres : sqLoop next lb = res
    refine LoopX.mk (fun n σ => ∃ (k : Nat) (last : Int), n = lb.length - k ∧ k ≤ lb.length ∧ sqLoop last (lb.drop k) = res ∧ σ = sqS lb k last) lb.length (sqS lb 0 next) (LeX.of [] rfl ⟨⟨rfl, rfl⟩, ⟨rfl, rfl⟩, ⟨rfl, rfl⟩, ⟨rfl, rfl⟩, trivial⟩ trivial) ⟨0, next, by simp, by omega, hres, rfl⟩ ?_
    rintro n σ ⟨k, last, rfl, hk, hs, rfl⟩
    by_cases hlt : k < lb.length
    · refine AW.step ?_; conv => whnf
      refine CondX.mk (fun h => ?_) (fun h => by simp at h; omega)
      refine AW.step ?_; conv => whnf
      refine IdxX.mk k (aI lb[k]) rfl (by simp [hlt]) ?_
      refine AW.step ?_; conv => whnf
      repeat' (first | ((with_reducible refine CondX.t ?_); refine AW.step ?_; conv => whnf) | ((with_reducible refine CondX.f ?_); refine AW.step ?_; conv => whnf) | (refine CondX.mk (fun h => ?_) (fun h => ?_) <;> (refine AW.step ?_; conv => whnf)))
      all_goals try (refine AW.step ?_; conv => whnf)
      all_goals simp only [decide_eq_true_eq, decide_eq_false_iff_not, List.length_map] at *
      all_goals rw [drop_cons lb k hlt] at hs; unfold sqLoop at hs
      · exact ret_i (by rw [← hs, if_pos (by omega)]) rfl
      · exact ret_i (by rw [← hs, if_pos (by omega)]) rfl
      · exact ret_i (by rw [← hs, if_neg (by omega), if_pos (by omega)]) rfl
      · rw [if_neg (by omega), if_neg (by omega)] at hs
        exact ⟨lb.length - (k + 1), sqS lb (k + 1) lb[k], LeX.of [] rfl ⟨⟨rfl, rfl⟩, ⟨rfl, rfl⟩, ⟨rfl, rfl⟩, ⟨congrArg aI (wrap_in (↑k + 1) (by omega)), rfl⟩, trivial⟩ trivial, by omega, k + 1, lb[k], rfl, by omega, hs, rfl⟩
    · refine AW.step ?_; conv => whnf
      refine CondX.mk (fun h => by simp at h; omega) (fun h => ?_)
      refine AW.step ?_; conv => whnf
      try (refine AW.step ?_; conv => whnf)
      rw [List.drop_eq_nil_of_le (by omega)] at hs
      exact ret_i (by rw [← hs]; rfl) rfl
end Go.Proofs.Ythhnhajldhnfmaa
