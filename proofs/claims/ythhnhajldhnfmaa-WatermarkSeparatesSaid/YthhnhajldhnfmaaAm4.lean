/- The laws of layer 35, by the abstract walk: Adds, Grows, Implied, Commutes. -/
import Derived.Test.YthhnhajldhnfmaaAm3
set_option linter.unusedVariables false
set_option linter.unusedSimpArgs false
namespace Go.Proofs.Ythhnhajldhnfmaa
open Go.RowKit

theorem sub_zero : Sub (.agg [.int .i64 0, .nils, .nils, .int .i64 0]) (aTrk zeroT) := .agg (.cons (.refl _) (.cons (.nil 1) (.cons (.nil 2) (.cons (.refl _) .nil))))
set_option maxRecDepth 100000 in
theorem radd_con (t : Trk) (p : Pt) (hl : t.points.length ≤ 1000000) : Con E0 false 24 [aTrk t, aPt p] (.tup [aTrk (addR t p).1, aI (addR t p).2]) := by
  refine Con.walk _ Try.func24 rfl (enters_of Try.func24 rfl rfl) rfl (Or.inl rfl) ?_
  refine AW.step ?_; conv => whnf
  refine CallX.mk _ _ (rpuCheck_con t) ?_
  refine AW.step ?_; conv => whnf
  refine CondX.mk (fun h => ?_) (fun h => ?_) <;> (refine AW.step ?_; conv => whnf)
  · have e : addR t p = (zeroT, puCheck t) := by unfold addR; rw [if_pos (by simpa using h)]
    rw [e]
    exact .sub (.tup (.cons sub_zero (.cons (.refl _) .nil)))
  have h1 : puCheck t = 0 := by simpa using h
  refine CallX.mk _ _ (rvalid_con p) ?_
  refine AW.step ?_; conv => whnf
  refine CondX.mk (fun h => ?_) (fun h => ?_) <;> (refine AW.step ?_; conv => whnf)
  · have e : addR t p = (zeroT, 2) := by unfold addR; rw [if_neg (by simp [h1]), if_pos (by simpa using h)]
    rw [e]
    exact .sub (.tup (.cons sub_zero (.cons (.refl _) .nil)))
  have h2 : ptValid p = true := by simpa using h
  refine CallX.mk _ _ (with_con t p hl) ?_
  refine AW.step ?_; conv => whnf
  refine CondX.mk (fun h => ?_) (fun h => ?_) <;> (refine AW.step ?_; conv => whnf)
  · have e : addR t p = (zeroT, 5) := by unfold addR; rw [if_neg (by simp [h1]), if_neg (by simp [h2]), if_pos (by simp at h; omega)]
    rw [e]
    exact .sub (.tup (.cons sub_zero (.cons (.refl _) .nil)))
  · have e : addR t p = (withR t p, 0) := by unfold addR; rw [if_neg (by simp [h1]), if_neg (by simp [h2]), if_neg (by simp at h; omega)]
    rw [e]
    exact RetX.mk rfl

theorem few_true {t : Trk} (h : (decide (t.beyond.length ≤ 300) && decide (t.points.length ≤ 300)) = true) : t.beyond.length ≤ 300 ∧ t.points.length ≤ 300 := by simpa using h

theorem add_small (t : Trk) (p : Pt) (h1 : t.beyond.length ≤ 300) (h2 : t.points.length ≤ 400) : (addT t p).1.beyond.length ≤ 300 ∧ (addT t p).1.points.length ≤ 401 := by
  have hfl := List.length_filter_le (fun x => !implies p x) t.points
  unfold addT
  split
  · simp [zeroT]
  split
  · simp [zeroT]
  split
  · exact ⟨h1, by show t.points.length ≤ 401; omega⟩
  split
  · exact ⟨h1, by show (List.filter _ _).length ≤ 401; omega⟩
  split
  · simp [zeroT]
  · refine ⟨h1, ?_⟩
    simp only [List.length_append, List.length_cons, List.length_take, List.length_drop]
    omega
set_option maxRecDepth 100000 in
set_option maxHeartbeats 1600000 in
theorem adds_con (t : Trk) (p : Pt) : Con E0 true 4 [aTrk t, aPt p] (.bool true) := by
  refine Con.walk _ Try.func4 rfl (enters_of Try.func4 rfl rfl) rfl (Or.inr rfl) ?_
  refine AW.step ?_; conv => whnf
  refine CallX.mk _ _ (few_con t) ?_
  refine AW.step ?_; conv => whnf
  refine CondX.mk (fun h => ?_) (fun h => ?_) <;> (refine AW.step ?_; conv => whnf)
  · refine CallX.mk _ _ awake_con ?_
    refine AW.step ?_; conv => whnf
    exact RetX.mk rfl
  have hf := few_true (t := t) (by simpa using h)
  have hu := add_small t p (by omega) (by omega)
  refine CallX.mk _ _ (add_con t p (by omega) (by omega)) ?_
  refine AW.step ?_; conv => whnf
  refine CallX.mk _ _ (radd_con t p (by omega)) ?_
  refine AW.step ?_; conv => whnf
  rw [addR_eq]
  repeat' (first
    | ((with_reducible refine CondX.t ?_); refine AW.step ?_; conv => whnf)
    | ((with_reducible refine CondX.f ?_); refine AW.step ?_; conv => whnf)
    | (refine CallX.mk _ _ awake_con ?_; refine AW.step ?_; conv => whnf)
    | (refine CallX.mk _ _ (same_con (addT t p).1 (addT t p).1 (by omega) (by omega)) ?_; refine AW.step ?_; conv => whnf)
    | (refine And.intro ⟨by kernel_rfl, by kernel_rfl⟩ ?_; refine AW.step ?_; conv => whnf)
    | (refine CondX.mk (fun h => ?_) (fun h => ?_) <;> (refine AW.step ?_; conv => whnf)))
  · exact RetX.mk (by simp)
  · simp at h
end Go.Proofs.Ythhnhajldhnfmaa
