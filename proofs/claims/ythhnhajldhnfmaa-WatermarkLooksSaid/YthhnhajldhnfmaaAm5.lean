/- The laws of layer 35, by the abstract walk: Grows. -/
import Derived.Test.YthhnhajldhnfmaaAm4
set_option linter.unusedVariables false
set_option linter.unusedSimpArgs false
namespace Go.Proofs.Ythhnhajldhnfmaa
open Go.RowKit
set_option maxRecDepth 100000 in
set_option maxHeartbeats 1600000 in
theorem grows_con (t : Trk) (p q : Pt) : Con E0 true 6 [aTrk t, aPt p, aPt q] (.bool true) := by
  refine Con.walk _ Try.func6 rfl (enters_of Try.func6 rfl rfl) rfl (Or.inr rfl) ?_
  refine AW.step ?_; conv => whnf
  refine CallX.mk _ _ (few_con t) ?_
  refine AW.step ?_; conv => whnf
  refine CondX.mk (fun h => ?_) (fun h => ?_) <;> (refine AW.step ?_; conv => whnf)
  · refine CallX.mk _ _ awake_con ?_
    refine AW.step ?_; conv => whnf
    exact RetX.mk rfl
  have hf := few_true (t := t) (by simpa using h)
  have hu := add_small t p (by omega) (by omega)
  clear h
  refine CallX.mk _ _ (add_con t p (by omega) (by omega)) ?_
  refine AW.step ?_; conv => whnf
  refine CallX.mk _ _ (allows_con t q.seq q.time (by omega) (by omega)) ?_
  refine AW.step ?_; conv => whnf
  have G := grows t p q.seq q.time
  repeat' (first
    | ((with_reducible refine CondX.t ?_); refine AW.step ?_; conv => whnf)
    | ((with_reducible refine CondX.f ?_); refine AW.step ?_; conv => whnf)
    | (refine CallX.mk _ _ awake_con ?_; refine AW.step ?_; conv => whnf)
    | (refine CallX.mk _ _ (allows_con (addT t p).1 q.seq q.time (by omega) (by omega)) ?_; refine AW.step ?_; conv => whnf)
    | (refine CallX.mk _ _ (puCheck_con (addT t p).1) ?_; refine AW.step ?_; conv => whnf)
    | (refine And.intro ⟨by kernel_rfl, by kernel_rfl⟩ ?_; refine AW.step ?_; conv => whnf)
    | (refine CondX.mk (fun h => ?_) (fun h => ?_) <;> (refine AW.step ?_; conv => whnf)))
  all_goals clear hu hf
  all_goals refine RetX.mk (congrArg AV.bool ?_)
  all_goals first
    | rfl
    | (obtain ⟨g1, g2, g3, g4⟩ := G (by simpa using ‹(!decide ((addT t p).2 = 0)) = false›) (by simpa using ‹(!decide ((allowsT t q.seq q.time).2 = 0)) = false›)
       clear G
       generalize (allowsT (addT t p).1 q.seq q.time).2 = c, (allowsT t q.seq q.time).1 = x, (allowsT (addT t p).1 q.seq q.time).1 = y, puCheck (addT t p).1 = z, (addT t p).1.mark = m1, t.mark = m0 at *
       simp_all <;> omega)

set_option maxRecDepth 100000 in
set_option maxHeartbeats 1600000 in
theorem implied_con (t : Trk) (p q : Pt) : Con E0 true 7 [aTrk t, aPt p, aPt q] (.bool true) := by
  refine Con.walk _ Try.func7 rfl (enters_of Try.func7 rfl rfl) rfl (Or.inr rfl) ?_
  refine AW.step ?_; conv => whnf
  refine CallX.mk _ _ (few_con t) ?_
  refine AW.step ?_; conv => whnf
  refine CondX.mk (fun h => ?_) (fun h => ?_) <;> (refine AW.step ?_; conv => whnf)
  · refine CondX.t ?_
    refine AW.step ?_; conv => whnf
    refine CallX.mk _ _ awake_con ?_
    refine AW.step ?_; conv => whnf
    exact RetX.mk rfl
  have hf := few_true (t := t) (by simpa using h)
  have hu := add_small t p (by omega) (by omega)
  clear h
  refine CallX.mk _ _ (implies_con p q) ?_
  refine AW.step ?_; conv => whnf
  refine CondX.mk (fun h => ?_) (fun h => ?_) <;> (refine AW.step ?_; conv => whnf)
  · refine CallX.mk _ _ awake_con ?_
    refine AW.step ?_; conv => whnf
    exact RetX.mk rfl
  have hi : implies p q = true := by simpa using h
  clear h
  refine CallX.mk _ _ (add_con t p (by omega) (by omega)) ?_
  refine AW.step ?_; conv => whnf
  refine CondX.mk (fun h => ?_) (fun h => ?_) <;> (refine AW.step ?_; conv => whnf)
  · refine CallX.mk _ _ awake_con ?_
    refine AW.step ?_; conv => whnf
    exact RetX.mk rfl
  have G := implied t p q (by simpa using h) hi
  refine CallX.mk _ _ (add_con (addT t p).1 q (by omega) (by omega)) ?_
  refine AW.step ?_; conv => whnf
  refine CallX.mk _ _ awake_con ?_
  refine AW.step ?_; conv => whnf
  have hu2 := add_small t p (by omega) (by omega)
  repeat' (first
    | ((with_reducible refine CondX.t ?_); refine AW.step ?_; conv => whnf)
    | ((with_reducible refine CondX.f ?_); refine AW.step ?_; conv => whnf)
    | (refine CallX.mk _ _ (same_con (addT t p).1 (addT (addT t p).1 q).1 (by omega) (by omega)) ?_; refine AW.step ?_; conv => whnf)
    | (refine And.intro ⟨by kernel_rfl, by kernel_rfl⟩ ?_; refine AW.step ?_; conv => whnf)
    | (refine CondX.mk (fun h => ?_) (fun h => ?_) <;> (refine AW.step ?_; conv => whnf)))
  all_goals refine RetX.mk (congrArg AV.bool ?_)
  all_goals rcases G with G | G
  all_goals simp_all
end Go.Proofs.Ythhnhajldhnfmaa
