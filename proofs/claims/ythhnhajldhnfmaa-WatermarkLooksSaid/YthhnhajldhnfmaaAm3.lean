/- The reference of layer 35: With and Add, by the abstract walk. -/
import Derived.Test.YthhnhajldhnfmaaAm2
import Derived.Test.YthhnhajldhnfmaaSpec35c
set_option linter.unusedVariables false
set_option linter.unusedSimpArgs false
namespace Go.Proofs.Ythhnhajldhnfmaa
open Go.RowKit

theorem rimplies_con (a b : Pt) : Con E0 true 22 [aPt a, aPt b] (.bool (implies a b)) := by
  refine Con.walk _ Try.func22 rfl (enters_of Try.func22 rfl rfl) rfl (Or.inr rfl) ?_
  refine AW.step ?_; conv => whnf
  repeat' (first | ((with_reducible refine CondX.t ?_); refine AW.step ?_; conv => whnf) | ((with_reducible refine CondX.f ?_); refine AW.step ?_; conv => whnf) | (refine CondX.mk (fun h => ?_) (fun h => ?_) <;> (refine AW.step ?_; conv => whnf)))
  all_goals (refine RetX.mk (congrArg AV.bool ?_); simp_all [implies] <;> omega)
set_option maxRecDepth 100000 in
theorem rvalid_con (p : Pt) : Con E0 true 64 [aPt p] (.bool (ptValid p)) := by
  refine Con.walk _ Try.func64 rfl (enters_of Try.func64 rfl rfl) rfl (Or.inr rfl) ?_
  refine AW.step ?_; conv => whnf
  repeat' (first | ((with_reducible refine CondX.t ?_); refine AW.step ?_; conv => whnf) | ((with_reducible refine CondX.f ?_); refine AW.step ?_; conv => whnf) | (refine CondX.mk (fun h => ?_) (fun h => ?_) <;> (refine AW.step ?_; conv => whnf)))
  all_goals (refine RetX.mk (congrArg AV.bool ?_); simp_all [ptValid] <;> omega)

def wT (t : Trk) : List AV := [aI t.next, aInts t.beyond, aPts t.points, aI t.mark]
def wS1 (t : Trk) (p : Pt) (k : Nat) : AS := ⟨[(2, .ptr 2 0), (3, .ptr 3 0), (4, .ptr 4 0), (5, aI k)], [(2, .box 25 (wT t)), (3, .box 27 [aI p.seq, aI p.time]), (4, .box 25 [aI 0, .nils, .nils, aI 0])]⟩
def wS2 (t : Trk) (p : Pt) (mk : Int) (put : Bool) (acc : List Pt) (k : Nat) : AS := ⟨[(2, .ptr 2 0), (3, .ptr 3 0), (4, .ptr 4 0), (6, .ptr 6 0), (7, .bool put), (8, aI k)],
  [(2, .box 25 (wT t)), (3, .box 27 [aI p.seq, aI p.time]), (4, .box 25 [aI 0, .nils, .nils, aI 0]), (6, .box 25 [aI t.next, aInts t.beyond, .row 100, aI mk]), (100, .row 27 2 (acc.map aPt))]⟩
theorem any_drop (l : List Pt) (p : Pt) (k : Nat) (h : k < l.length) : (l.drop k).any (fun x => implies x p) = (implies l[k] p || (l.drop (k + 1)).any fun x => implies x p) := by
  rw [drop_cons l k h]; rfl
theorem withLoop_cons (p : Pt) (put : Bool) (acc : List Pt) (x : Pt) (r : List Pt) : withLoop p put acc (x :: r) =
    withLoop p (put || decide (p.seq < x.seq)) (if implies p x = true then (if put = false ∧ p.seq < x.seq then acc ++ [p] else acc) else (if put = false ∧ p.seq < x.seq then acc ++ [p] else acc) ++ [x]) r := rfl
theorem map_snoc {α : Type} (f : α → AV) (l : List α) (x : α) : l.map f ++ [f x] = (l ++ [x]).map f := by simp

set_option maxRecDepth 100000 in
set_option maxHeartbeats 1600000 in
theorem with_con (t : Trk) (p : Pt) (hl : t.points.length ≤ 1000000) : Con E0 false 65 [aTrk t, aPt p] (aTrk (withR t p)) := by
  obtain ⟨next, lb, l, mark⟩ := t
  obtain ⟨p0, p1⟩ := p
  dsimp only at hl
  refine Con.walk _ Try.func65 rfl (enters_of Try.func65 rfl rfl) rfl (Or.inl rfl) ?_
  refine AW.step ?_; conv => whnf
  refine CondX.mk (fun h => ?_) (fun h => ?_) <;> (refine AW.step ?_; conv => whnf)
  all_goals simp only [decide_eq_true_eq, decide_eq_false_iff_not] at h
  · exact RetX.mk (by unfold withR; rw [if_pos h]; rfl)
  have hm : ¬ p1 ≤ mark := h
  refine LoopX.mk (fun n σ => ∃ k : Nat, n = l.length - k ∧ k ≤ l.length ∧ (l.drop k).any (fun x => implies x ⟨p0, p1⟩) = l.any (fun x => implies x ⟨p0, p1⟩) ∧ σ = wS1 ⟨next, lb, l, mark⟩ ⟨p0, p1⟩ k) l.length (wS1 ⟨next, lb, l, mark⟩ ⟨p0, p1⟩ 0)
    (LeX.of [] rfl ⟨⟨rfl, rfl⟩, ⟨rfl, rfl⟩, ⟨rfl, rfl⟩, ⟨rfl, rfl⟩, trivial⟩ ⟨⟨rfl, rfl⟩, ⟨rfl, rfl⟩, ⟨rfl, rfl⟩, trivial⟩) ⟨0, rfl, by omega, rfl, rfl⟩ ?_
  rintro n σ ⟨k, rfl, hk, hs, rfl⟩
  by_cases hlt : k < l.length
  · refine AW.step ?_; conv => whnf
    refine CondX.mk (fun h => ?_) (fun h => by simp at h; omega)
    refine AW.step ?_; conv => whnf
    refine IdxX.mk k (aPt l[k]) rfl (by simp [hlt]) ?_
    refine AW.step ?_; conv => whnf
    refine CallX.mk _ _ (rimplies_con l[k] ⟨p0, p1⟩) ?_
    refine AW.step ?_; conv => whnf
    refine And.intro ⟨by kernel_rfl, by kernel_rfl⟩ ?_
    refine AW.step ?_; conv => whnf
    rw [any_drop l _ k hlt] at hs
    refine CondX.mk (fun h => ?_) (fun h => ?_) <;> (refine AW.step ?_; conv => whnf)
    · refine AW.step ?_; conv => whnf
      rw [h, Bool.true_or] at hs
      exact RetX.mk (by unfold withR; rw [if_neg hm, if_pos hs.symm]; rfl)
    · rw [h, Bool.false_or] at hs
      exact ⟨l.length - (k + 1), wS1 ⟨next, lb, l, mark⟩ ⟨p0, p1⟩ (k + 1), LeX.of [] rfl ⟨⟨rfl, rfl⟩, ⟨rfl, rfl⟩, ⟨rfl, rfl⟩, ⟨congrArg aI (wrap_in (↑k + 1) (by omega)), rfl⟩, trivial⟩ ⟨⟨rfl, rfl⟩, ⟨rfl, rfl⟩, ⟨rfl, rfl⟩, trivial⟩, by omega, k + 1, rfl, by omega, hs, rfl⟩
  · refine AW.step ?_; conv => whnf
    refine CondX.mk (fun h => by simp at h; omega) (fun h => ?_)
    refine AW.step ?_; conv => whnf
    refine AW.step ?_; conv => whnf
    rw [List.drop_eq_nil_of_le (by omega)] at hs
    have hn : ¬ (l.any fun x => implies x ⟨p0, p1⟩) = true := by rw [← hs]; simp
    have hW : withR ⟨next, lb, l, mark⟩ ⟨p0, p1⟩ = ⟨next, lb, if (withLoop ⟨p0, p1⟩ (decide (p0 ≤ next)) [] l).1 = true then (withLoop ⟨p0, p1⟩ (decide (p0 ≤ next)) [] l).2 else (withLoop ⟨p0, p1⟩ (decide (p0 ≤ next)) [] l).2 ++ [⟨p0, p1⟩], if p0 ≤ next then p1 else mark⟩ := by
      unfold withR; rw [if_neg hm, if_neg hn]
    clear hs hk hlt h
    refine CondX.mk (fun h => ?_) (fun h => ?_) <;> (refine AW.step ?_; conv => whnf)
    all_goals simp only [decide_eq_true_eq, decide_eq_false_iff_not] at h
    · obtain ⟨put0, hput⟩ : ∃ b : Bool, b = true := ⟨_, rfl⟩
      obtain ⟨mk, hmk⟩ : ∃ b : Int, b = p1 := ⟨_, rfl⟩
      have hW' : withR ⟨next, lb, l, mark⟩ ⟨p0, p1⟩ = ⟨next, lb, if (withLoop ⟨p0, p1⟩ put0 [] l).1 = true then (withLoop ⟨p0, p1⟩ put0 [] l).2 else (withLoop ⟨p0, p1⟩ put0 [] l).2 ++ [⟨p0, p1⟩], mk⟩ := by
        rw [hW, hput, hmk, if_pos h, decide_eq_true h]
      clear hW
      refine LoopX.mk (fun n σ => ∃ (k : Nat) (put : Bool) (acc : List Pt), n = l.length - k ∧ k ≤ l.length ∧ withLoop ⟨p0, p1⟩ put acc (l.drop k) = withLoop ⟨p0, p1⟩ put0 [] l ∧ acc.length ≤ 2 * k ∧ σ = wS2 ⟨next, lb, l, mark⟩ ⟨p0, p1⟩ mk put acc k) l.length (wS2 ⟨next, lb, l, mark⟩ ⟨p0, p1⟩ mk put0 [] 0)
        (LeX.trans (LeX.adoptC 6 2 100 27 2 25 [aI next, aInts lb, .nils, aI p1] rfl rfl rfl) (LeX.of [] rfl ⟨⟨rfl, rfl⟩, ⟨rfl, rfl⟩, ⟨rfl, rfl⟩, ⟨rfl, rfl⟩, ⟨congrArg AV.bool (by simp [hput]; omega), rfl⟩, ⟨rfl, rfl⟩, trivial⟩ ⟨⟨rfl, rfl⟩, ⟨rfl, rfl⟩, ⟨rfl, rfl⟩, ⟨by rw [hmk]; rfl, rfl⟩, ⟨rfl, rfl⟩, trivial⟩)) ⟨0, put0, [], rfl, by omega, rfl, by simp, rfl⟩ ?_
      rintro n σ ⟨k, put, acc, rfl, hk, hs, hal, rfl⟩
      by_cases hlt : k < l.length
      · refine AW.step ?_; conv => whnf
        refine CondX.mk (fun h => ?_) (fun h => by simp at h; omega)
        refine AW.step ?_; conv => whnf
        repeat' (first
          | ((with_reducible refine CondX.t ?_); refine AW.step ?_; conv => whnf)
          | ((with_reducible refine CondX.f ?_); refine AW.step ?_; conv => whnf)
          | (refine CondX.mk (fun h => ?_) (fun h => ?_) <;> (refine AW.step ?_; conv => whnf))
          | (refine AW.step ?_; conv => whnf)
          | (refine IdxX.mk k (aPt l[k]) rfl (by simp [hlt]) ?_; refine AW.step ?_; conv => whnf)
          | (refine CallX.mk _ _ (rimplies_con ⟨p0, p1⟩ l[k]) ?_; refine AW.step ?_; conv => whnf)
          | (refine And.intro ⟨by kernel_rfl, by kernel_rfl⟩ ?_; refine AW.step ?_; conv => whnf)
          | (refine AppX.mk (by simp; omega) (by simp; omega) ?_; refine AW.step ?_; conv => whnf))
        all_goals rw [drop_cons l k hlt, withLoop_cons] at hs
        all_goals dsimp only at hs
        · have a1 : (!put) = true := by assumption
          have a2 : decide (p0 < l[k].seq) = true := by assumption
          have a3 : (!implies ⟨p0, p1⟩ l[k]) = true := by assumption
          have a1 : put = false := by simpa using a1
          have a3 : implies ⟨p0, p1⟩ l[k] = false := by simpa using a3
          have a2 : p0 < l[k].seq := by simpa using a2
          subst a1
          simp [a3, a2] at hs
          refine ⟨l.length - (k + 1), wS2 ⟨next, lb, l, mark⟩ ⟨p0, p1⟩ mk true (acc ++ [⟨p0, p1⟩] ++ [l[k]]) (k + 1), LeX.of [(100, 83)] rfl ⟨⟨rfl, rfl⟩, ⟨rfl, rfl⟩, ⟨rfl, rfl⟩, ⟨rfl, rfl⟩, ⟨rfl, rfl⟩, ⟨congrArg aI (wrap_in (↑k + 1) (by omega)), rfl⟩, trivial⟩ ⟨⟨rfl, rfl⟩, ⟨rfl, rfl⟩, ⟨rfl, rfl⟩, ⟨rfl, rfl⟩, ⟨congrArg (fun q => some (Ent.row 27 2 q)) (by simp [aPt, aI]), rfl⟩, trivial⟩, by omega, k + 1, true, acc ++ [⟨p0, p1⟩] ++ [l[k]], rfl, by omega, ?_, by first | omega | (simp; omega), rfl⟩
          simpa using hs
        · have a1 : (!put) = true := by assumption
          have a2 : decide (p0 < l[k].seq) = true := by assumption
          have a3 : (!implies ⟨p0, p1⟩ l[k]) = false := by assumption
          have a1 : put = false := by simpa using a1
          have a3 : implies ⟨p0, p1⟩ l[k] = true := by simpa using a3
          have a2 : p0 < l[k].seq := by simpa using a2
          subst a1
          simp [a3, a2] at hs
          refine ⟨l.length - (k + 1), wS2 ⟨next, lb, l, mark⟩ ⟨p0, p1⟩ mk true (acc ++ [⟨p0, p1⟩]) (k + 1), LeX.of [(100, 65)] rfl ⟨⟨rfl, rfl⟩, ⟨rfl, rfl⟩, ⟨rfl, rfl⟩, ⟨rfl, rfl⟩, ⟨rfl, rfl⟩, ⟨congrArg aI (wrap_in (↑k + 1) (by omega)), rfl⟩, trivial⟩ ⟨⟨rfl, rfl⟩, ⟨rfl, rfl⟩, ⟨rfl, rfl⟩, ⟨rfl, rfl⟩, ⟨congrArg (fun q => some (Ent.row 27 2 q)) (by simp [aPt, aI]), rfl⟩, trivial⟩, by omega, k + 1, true, acc ++ [⟨p0, p1⟩], rfl, by omega, ?_, by first | omega | (simp; omega), rfl⟩
          simpa using hs
        · have a1 : (!put) = true := by assumption
          have a2 : decide (p0 < l[k].seq) = false := by assumption
          have a3 : (!implies ⟨p0, p1⟩ l[k]) = true := by assumption
          have a1 : put = false := by simpa using a1
          have a3 : implies ⟨p0, p1⟩ l[k] = false := by simpa using a3
          have a2 : ¬ p0 < l[k].seq := by simpa using a2
          subst a1
          simp [a3, a2] at hs
          refine ⟨l.length - (k + 1), wS2 ⟨next, lb, l, mark⟩ ⟨p0, p1⟩ mk false (acc ++ [l[k]]) (k + 1), LeX.of [(100, 83)] rfl ⟨⟨rfl, rfl⟩, ⟨rfl, rfl⟩, ⟨rfl, rfl⟩, ⟨rfl, rfl⟩, ⟨rfl, rfl⟩, ⟨congrArg aI (wrap_in (↑k + 1) (by omega)), rfl⟩, trivial⟩ ⟨⟨rfl, rfl⟩, ⟨rfl, rfl⟩, ⟨rfl, rfl⟩, ⟨rfl, rfl⟩, ⟨congrArg (fun q => some (Ent.row 27 2 q)) (by simp [aPt, aI]), rfl⟩, trivial⟩, by omega, k + 1, false, acc ++ [l[k]], rfl, by omega, ?_, by first | omega | (simp; omega), rfl⟩
          simpa using hs
        · have a1 : (!put) = true := by assumption
          have a2 : decide (p0 < l[k].seq) = false := by assumption
          have a3 : (!implies ⟨p0, p1⟩ l[k]) = false := by assumption
          have a1 : put = false := by simpa using a1
          have a3 : implies ⟨p0, p1⟩ l[k] = true := by simpa using a3
          have a2 : ¬ p0 < l[k].seq := by simpa using a2
          subst a1
          simp [a3, a2] at hs
          refine ⟨l.length - (k + 1), wS2 ⟨next, lb, l, mark⟩ ⟨p0, p1⟩ mk false (acc) (k + 1), LeX.of [(100, 100)] rfl ⟨⟨rfl, rfl⟩, ⟨rfl, rfl⟩, ⟨rfl, rfl⟩, ⟨rfl, rfl⟩, ⟨rfl, rfl⟩, ⟨congrArg aI (wrap_in (↑k + 1) (by omega)), rfl⟩, trivial⟩ ⟨⟨rfl, rfl⟩, ⟨rfl, rfl⟩, ⟨rfl, rfl⟩, ⟨rfl, rfl⟩, ⟨rfl, rfl⟩, trivial⟩, by omega, k + 1, false, acc, rfl, by omega, ?_, by first | omega | (simp; omega), rfl⟩
          simpa using hs
        · have a1 : (!put) = false := by assumption
          have a3 : (!implies ⟨p0, p1⟩ l[k]) = true := by assumption
          have a1 : put = true := by simpa using a1
          have a3 : implies ⟨p0, p1⟩ l[k] = false := by simpa using a3
          subst a1
          simp [a3] at hs
          refine ⟨l.length - (k + 1), wS2 ⟨next, lb, l, mark⟩ ⟨p0, p1⟩ mk true (acc ++ [l[k]]) (k + 1), LeX.of [(100, 83)] rfl ⟨⟨rfl, rfl⟩, ⟨rfl, rfl⟩, ⟨rfl, rfl⟩, ⟨rfl, rfl⟩, ⟨rfl, rfl⟩, ⟨congrArg aI (wrap_in (↑k + 1) (by omega)), rfl⟩, trivial⟩ ⟨⟨rfl, rfl⟩, ⟨rfl, rfl⟩, ⟨rfl, rfl⟩, ⟨rfl, rfl⟩, ⟨congrArg (fun q => some (Ent.row 27 2 q)) (by simp [aPt, aI]), rfl⟩, trivial⟩, by omega, k + 1, true, acc ++ [l[k]], rfl, by omega, ?_, by first | omega | (simp; omega), rfl⟩
          simpa using hs
        · have a1 : (!put) = false := by assumption
          have a3 : (!implies ⟨p0, p1⟩ l[k]) = false := by assumption
          have a1 : put = true := by simpa using a1
          have a3 : implies ⟨p0, p1⟩ l[k] = true := by simpa using a3
          subst a1
          simp [a3] at hs
          refine ⟨l.length - (k + 1), wS2 ⟨next, lb, l, mark⟩ ⟨p0, p1⟩ mk true (acc) (k + 1), LeX.of [(100, 100)] rfl ⟨⟨rfl, rfl⟩, ⟨rfl, rfl⟩, ⟨rfl, rfl⟩, ⟨rfl, rfl⟩, ⟨rfl, rfl⟩, ⟨congrArg aI (wrap_in (↑k + 1) (by omega)), rfl⟩, trivial⟩ ⟨⟨rfl, rfl⟩, ⟨rfl, rfl⟩, ⟨rfl, rfl⟩, ⟨rfl, rfl⟩, ⟨rfl, rfl⟩, trivial⟩, by omega, k + 1, true, acc, rfl, by omega, ?_, by first | omega | (simp; omega), rfl⟩
          simpa using hs
      · refine AW.step ?_; conv => whnf
        refine CondX.mk (fun h => by simp at h; omega) (fun h => ?_)
        refine AW.step ?_; conv => whnf
        refine AW.step ?_; conv => whnf
        rw [List.drop_eq_nil_of_le (by omega)] at hs
        rw [hW']
        rw [← hs]
        refine CondX.mk (fun h => ?_) (fun h => ?_) <;> (refine AW.step ?_; conv => whnf)
        · have a1 : put = false := by simpa using h
          subst a1
          refine AppX.mk (by simp; omega) (by simp; omega) ?_
          refine AW.step ?_; conv => whnf
          exact RetX.mk (by simp [withLoop, aTrk, aPts, aPt, aI, aInts])
        · have a1 : put = true := by simpa using h
          subst a1
          exact RetX.mk (by simp [withLoop, aTrk, aPts, aPt, aI, aInts])
    · obtain ⟨put0, hput⟩ : ∃ b : Bool, b = false := ⟨_, rfl⟩
      obtain ⟨mk, hmk⟩ : ∃ b : Int, b = mark := ⟨_, rfl⟩
      have hW' : withR ⟨next, lb, l, mark⟩ ⟨p0, p1⟩ = ⟨next, lb, if (withLoop ⟨p0, p1⟩ put0 [] l).1 = true then (withLoop ⟨p0, p1⟩ put0 [] l).2 else (withLoop ⟨p0, p1⟩ put0 [] l).2 ++ [⟨p0, p1⟩], mk⟩ := by
        rw [hW, hput, hmk, if_neg h, decide_eq_false h]
      clear hW
      refine LoopX.mk (fun n σ => ∃ (k : Nat) (put : Bool) (acc : List Pt), n = l.length - k ∧ k ≤ l.length ∧ withLoop ⟨p0, p1⟩ put acc (l.drop k) = withLoop ⟨p0, p1⟩ put0 [] l ∧ acc.length ≤ 2 * k ∧ σ = wS2 ⟨next, lb, l, mark⟩ ⟨p0, p1⟩ mk put acc k) l.length (wS2 ⟨next, lb, l, mark⟩ ⟨p0, p1⟩ mk put0 [] 0)
        (LeX.trans (LeX.adoptC 6 2 100 27 2 25 [aI next, aInts lb, .nils, aI mark] rfl rfl rfl) (LeX.of [] rfl ⟨⟨rfl, rfl⟩, ⟨rfl, rfl⟩, ⟨rfl, rfl⟩, ⟨rfl, rfl⟩, ⟨congrArg AV.bool (by simp [hput]; omega), rfl⟩, ⟨rfl, rfl⟩, trivial⟩ ⟨⟨rfl, rfl⟩, ⟨rfl, rfl⟩, ⟨rfl, rfl⟩, ⟨by rw [hmk]; rfl, rfl⟩, ⟨rfl, rfl⟩, trivial⟩)) ⟨0, put0, [], rfl, by omega, rfl, by simp, rfl⟩ ?_
      rintro n σ ⟨k, put, acc, rfl, hk, hs, hal, rfl⟩
      by_cases hlt : k < l.length
      · refine AW.step ?_; conv => whnf
        refine CondX.mk (fun h => ?_) (fun h => by simp at h; omega)
        refine AW.step ?_; conv => whnf
        repeat' (first
          | ((with_reducible refine CondX.t ?_); refine AW.step ?_; conv => whnf)
          | ((with_reducible refine CondX.f ?_); refine AW.step ?_; conv => whnf)
          | (refine CondX.mk (fun h => ?_) (fun h => ?_) <;> (refine AW.step ?_; conv => whnf))
          | (refine AW.step ?_; conv => whnf)
          | (refine IdxX.mk k (aPt l[k]) rfl (by simp [hlt]) ?_; refine AW.step ?_; conv => whnf)
          | (refine CallX.mk _ _ (rimplies_con ⟨p0, p1⟩ l[k]) ?_; refine AW.step ?_; conv => whnf)
          | (refine And.intro ⟨by kernel_rfl, by kernel_rfl⟩ ?_; refine AW.step ?_; conv => whnf)
          | (refine AppX.mk (by simp; omega) (by simp; omega) ?_; refine AW.step ?_; conv => whnf))
        all_goals rw [drop_cons l k hlt, withLoop_cons] at hs
        all_goals dsimp only at hs
        · have a1 : (!put) = true := by assumption
          have a2 : decide (p0 < l[k].seq) = true := by assumption
          have a3 : (!implies ⟨p0, p1⟩ l[k]) = true := by assumption
          have a1 : put = false := by simpa using a1
          have a3 : implies ⟨p0, p1⟩ l[k] = false := by simpa using a3
          have a2 : p0 < l[k].seq := by simpa using a2
          subst a1
          simp [a3, a2] at hs
          refine ⟨l.length - (k + 1), wS2 ⟨next, lb, l, mark⟩ ⟨p0, p1⟩ mk true (acc ++ [⟨p0, p1⟩] ++ [l[k]]) (k + 1), LeX.of [(100, 83)] rfl ⟨⟨rfl, rfl⟩, ⟨rfl, rfl⟩, ⟨rfl, rfl⟩, ⟨rfl, rfl⟩, ⟨rfl, rfl⟩, ⟨congrArg aI (wrap_in (↑k + 1) (by omega)), rfl⟩, trivial⟩ ⟨⟨rfl, rfl⟩, ⟨rfl, rfl⟩, ⟨rfl, rfl⟩, ⟨rfl, rfl⟩, ⟨congrArg (fun q => some (Ent.row 27 2 q)) (by simp [aPt, aI]), rfl⟩, trivial⟩, by omega, k + 1, true, acc ++ [⟨p0, p1⟩] ++ [l[k]], rfl, by omega, ?_, by first | omega | (simp; omega), rfl⟩
          simpa using hs
        · have a1 : (!put) = true := by assumption
          have a2 : decide (p0 < l[k].seq) = true := by assumption
          have a3 : (!implies ⟨p0, p1⟩ l[k]) = false := by assumption
          have a1 : put = false := by simpa using a1
          have a3 : implies ⟨p0, p1⟩ l[k] = true := by simpa using a3
          have a2 : p0 < l[k].seq := by simpa using a2
          subst a1
          simp [a3, a2] at hs
          refine ⟨l.length - (k + 1), wS2 ⟨next, lb, l, mark⟩ ⟨p0, p1⟩ mk true (acc ++ [⟨p0, p1⟩]) (k + 1), LeX.of [(100, 65)] rfl ⟨⟨rfl, rfl⟩, ⟨rfl, rfl⟩, ⟨rfl, rfl⟩, ⟨rfl, rfl⟩, ⟨rfl, rfl⟩, ⟨congrArg aI (wrap_in (↑k + 1) (by omega)), rfl⟩, trivial⟩ ⟨⟨rfl, rfl⟩, ⟨rfl, rfl⟩, ⟨rfl, rfl⟩, ⟨rfl, rfl⟩, ⟨congrArg (fun q => some (Ent.row 27 2 q)) (by simp [aPt, aI]), rfl⟩, trivial⟩, by omega, k + 1, true, acc ++ [⟨p0, p1⟩], rfl, by omega, ?_, by first | omega | (simp; omega), rfl⟩
          simpa using hs
        · have a1 : (!put) = true := by assumption
          have a2 : decide (p0 < l[k].seq) = false := by assumption
          have a3 : (!implies ⟨p0, p1⟩ l[k]) = true := by assumption
          have a1 : put = false := by simpa using a1
          have a3 : implies ⟨p0, p1⟩ l[k] = false := by simpa using a3
          have a2 : ¬ p0 < l[k].seq := by simpa using a2
          subst a1
          simp [a3, a2] at hs
          refine ⟨l.length - (k + 1), wS2 ⟨next, lb, l, mark⟩ ⟨p0, p1⟩ mk false (acc ++ [l[k]]) (k + 1), LeX.of [(100, 83)] rfl ⟨⟨rfl, rfl⟩, ⟨rfl, rfl⟩, ⟨rfl, rfl⟩, ⟨rfl, rfl⟩, ⟨rfl, rfl⟩, ⟨congrArg aI (wrap_in (↑k + 1) (by omega)), rfl⟩, trivial⟩ ⟨⟨rfl, rfl⟩, ⟨rfl, rfl⟩, ⟨rfl, rfl⟩, ⟨rfl, rfl⟩, ⟨congrArg (fun q => some (Ent.row 27 2 q)) (by simp [aPt, aI]), rfl⟩, trivial⟩, by omega, k + 1, false, acc ++ [l[k]], rfl, by omega, ?_, by first | omega | (simp; omega), rfl⟩
          simpa using hs
        · have a1 : (!put) = true := by assumption
          have a2 : decide (p0 < l[k].seq) = false := by assumption
          have a3 : (!implies ⟨p0, p1⟩ l[k]) = false := by assumption
          have a1 : put = false := by simpa using a1
          have a3 : implies ⟨p0, p1⟩ l[k] = true := by simpa using a3
          have a2 : ¬ p0 < l[k].seq := by simpa using a2
          subst a1
          simp [a3, a2] at hs
          refine ⟨l.length - (k + 1), wS2 ⟨next, lb, l, mark⟩ ⟨p0, p1⟩ mk false (acc) (k + 1), LeX.of [(100, 100)] rfl ⟨⟨rfl, rfl⟩, ⟨rfl, rfl⟩, ⟨rfl, rfl⟩, ⟨rfl, rfl⟩, ⟨rfl, rfl⟩, ⟨congrArg aI (wrap_in (↑k + 1) (by omega)), rfl⟩, trivial⟩ ⟨⟨rfl, rfl⟩, ⟨rfl, rfl⟩, ⟨rfl, rfl⟩, ⟨rfl, rfl⟩, ⟨rfl, rfl⟩, trivial⟩, by omega, k + 1, false, acc, rfl, by omega, ?_, by first | omega | (simp; omega), rfl⟩
          simpa using hs
        · have a1 : (!put) = false := by assumption
          have a3 : (!implies ⟨p0, p1⟩ l[k]) = true := by assumption
          have a1 : put = true := by simpa using a1
          have a3 : implies ⟨p0, p1⟩ l[k] = false := by simpa using a3
          subst a1
          simp [a3] at hs
          refine ⟨l.length - (k + 1), wS2 ⟨next, lb, l, mark⟩ ⟨p0, p1⟩ mk true (acc ++ [l[k]]) (k + 1), LeX.of [(100, 83)] rfl ⟨⟨rfl, rfl⟩, ⟨rfl, rfl⟩, ⟨rfl, rfl⟩, ⟨rfl, rfl⟩, ⟨rfl, rfl⟩, ⟨congrArg aI (wrap_in (↑k + 1) (by omega)), rfl⟩, trivial⟩ ⟨⟨rfl, rfl⟩, ⟨rfl, rfl⟩, ⟨rfl, rfl⟩, ⟨rfl, rfl⟩, ⟨congrArg (fun q => some (Ent.row 27 2 q)) (by simp [aPt, aI]), rfl⟩, trivial⟩, by omega, k + 1, true, acc ++ [l[k]], rfl, by omega, ?_, by first | omega | (simp; omega), rfl⟩
          simpa using hs
        · have a1 : (!put) = false := by assumption
          have a3 : (!implies ⟨p0, p1⟩ l[k]) = false := by assumption
          have a1 : put = true := by simpa using a1
          have a3 : implies ⟨p0, p1⟩ l[k] = true := by simpa using a3
          subst a1
          simp [a3] at hs
          refine ⟨l.length - (k + 1), wS2 ⟨next, lb, l, mark⟩ ⟨p0, p1⟩ mk true (acc) (k + 1), LeX.of [(100, 100)] rfl ⟨⟨rfl, rfl⟩, ⟨rfl, rfl⟩, ⟨rfl, rfl⟩, ⟨rfl, rfl⟩, ⟨rfl, rfl⟩, ⟨congrArg aI (wrap_in (↑k + 1) (by omega)), rfl⟩, trivial⟩ ⟨⟨rfl, rfl⟩, ⟨rfl, rfl⟩, ⟨rfl, rfl⟩, ⟨rfl, rfl⟩, ⟨rfl, rfl⟩, trivial⟩, by omega, k + 1, true, acc, rfl, by omega, ?_, by first | omega | (simp; omega), rfl⟩
          simpa using hs
      · refine AW.step ?_; conv => whnf
        refine CondX.mk (fun h => by simp at h; omega) (fun h => ?_)
        refine AW.step ?_; conv => whnf
        refine AW.step ?_; conv => whnf
        rw [List.drop_eq_nil_of_le (by omega)] at hs
        rw [hW']
        rw [← hs]
        refine CondX.mk (fun h => ?_) (fun h => ?_) <;> (refine AW.step ?_; conv => whnf)
        · have a1 : put = false := by simpa using h
          subst a1
          refine AppX.mk (by simp; omega) (by simp; omega) ?_
          refine AW.step ?_; conv => whnf
          exact RetX.mk (by simp [withLoop, aTrk, aPts, aPt, aI, aInts])
        · have a1 : put = true := by simpa using h
          subst a1
          exact RetX.mk (by simp [withLoop, aTrk, aPts, aPt, aI, aInts])
end Go.Proofs.Ythhnhajldhnfmaa
