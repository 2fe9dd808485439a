/- The reference of layer 35: With and Add, by the abstract walk. The laws of layer 35, by the abstract walk: Adds, Grows, Implied, Commutes. Chapter 36: plain functions and plain laws. Contracts that were walked by hand, in the form in which the printed ones call them. slices.Reverse at structs, in its place: a contract of the abstract walk out of the kit's. What some functions compute, over plain values. Printed by a program of mine (gen_fun.lean). -/
import Derived.Test.YtimkhfaddnanhaaGreatK09
import Derived.Test.YtimkhfaddnanhaaGreatK08
import Derived.Shelf.SlicesQ.Reverse
set_option linter.unusedVariables false
set_option linter.unusedSimpArgs false
set_option maxRecDepth 100000
set_option maxHeartbeats 8000000
namespace Go.Proofs.YtimkhfaddnanhaaGreat
open Go.RowKit

theorem rimplies_con (a b : Pt) : Con E0 true 137 [aPt a, aPt b] (.bool (implies a b)) := by
  refine Con.walk _ Tryz.func137 rfl (enters_of Tryz.func137 rfl rfl) rfl (Or.inr rfl) ?_
  refine AW.step ?_; conv => whnf
  repeat' (first | ((with_reducible refine CondX.t ?_); refine AW.step ?_; conv => whnf) | ((with_reducible refine CondX.f ?_); refine AW.step ?_; conv => whnf) | (refine CondX.mk (fun h => ?_) (fun h => ?_) <;> (refine AW.step ?_; conv => whnf)))
  all_goals (refine RetX.mk (congrArg AV.bool ?_); simp_all [implies] <;> omega)
set_option maxRecDepth 100000 in
theorem rvalid_con (p : Pt) : Con E0 true 105 [aPt p] (.bool (ptValid p)) := by
  refine Con.walk _ Tryz.func105 rfl (enters_of Tryz.func105 rfl rfl) rfl (Or.inr rfl) ?_
  refine AW.step ?_; conv => whnf
  repeat' (first | ((with_reducible refine CondX.t ?_); refine AW.step ?_; conv => whnf) | ((with_reducible refine CondX.f ?_); refine AW.step ?_; conv => whnf) | (refine CondX.mk (fun h => ?_) (fun h => ?_) <;> (refine AW.step ?_; conv => whnf)))
  all_goals (refine RetX.mk (congrArg AV.bool ?_); simp_all [ptValid] <;> omega)

def wT (t : Trk) : List AV := [aI t.next, aInts t.beyond, aPts t.points, aI t.mark]
def wS1 (t : Trk) (p : Pt) (k : Nat) : AS := ⟨[(2, .ptr 2 0), (3, .ptr 3 0), (4, .ptr 4 0), (5, aI k)], [(2, .box 82 (wT t)), (3, .box 109 [aI p.seq, aI p.time]), (4, .box 82 [aI 0, .nils, .nils, aI 0])]⟩
def wS2 (t : Trk) (p : Pt) (mk : Int) (put : Bool) (acc : List Pt) (k : Nat) : AS := ⟨[(2, .ptr 2 0), (3, .ptr 3 0), (4, .ptr 4 0), (6, .ptr 6 0), (7, .bool put), (8, aI k)],
  [(2, .box 82 (wT t)), (3, .box 109 [aI p.seq, aI p.time]), (4, .box 82 [aI 0, .nils, .nils, aI 0]), (6, .box 82 [aI t.next, aInts t.beyond, .row 100, aI mk]), (100, .row 109 2 (acc.map aPt))]⟩
theorem any_drop (l : List Pt) (p : Pt) (k : Nat) (h : k < l.length) : (l.drop k).any (fun x => implies x p) = (implies l[k] p || (l.drop (k + 1)).any fun x => implies x p) := by
  rw [drop_cons l k h]; rfl
theorem withLoop_cons (p : Pt) (put : Bool) (acc : List Pt) (x : Pt) (r : List Pt) : withLoop p put acc (x :: r) =
    withLoop p (put || decide (p.seq < x.seq)) (if implies p x = true then (if put = false ∧ p.seq < x.seq then acc ++ [p] else acc) else (if put = false ∧ p.seq < x.seq then acc ++ [p] else acc) ++ [x]) r := rfl
set_option maxRecDepth 100000 in
set_option maxHeartbeats 1600000 in
theorem with_con (t : Trk) (p : Pt) (hl : t.points.length ≤ 1000000) : Con E0 false 123 [aTrk t, aPt p] (aTrk (withR t p)) := by
  obtain ⟨next, lb, l, mark⟩ := t
  obtain ⟨p0, p1⟩ := p
  dsimp only at hl
  refine Con.walk _ Tryz.func123 rfl (enters_of Tryz.func123 rfl rfl) rfl (Or.inl rfl) ?_
  refine AW.step ?_; conv => whnf
  refine CondX.mk (fun h => ?_) (fun h => ?_) <;> (refine AW.step ?_; conv => whnf)
  all_goals simp only [decide_eq_true_eq, decide_eq_false_iff_not] at h
  · exact RetX.mk (by unfold withR; rw [if_pos h]; rfl)
  have hm : ¬ p1 ≤ mark := h
  refine LoopX.mk (fun n σ => ∃ k : Nat, n = l.length - k ∧ k ≤ l.length ∧ (l.drop k).any (fun x => implies x ⟨p0, p1⟩) = l.any (fun x => implies x ⟨p0, p1⟩) ∧ σ = wS1 ⟨next, lb, l, mark⟩ ⟨p0, p1⟩ k) l.length (wS1 ⟨next, lb, l, mark⟩ ⟨p0, p1⟩ 0)
    (LeX.of [] rfl ⟨⟨rfl, rfl⟩, ⟨rfl, rfl⟩, ⟨rfl, rfl⟩, ⟨rfl, rfl⟩, trivial⟩ ⟨⟨rfl, rfl⟩, ⟨rfl, rfl⟩, ⟨rfl, rfl⟩, trivial⟩) ⟨0, rfl, by omega, rfl, rfl⟩ ?_
  rintro n σ ⟨k, rfl, hk, hs, rfl⟩
  by_cases hlt : k < l.length
  · refine AW.step ?_; conv => whnf
    refine CondX.mk (fun h => ?_) (fun h => by simp at h; omega)
    refine AW.step ?_; conv => whnf
    refine IdxX.mk k (aPt l[k]) rfl (by simp [hlt]) ?_
    refine AW.step ?_; conv => whnf
    refine CallX.mk _ _ (rimplies_con l[k] ⟨p0, p1⟩) ?_
    refine AW.step ?_; conv => whnf
    refine And.intro ⟨by kernel_rfl, by kernel_rfl⟩ ?_
    refine AW.step ?_; conv => whnf
    rw [any_drop l _ k hlt] at hs
    refine CondX.mk (fun h => ?_) (fun h => ?_) <;> (refine AW.step ?_; conv => whnf)
    · refine AW.step ?_; conv => whnf
      rw [h, Bool.true_or] at hs
      exact RetX.mk (by unfold withR; rw [if_neg hm, if_pos hs.symm]; rfl)
    · rw [h, Bool.false_or] at hs
      exact ⟨l.length - (k + 1), wS1 ⟨next, lb, l, mark⟩ ⟨p0, p1⟩ (k + 1), LeX.of [] rfl ⟨⟨rfl, rfl⟩, ⟨rfl, rfl⟩, ⟨rfl, rfl⟩, ⟨congrArg aI (wrap_in (↑k + 1) (by omega)), rfl⟩, trivial⟩ ⟨⟨rfl, rfl⟩, ⟨rfl, rfl⟩, ⟨rfl, rfl⟩, trivial⟩, by omega, k + 1, rfl, by omega, hs, rfl⟩
  · refine AW.step ?_; conv => whnf
    refine CondX.mk (fun h => by simp at h; omega) (fun h => ?_)
    refine AW.step ?_; conv => whnf
    refine AW.step ?_; conv => whnf
    rw [List.drop_eq_nil_of_le (by omega)] at hs
    have hn : ¬ (l.any fun x => implies x ⟨p0, p1⟩) = true := by rw [← hs]; simp
    have hW : withR ⟨next, lb, l, mark⟩ ⟨p0, p1⟩ = ⟨next, lb, if (withLoop ⟨p0, p1⟩ (decide (p0 ≤ next)) [] l).1 = true then (withLoop ⟨p0, p1⟩ (decide (p0 ≤ next)) [] l).2 else (withLoop ⟨p0, p1⟩ (decide (p0 ≤ next)) [] l).2 ++ [⟨p0, p1⟩], if p0 ≤ next then p1 else mark⟩ := by
      unfold withR; rw [if_neg hm, if_neg hn]
    clear hs hk hlt h
    refine CondX.mk (fun h => ?_) (fun h => ?_) <;> (refine AW.step ?_; conv => whnf)
    all_goals simp only [decide_eq_true_eq, decide_eq_false_iff_not] at h
    · obtain ⟨put0, hput⟩ : ∃ b : Bool, b = true := ⟨_, rfl⟩
      obtain ⟨mk, hmk⟩ : ∃ b : Int, b = p1 := ⟨_, rfl⟩
      have hW' : withR ⟨next, lb, l, mark⟩ ⟨p0, p1⟩ = ⟨next, lb, if (withLoop ⟨p0, p1⟩ put0 [] l).1 = true then (withLoop ⟨p0, p1⟩ put0 [] l).2 else (withLoop ⟨p0, p1⟩ put0 [] l).2 ++ [⟨p0, p1⟩], mk⟩ := by
        rw [hW, hput, hmk, if_pos h, decide_eq_true h]
      clear hW
      refine LoopX.mk (fun n σ => ∃ (k : Nat) (put : Bool) (acc : List Pt), n = l.length - k ∧ k ≤ l.length ∧ withLoop ⟨p0, p1⟩ put acc (l.drop k) = withLoop ⟨p0, p1⟩ put0 [] l ∧ acc.length ≤ 2 * k ∧ σ = wS2 ⟨next, lb, l, mark⟩ ⟨p0, p1⟩ mk put acc k) l.length (wS2 ⟨next, lb, l, mark⟩ ⟨p0, p1⟩ mk put0 [] 0)
        (LeX.trans (LeX.adoptC 6 2 100 109 2 82 [aI next, aInts lb, .nils, aI p1] rfl rfl rfl) (LeX.of [] rfl ⟨⟨rfl, rfl⟩, ⟨rfl, rfl⟩, ⟨rfl, rfl⟩, ⟨rfl, rfl⟩, ⟨congrArg AV.bool (by simp [hput]; omega), rfl⟩, ⟨rfl, rfl⟩, trivial⟩ ⟨⟨rfl, rfl⟩, ⟨rfl, rfl⟩, ⟨rfl, rfl⟩, ⟨by rw [hmk]; rfl, rfl⟩, ⟨rfl, rfl⟩, trivial⟩)) ⟨0, put0, [], rfl, by omega, rfl, by simp, rfl⟩ ?_
      rintro n σ ⟨k, put, acc, rfl, hk, hs, hal, rfl⟩
      by_cases hlt : k < l.length
      · refine AW.step ?_; conv => whnf
        refine CondX.mk (fun h => ?_) (fun h => by simp at h; omega)
        refine AW.step ?_; conv => whnf
        repeat' (first
          | ((with_reducible refine CondX.t ?_); refine AW.step ?_; conv => whnf)
          | ((with_reducible refine CondX.f ?_); refine AW.step ?_; conv => whnf)
          | (refine CondX.mk (fun h => ?_) (fun h => ?_) <;> (refine AW.step ?_; conv => whnf))
          | (refine AW.step ?_; conv => whnf)
          | (refine IdxX.mk k (aPt l[k]) rfl (by simp [hlt]) ?_; refine AW.step ?_; conv => whnf)
          | (refine CallX.mk _ _ (rimplies_con ⟨p0, p1⟩ l[k]) ?_; refine AW.step ?_; conv => whnf)
          | (refine And.intro ⟨by kernel_rfl, by kernel_rfl⟩ ?_; refine AW.step ?_; conv => whnf)
          | (refine AppX.mk (by simp; omega) (by simp; omega) ?_; refine AW.step ?_; conv => whnf))
        all_goals rw [drop_cons l k hlt, withLoop_cons] at hs
        all_goals dsimp only at hs
        · have a1 : (!put) = true := by assumption
          have a2 : decide (p0 < l[k].seq) = true := by assumption
          have a3 : (!implies ⟨p0, p1⟩ l[k]) = true := by assumption
          have a1 : put = false := by simpa using a1
          have a3 : implies ⟨p0, p1⟩ l[k] = false := by simpa using a3
          have a2 : p0 < l[k].seq := by simpa using a2
          subst a1
          simp [a3, a2] at hs
          refine ⟨l.length - (k + 1), wS2 ⟨next, lb, l, mark⟩ ⟨p0, p1⟩ mk true (acc ++ [⟨p0, p1⟩] ++ [l[k]]) (k + 1), LeX.of [(100, 83)] rfl ⟨⟨rfl, rfl⟩, ⟨rfl, rfl⟩, ⟨rfl, rfl⟩, ⟨rfl, rfl⟩, ⟨rfl, rfl⟩, ⟨congrArg aI (wrap_in (↑k + 1) (by omega)), rfl⟩, trivial⟩ ⟨⟨rfl, rfl⟩, ⟨rfl, rfl⟩, ⟨rfl, rfl⟩, ⟨rfl, rfl⟩, ⟨congrArg (fun q => some (Ent.row 109 2 q)) (by simp [aPt, aI]), rfl⟩, trivial⟩, by omega, k + 1, true, acc ++ [⟨p0, p1⟩] ++ [l[k]], rfl, by omega, ?_, by first | omega | (simp; omega), rfl⟩
          simpa using hs
        · have a1 : (!put) = true := by assumption
          have a2 : decide (p0 < l[k].seq) = true := by assumption
          have a3 : (!implies ⟨p0, p1⟩ l[k]) = false := by assumption
          have a1 : put = false := by simpa using a1
          have a3 : implies ⟨p0, p1⟩ l[k] = true := by simpa using a3
          have a2 : p0 < l[k].seq := by simpa using a2
          subst a1
          simp [a3, a2] at hs
          refine ⟨l.length - (k + 1), wS2 ⟨next, lb, l, mark⟩ ⟨p0, p1⟩ mk true (acc ++ [⟨p0, p1⟩]) (k + 1), LeX.of [(100, 65)] rfl ⟨⟨rfl, rfl⟩, ⟨rfl, rfl⟩, ⟨rfl, rfl⟩, ⟨rfl, rfl⟩, ⟨rfl, rfl⟩, ⟨congrArg aI (wrap_in (↑k + 1) (by omega)), rfl⟩, trivial⟩ ⟨⟨rfl, rfl⟩, ⟨rfl, rfl⟩, ⟨rfl, rfl⟩, ⟨rfl, rfl⟩, ⟨congrArg (fun q => some (Ent.row 109 2 q)) (by simp [aPt, aI]), rfl⟩, trivial⟩, by omega, k + 1, true, acc ++ [⟨p0, p1⟩], rfl, by omega, ?_, by first | omega | (simp; omega), rfl⟩
          simpa using hs
        · have a1 : (!put) = true := by assumption
          have a2 : decide (p0 < l[k].seq) = false := by assumption
          have a3 : (!implies ⟨p0, p1⟩ l[k]) = true := by assumption
          have a1 : put = false := by simpa using a1
          have a3 : implies ⟨p0, p1⟩ l[k] = false := by simpa using a3
          have a2 : ¬ p0 < l[k].seq := by simpa using a2
          subst a1
          simp [a3, a2] at hs
          refine ⟨l.length - (k + 1), wS2 ⟨next, lb, l, mark⟩ ⟨p0, p1⟩ mk false (acc ++ [l[k]]) (k + 1), LeX.of [(100, 83)] rfl ⟨⟨rfl, rfl⟩, ⟨rfl, rfl⟩, ⟨rfl, rfl⟩, ⟨rfl, rfl⟩, ⟨rfl, rfl⟩, ⟨congrArg aI (wrap_in (↑k + 1) (by omega)), rfl⟩, trivial⟩ ⟨⟨rfl, rfl⟩, ⟨rfl, rfl⟩, ⟨rfl, rfl⟩, ⟨rfl, rfl⟩, ⟨congrArg (fun q => some (Ent.row 109 2 q)) (by simp [aPt, aI]), rfl⟩, trivial⟩, by omega, k + 1, false, acc ++ [l[k]], rfl, by omega, ?_, by first | omega | (simp; omega), rfl⟩
          simpa using hs
        · have a1 : (!put) = true := by assumption
          have a2 : decide (p0 < l[k].seq) = false := by assumption
          have a3 : (!implies ⟨p0, p1⟩ l[k]) = false := by assumption
          have a1 : put = false := by simpa using a1
          have a3 : implies ⟨p0, p1⟩ l[k] = true := by simpa using a3
          have a2 : ¬ p0 < l[k].seq := by simpa using a2
          subst a1
          simp [a3, a2] at hs
          refine ⟨l.length - (k + 1), wS2 ⟨next, lb, l, mark⟩ ⟨p0, p1⟩ mk false (acc) (k + 1), LeX.of [(100, 100)] rfl ⟨⟨rfl, rfl⟩, ⟨rfl, rfl⟩, ⟨rfl, rfl⟩, ⟨rfl, rfl⟩, ⟨rfl, rfl⟩, ⟨congrArg aI (wrap_in (↑k + 1) (by omega)), rfl⟩, trivial⟩ ⟨⟨rfl, rfl⟩, ⟨rfl, rfl⟩, ⟨rfl, rfl⟩, ⟨rfl, rfl⟩, ⟨rfl, rfl⟩, trivial⟩, by omega, k + 1, false, acc, rfl, by omega, ?_, by first | omega | (simp; omega), rfl⟩
          simpa using hs
        · have a1 : (!put) = false := by assumption
          have a3 : (!implies ⟨p0, p1⟩ l[k]) = true := by assumption
          have a1 : put = true := by simpa using a1
          have a3 : implies ⟨p0, p1⟩ l[k] = false := by simpa using a3
          subst a1
          simp [a3] at hs
          refine ⟨l.length - (k + 1), wS2 ⟨next, lb, l, mark⟩ ⟨p0, p1⟩ mk true (acc ++ [l[k]]) (k + 1), LeX.of [(100, 83)] rfl ⟨⟨rfl, rfl⟩, ⟨rfl, rfl⟩, ⟨rfl, rfl⟩, ⟨rfl, rfl⟩, ⟨rfl, rfl⟩, ⟨congrArg aI (wrap_in (↑k + 1) (by omega)), rfl⟩, trivial⟩ ⟨⟨rfl, rfl⟩, ⟨rfl, rfl⟩, ⟨rfl, rfl⟩, ⟨rfl, rfl⟩, ⟨congrArg (fun q => some (Ent.row 109 2 q)) (by simp [aPt, aI]), rfl⟩, trivial⟩, by omega, k + 1, true, acc ++ [l[k]], rfl, by omega, ?_, by first | omega | (simp; omega), rfl⟩
          simpa using hs
        · have a1 : (!put) = false := by assumption
          have a3 : (!implies ⟨p0, p1⟩ l[k]) = false := by assumption
          have a1 : put = true := by simpa using a1
          have a3 : implies ⟨p0, p1⟩ l[k] = true := by simpa using a3
          subst a1
          simp [a3] at hs
          refine ⟨l.length - (k + 1), wS2 ⟨next, lb, l, mark⟩ ⟨p0, p1⟩ mk true (acc) (k + 1), LeX.of [(100, 100)] rfl ⟨⟨rfl, rfl⟩, ⟨rfl, rfl⟩, ⟨rfl, rfl⟩, ⟨rfl, rfl⟩, ⟨rfl, rfl⟩, ⟨congrArg aI (wrap_in (↑k + 1) (by omega)), rfl⟩, trivial⟩ ⟨⟨rfl, rfl⟩, ⟨rfl, rfl⟩, ⟨rfl, rfl⟩, ⟨rfl, rfl⟩, ⟨rfl, rfl⟩, trivial⟩, by omega, k + 1, true, acc, rfl, by omega, ?_, by first | omega | (simp; omega), rfl⟩
          simpa using hs
      · refine AW.step ?_; conv => whnf
        refine CondX.mk (fun h => by simp at h; omega) (fun h => ?_)
        refine AW.step ?_; conv => whnf
        refine AW.step ?_; conv => whnf
        rw [List.drop_eq_nil_of_le (by omega)] at hs
        rw [hW']
        rw [← hs]
        refine CondX.mk (fun h => ?_) (fun h => ?_) <;> (refine AW.step ?_; conv => whnf)
        · have a1 : put = false := by simpa using h
          subst a1
          refine AppX.mk (by simp; omega) (by simp; omega) ?_
          refine AW.step ?_; conv => whnf
          exact RetX.mk (by simp [withLoop, aTrk, aPts, aPt, aI, aInts])
        · have a1 : put = true := by simpa using h
          subst a1
          exact RetX.mk (by simp [withLoop, aTrk, aPts, aPt, aI, aInts])
    · obtain ⟨put0, hput⟩ : ∃ b : Bool, b = false := ⟨_, rfl⟩
      obtain ⟨mk, hmk⟩ : ∃ b : Int, b = mark := ⟨_, rfl⟩
      have hW' : withR ⟨next, lb, l, mark⟩ ⟨p0, p1⟩ = ⟨next, lb, if (withLoop ⟨p0, p1⟩ put0 [] l).1 = true then (withLoop ⟨p0, p1⟩ put0 [] l).2 else (withLoop ⟨p0, p1⟩ put0 [] l).2 ++ [⟨p0, p1⟩], mk⟩ := by
        rw [hW, hput, hmk, if_neg h, decide_eq_false h]
      clear hW
      refine LoopX.mk (fun n σ => ∃ (k : Nat) (put : Bool) (acc : List Pt), n = l.length - k ∧ k ≤ l.length ∧ withLoop ⟨p0, p1⟩ put acc (l.drop k) = withLoop ⟨p0, p1⟩ put0 [] l ∧ acc.length ≤ 2 * k ∧ σ = wS2 ⟨next, lb, l, mark⟩ ⟨p0, p1⟩ mk put acc k) l.length (wS2 ⟨next, lb, l, mark⟩ ⟨p0, p1⟩ mk put0 [] 0)
        (LeX.trans (LeX.adoptC 6 2 100 109 2 82 [aI next, aInts lb, .nils, aI mark] rfl rfl rfl) (LeX.of [] rfl ⟨⟨rfl, rfl⟩, ⟨rfl, rfl⟩, ⟨rfl, rfl⟩, ⟨rfl, rfl⟩, ⟨congrArg AV.bool (by simp [hput]; omega), rfl⟩, ⟨rfl, rfl⟩, trivial⟩ ⟨⟨rfl, rfl⟩, ⟨rfl, rfl⟩, ⟨rfl, rfl⟩, ⟨by rw [hmk]; rfl, rfl⟩, ⟨rfl, rfl⟩, trivial⟩)) ⟨0, put0, [], rfl, by omega, rfl, by simp, rfl⟩ ?_
      rintro n σ ⟨k, put, acc, rfl, hk, hs, hal, rfl⟩
      by_cases hlt : k < l.length
      · refine AW.step ?_; conv => whnf
        refine CondX.mk (fun h => ?_) (fun h => by simp at h; omega)
        refine AW.step ?_; conv => whnf
        repeat' (first
          | ((with_reducible refine CondX.t ?_); refine AW.step ?_; conv => whnf)
          | ((with_reducible refine CondX.f ?_); refine AW.step ?_; conv => whnf)
          | (refine CondX.mk (fun h => ?_) (fun h => ?_) <;> (refine AW.step ?_; conv => whnf))
          | (refine AW.step ?_; conv => whnf)
          | (refine IdxX.mk k (aPt l[k]) rfl (by simp [hlt]) ?_; refine AW.step ?_; conv => whnf)
          | (refine CallX.mk _ _ (rimplies_con ⟨p0, p1⟩ l[k]) ?_; refine AW.step ?_; conv => whnf)
          | (refine And.intro ⟨by kernel_rfl, by kernel_rfl⟩ ?_; refine AW.step ?_; conv => whnf)
          | (refine AppX.mk (by simp; omega) (by simp; omega) ?_; refine AW.step ?_; conv => whnf))
        all_goals rw [drop_cons l k hlt, withLoop_cons] at hs
        all_goals dsimp only at hs
        · have a1 : (!put) = true := by assumption
          have a2 : decide (p0 < l[k].seq) = true := by assumption
          have a3 : (!implies ⟨p0, p1⟩ l[k]) = true := by assumption
          have a1 : put = false := by simpa using a1
          have a3 : implies ⟨p0, p1⟩ l[k] = false := by simpa using a3
          have a2 : p0 < l[k].seq := by simpa using a2
          subst a1
          simp [a3, a2] at hs
          refine ⟨l.length - (k + 1), wS2 ⟨next, lb, l, mark⟩ ⟨p0, p1⟩ mk true (acc ++ [⟨p0, p1⟩] ++ [l[k]]) (k + 1), LeX.of [(100, 83)] rfl ⟨⟨rfl, rfl⟩, ⟨rfl, rfl⟩, ⟨rfl, rfl⟩, ⟨rfl, rfl⟩, ⟨rfl, rfl⟩, ⟨congrArg aI (wrap_in (↑k + 1) (by omega)), rfl⟩, trivial⟩ ⟨⟨rfl, rfl⟩, ⟨rfl, rfl⟩, ⟨rfl, rfl⟩, ⟨rfl, rfl⟩, ⟨congrArg (fun q => some (Ent.row 109 2 q)) (by simp [aPt, aI]), rfl⟩, trivial⟩, by omega, k + 1, true, acc ++ [⟨p0, p1⟩] ++ [l[k]], rfl, by omega, ?_, by first | omega | (simp; omega), rfl⟩
          simpa using hs
        · have a1 : (!put) = true := by assumption
          have a2 : decide (p0 < l[k].seq) = true := by assumption
          have a3 : (!implies ⟨p0, p1⟩ l[k]) = false := by assumption
          have a1 : put = false := by simpa using a1
          have a3 : implies ⟨p0, p1⟩ l[k] = true := by simpa using a3
          have a2 : p0 < l[k].seq := by simpa using a2
          subst a1
          simp [a3, a2] at hs
          refine ⟨l.length - (k + 1), wS2 ⟨next, lb, l, mark⟩ ⟨p0, p1⟩ mk true (acc ++ [⟨p0, p1⟩]) (k + 1), LeX.of [(100, 65)] rfl ⟨⟨rfl, rfl⟩, ⟨rfl, rfl⟩, ⟨rfl, rfl⟩, ⟨rfl, rfl⟩, ⟨rfl, rfl⟩, ⟨congrArg aI (wrap_in (↑k + 1) (by omega)), rfl⟩, trivial⟩ ⟨⟨rfl, rfl⟩, ⟨rfl, rfl⟩, ⟨rfl, rfl⟩, ⟨rfl, rfl⟩, ⟨congrArg (fun q => some (Ent.row 109 2 q)) (by simp [aPt, aI]), rfl⟩, trivial⟩, by omega, k + 1, true, acc ++ [⟨p0, p1⟩], rfl, by omega, ?_, by first | omega | (simp; omega), rfl⟩
          simpa using hs
        · have a1 : (!put) = true := by assumption
          have a2 : decide (p0 < l[k].seq) = false := by assumption
          have a3 : (!implies ⟨p0, p1⟩ l[k]) = true := by assumption
          have a1 : put = false := by simpa using a1
          have a3 : implies ⟨p0, p1⟩ l[k] = false := by simpa using a3
          have a2 : ¬ p0 < l[k].seq := by simpa using a2
          subst a1
          simp [a3, a2] at hs
          refine ⟨l.length - (k + 1), wS2 ⟨next, lb, l, mark⟩ ⟨p0, p1⟩ mk false (acc ++ [l[k]]) (k + 1), LeX.of [(100, 83)] rfl ⟨⟨rfl, rfl⟩, ⟨rfl, rfl⟩, ⟨rfl, rfl⟩, ⟨rfl, rfl⟩, ⟨rfl, rfl⟩, ⟨congrArg aI (wrap_in (↑k + 1) (by omega)), rfl⟩, trivial⟩ ⟨⟨rfl, rfl⟩, ⟨rfl, rfl⟩, ⟨rfl, rfl⟩, ⟨rfl, rfl⟩, ⟨congrArg (fun q => some (Ent.row 109 2 q)) (by simp [aPt, aI]), rfl⟩, trivial⟩, by omega, k + 1, false, acc ++ [l[k]], rfl, by omega, ?_, by first | omega | (simp; omega), rfl⟩
          simpa using hs
        · have a1 : (!put) = true := by assumption
          have a2 : decide (p0 < l[k].seq) = false := by assumption
          have a3 : (!implies ⟨p0, p1⟩ l[k]) = false := by assumption
          have a1 : put = false := by simpa using a1
          have a3 : implies ⟨p0, p1⟩ l[k] = true := by simpa using a3
          have a2 : ¬ p0 < l[k].seq := by simpa using a2
          subst a1
          simp [a3, a2] at hs
          refine ⟨l.length - (k + 1), wS2 ⟨next, lb, l, mark⟩ ⟨p0, p1⟩ mk false (acc) (k + 1), LeX.of [(100, 100)] rfl ⟨⟨rfl, rfl⟩, ⟨rfl, rfl⟩, ⟨rfl, rfl⟩, ⟨rfl, rfl⟩, ⟨rfl, rfl⟩, ⟨congrArg aI (wrap_in (↑k + 1) (by omega)), rfl⟩, trivial⟩ ⟨⟨rfl, rfl⟩, ⟨rfl, rfl⟩, ⟨rfl, rfl⟩, ⟨rfl, rfl⟩, ⟨rfl, rfl⟩, trivial⟩, by omega, k + 1, false, acc, rfl, by omega, ?_, by first | omega | (simp; omega), rfl⟩
          simpa using hs
        · have a1 : (!put) = false := by assumption
          have a3 : (!implies ⟨p0, p1⟩ l[k]) = true := by assumption
          have a1 : put = true := by simpa using a1
          have a3 : implies ⟨p0, p1⟩ l[k] = false := by simpa using a3
          subst a1
          simp [a3] at hs
          refine ⟨l.length - (k + 1), wS2 ⟨next, lb, l, mark⟩ ⟨p0, p1⟩ mk true (acc ++ [l[k]]) (k + 1), LeX.of [(100, 83)] rfl ⟨⟨rfl, rfl⟩, ⟨rfl, rfl⟩, ⟨rfl, rfl⟩, ⟨rfl, rfl⟩, ⟨rfl, rfl⟩, ⟨congrArg aI (wrap_in (↑k + 1) (by omega)), rfl⟩, trivial⟩ ⟨⟨rfl, rfl⟩, ⟨rfl, rfl⟩, ⟨rfl, rfl⟩, ⟨rfl, rfl⟩, ⟨congrArg (fun q => some (Ent.row 109 2 q)) (by simp [aPt, aI]), rfl⟩, trivial⟩, by omega, k + 1, true, acc ++ [l[k]], rfl, by omega, ?_, by first | omega | (simp; omega), rfl⟩
          simpa using hs
        · have a1 : (!put) = false := by assumption
          have a3 : (!implies ⟨p0, p1⟩ l[k]) = false := by assumption
          have a1 : put = true := by simpa using a1
          have a3 : implies ⟨p0, p1⟩ l[k] = true := by simpa using a3
          subst a1
          simp [a3] at hs
          refine ⟨l.length - (k + 1), wS2 ⟨next, lb, l, mark⟩ ⟨p0, p1⟩ mk true (acc) (k + 1), LeX.of [(100, 100)] rfl ⟨⟨rfl, rfl⟩, ⟨rfl, rfl⟩, ⟨rfl, rfl⟩, ⟨rfl, rfl⟩, ⟨rfl, rfl⟩, ⟨congrArg aI (wrap_in (↑k + 1) (by omega)), rfl⟩, trivial⟩ ⟨⟨rfl, rfl⟩, ⟨rfl, rfl⟩, ⟨rfl, rfl⟩, ⟨rfl, rfl⟩, ⟨rfl, rfl⟩, trivial⟩, by omega, k + 1, true, acc, rfl, by omega, ?_, by first | omega | (simp; omega), rfl⟩
          simpa using hs
      · refine AW.step ?_; conv => whnf
        refine CondX.mk (fun h => by simp at h; omega) (fun h => ?_)
        refine AW.step ?_; conv => whnf
        refine AW.step ?_; conv => whnf
        rw [List.drop_eq_nil_of_le (by omega)] at hs
        rw [hW']
        rw [← hs]
        refine CondX.mk (fun h => ?_) (fun h => ?_) <;> (refine AW.step ?_; conv => whnf)
        · have a1 : put = false := by simpa using h
          subst a1
          refine AppX.mk (by simp; omega) (by simp; omega) ?_
          refine AW.step ?_; conv => whnf
          exact RetX.mk (by simp [withLoop, aTrk, aPts, aPt, aI, aInts])
        · have a1 : put = true := by simpa using h
          subst a1
          exact RetX.mk (by simp [withLoop, aTrk, aPts, aPt, aI, aInts])
end Go.Proofs.YtimkhfaddnanhaaGreat
namespace Go.Proofs.YtimkhfaddnanhaaGreat
open Go.RowKit

theorem sub_zero : Sub (.agg [.int .i64 0, .nils, .nils, .int .i64 0]) (aTrk zeroT) := .agg (.cons (.refl _) (.cons (.nil 1) (.cons (.nil 2) (.cons (.refl _) .nil))))
set_option maxRecDepth 100000 in
theorem radd_con (t : Trk) (p : Pt) (hl : t.points.length ≤ 1000000) : Con E0 false 106 [aTrk t, aPt p] (.tup [aTrk (addR t p).1, aI (addR t p).2]) := by
  refine Con.walk _ Tryz.func106 rfl (enters_of Tryz.func106 rfl rfl) rfl (Or.inl rfl) ?_
  refine AW.step ?_; conv => whnf
  refine CallX.mk _ _ (rpuCheck_con t) ?_
  refine AW.step ?_; conv => whnf
  refine CondX.mk (fun h => ?_) (fun h => ?_) <;> (refine AW.step ?_; conv => whnf)
  · have e : addR t p = (zeroT, puCheck t) := by unfold addR; rw [if_pos (by simpa using h)]
    rw [e]
    exact .sub (.tup (.cons sub_zero (.cons (.refl _) .nil)))
  have h1 : puCheck t = 0 := by simpa using h
  refine CallX.mk _ _ (rvalid_con p) ?_
  refine AW.step ?_; conv => whnf
  refine CondX.mk (fun h => ?_) (fun h => ?_) <;> (refine AW.step ?_; conv => whnf)
  · have e : addR t p = (zeroT, 2) := by unfold addR; rw [if_neg (by simp [h1]), if_pos (by simpa using h)]
    rw [e]
    exact .sub (.tup (.cons sub_zero (.cons (.refl _) .nil)))
  have h2 : ptValid p = true := by simpa using h
  refine CallX.mk _ _ (with_con t p hl) ?_
  refine AW.step ?_; conv => whnf
  refine CondX.mk (fun h => ?_) (fun h => ?_) <;> (refine AW.step ?_; conv => whnf)
  · have e : addR t p = (zeroT, 5) := by unfold addR; rw [if_neg (by simp [h1]), if_neg (by simp [h2]), if_pos (by simp at h; omega)]
    rw [e]
    exact .sub (.tup (.cons sub_zero (.cons (.refl _) .nil)))
  · have e : addR t p = (withR t p, 0) := by unfold addR; rw [if_neg (by simp [h1]), if_neg (by simp [h2]), if_neg (by simp at h; omega)]
    rw [e]
    exact RetX.mk rfl

end Go.Proofs.YtimkhfaddnanhaaGreat
namespace Go.Proofs.YtimkhfaddnanhaaGreat
open Go.RowKit

def fewT (t : Trk) : Bool := decide (t.beyond.length ≤ 300) && decide (t.points.length ≤ 300)
def few36 (l : List Trk) : Bool := (l.take 12).all fewT && decide (l.length ≤ 12)
def wChecks : List Trk → Int
  | [] => 0
  | t :: r => if puCheck t ≠ 0 then puCheck t else wChecks r
def wCheck (l : List Trk) : Int := if 8 < l.length then 5 else wChecks l
theorem wChecks_drop (l : List Trk) (k : Nat) (h : k < l.length) : wChecks (l.drop k) = if puCheck l[k] ≠ 0 then puCheck l[k] else wChecks (l.drop (k + 1)) := by
  rw [drop_cons l k h]; rfl
def leastOf (l : List Trk) : Int := l.foldl (fun m t => min m t.mark) 1099511627776
def leastAt (l : List Trk) : Nat → Int
  | 0 => -1
  | k + 1 => if leastAt l k < 0 ∨ (l.getD k zeroT).mark < (l.getD (leastAt l k).toNat zeroT).mark then k else leastAt l k
def leastIx (l : List Trk) : Int := leastAt l l.length
theorem leastAt_range (l : List Trk) (k : Nat) : (k = 0 ∧ leastAt l k = -1) ∨ (0 < k ∧ 0 ≤ leastAt l k ∧ leastAt l k < k) := by
  induction k with
  | zero => exact Or.inl ⟨rfl, rfl⟩
  | succ k ih =>
    refine Or.inr ⟨by omega, ?_⟩
    unfold leastAt
    split
    · omega
    · rcases ih with ⟨rfl, h⟩ | ih
      · rename_i hn; rw [h] at hn; simp at hn
      · omega
theorem leastAt_min (l : List Trk) (k : Nat) (hk : k ≤ l.length) (h0 : 0 < k) : ∀ i, i < k → (l.getD (leastAt l k).toNat zeroT).mark ≤ (l.getD i zeroT).mark := by
  induction k with
  | zero => omega
  | succ k ih =>
    intro i hi
    have hr := leastAt_range l k
    unfold leastAt
    split
    · rename_i h
      rcases Nat.eq_zero_or_pos k with rfl | hpos
      · have : i = 0 := by omega
        subst this
        simp
      · have := ih (by omega) hpos
        simp only [Int.toNat_natCast]
        by_cases hik : i = k
        · subst hik; exact Int.le_refl _
        · have := this i (by omega)
          omega
    · rename_i h
      have hpos : 0 < k := by
        rcases hr with ⟨rfl, h1⟩ | h1
        · rw [h1] at h; simp at h
        · exact h1.1
      by_cases hik : i = k
      · subst hik; omega
      · exact ih (by omega) hpos i (by omega)
def wGlobal (l : List Trk) : Int × Int := if wCheck l ≠ 0 then (0, wCheck l) else (leastOf l, 0)
def wGlobalP (l : List Trk) : Int × Int := if wCheck l ≠ 0 then (0, wCheck l) else (if 0 ≤ leastIx l then (l.getD (leastIx l).toNat zeroT).mark else 1099511627776, 0)
theorem wCheck_len (l : List Trk) (h : wCheck l = 0) : l.length ≤ 8 := by
  unfold wCheck at h
  split at h
  · simp at h
  · omega
theorem foldl_min (l : List Trk) (m : Int) : (∀ t ∈ l, l.foldl (fun m t => min m t.mark) m ≤ t.mark) ∧ l.foldl (fun m t => min m t.mark) m ≤ m ∧ (l.foldl (fun m t => min m t.mark) m = m ∨ ∃ t ∈ l, l.foldl (fun m t => min m t.mark) m = t.mark) := by
  induction l generalizing m with
  | nil => exact ⟨fun t h => by simp at h, Int.le_refl _, Or.inl rfl⟩
  | cons x r ih =>
    obtain ⟨h1, h2, h3⟩ := ih (min m x.mark)
    simp only [List.foldl_cons]
    refine ⟨fun t ht => ?_, by omega, ?_⟩
    · rcases List.mem_cons.1 ht with rfl | ht
      · omega
      · exact h1 t ht
    · rcases h3 with h3 | ⟨t, ht, h3⟩
      · rcases Int.le_total m x.mark with hm | hm
        · exact Or.inl (by rw [h3, Int.min_eq_left hm])
        · exact Or.inr ⟨x, by simp, by rw [h3, Int.min_eq_right hm]⟩
      · exact Or.inr ⟨t, by simp [ht], h3⟩
theorem wChecks_zero (l : List Trk) : wChecks l = 0 ↔ ∀ t ∈ l, puCheck t = 0 := by
  induction l with
  | nil => simp [wChecks]
  | cons x r ih =>
    unfold wChecks
    by_cases h : puCheck x = 0
    · rw [if_neg (by simp [h]), ih]; simp [h]
    · rw [if_pos h]; simp [h]
theorem wCheck_zero (l : List Trk) : wCheck l = 0 ↔ l.length ≤ 8 ∧ ∀ t ∈ l, TOk t := by
  unfold wCheck
  split
  · constructor
    · intro h; simp at h
    · intro h; omega
  · rw [wChecks_zero]
    exact ⟨fun h => ⟨by omega, fun t ht => (puCheck_zero t).1 (h t ht)⟩, fun h t ht => (puCheck_zero t).2 (h.2 t ht)⟩
theorem wGlobal_eq (l : List Trk) : wGlobalP l = wGlobal l := by
  unfold wGlobalP wGlobal
  by_cases h : wCheck l = 0
  · have hne : ¬ wCheck l ≠ 0 := by simp [h]
    simp only [if_neg hne]
    obtain ⟨hl, hok⟩ := (wCheck_zero l).1 h
    obtain ⟨f1, f2, f3⟩ := foldl_min l 1099511627776
    have hr : (l.length = 0 ∧ leastIx l = -1) ∨ (0 < l.length ∧ 0 ≤ leastIx l ∧ leastIx l < l.length) := leastAt_range l l.length
    rcases hr with ⟨h0, h1⟩ | ⟨h0, h1, h2⟩
    · have : l = [] := List.length_eq_zero_iff.1 h0
      subst this
      rw [if_neg (by rw [h1]; omega)]; rfl
    · rw [if_pos h1]
      have hm := leastAt_min l l.length (Nat.le_refl _) h0
      have hj : (leastIx l).toNat < l.length := by omega
      have hg : l.getD (leastIx l).toNat zeroT = l[(leastIx l).toNat] := by simp [hj]
      have hin : l[(leastIx l).toNat] ∈ l := List.getElem_mem _
      have q1 := f1 _ hin
      have q2 := (hok _ hin).mark
      have : (l.getD (leastIx l).toNat zeroT).mark = leastOf l := by
        unfold leastOf
        rw [hg]
        rcases f3 with f3 | ⟨t, ht, f3⟩
        · omega
        · obtain ⟨i, hi, rfl⟩ := List.getElem_of_mem ht
          have q3 := hm i hi
          have e1 : l.getD (leastAt l l.length).toNat zeroT = l[(leastIx l).toNat] := hg
          rw [e1, show l.getD i zeroT = l[i] by simp [hi]] at q3
          omega
      rw [this]
  · rw [if_pos h, if_pos h]
end Go.Proofs.YtimkhfaddnanhaaGreat
namespace Go.Proofs.YtimkhfaddnanhaaGreat
open Go.RowKit

def F_puCheck (n : Nat) (t : Trk) : Option Int := some (puCheck t)
def R_puCheck (r : Int) : AV := aI r
theorem con_puCheck {n : Nat} {t : Trk} {r : Int} (h : F_puCheck n t = some r) : Con E0 true 93 [aTrk t] (R_puCheck r) := by
  injection h with h; subst h; exact puCheck_con t
theorem con_rpuCheck {n : Nat} {t : Trk} {r : Int} (h : F_puCheck n t = some r) : Con E0 true 74 [aTrk t] (R_puCheck r) := by
  injection h with h; subst h; exact rpuCheck_con t
def F_puAllows (n : Nat) (t : Trk) (seq time : Int) : Option (Bool × Int) := if t.beyond.length ≤ 1000000000 ∧ t.points.length ≤ 1000000000 then some (allowsT t seq time) else none
def R_puAllows (r : Bool × Int) : AV := .tup [.bool r.1, aI r.2]
theorem con_puAllows {n : Nat} {t : Trk} {seq time : Int} {r : Bool × Int} (h : F_puAllows n t seq time = some r) : Con E0 true 129 [aTrk t, aI seq, aI time] (R_puAllows r) := by
  unfold F_puAllows at h
  split at h
  · rename_i hl; injection h with h; subst h; exact allows_con t seq time hl.1 hl.2
  · cases h
theorem con_rpuAllows {n : Nat} {t : Trk} {seq time : Int} {r : Bool × Int} (h : F_puAllows n t seq time = some r) : Con E0 true 108 [aTrk t, aI seq, aI time] (R_puAllows r) := by
  unfold F_puAllows at h
  split at h
  · rename_i hl
    injection h with h
    subst h
    rw [← allows_eq]
    exact Con.of3 (enters_of Tryz.func108 rfl rfl) fun S w x y z hx hy hz => by
      rw [hy.int_inv, hz.int_inv]
      exact (rallows_any t seq time S x w (rep_trk.1 hx) hl.1 hl.2).mono fun e w' ⟨h1, h2⟩ => ⟨_, h1, h2, rep_be _ _⟩
  · cases h
def F_puAdd (n : Nat) (t : Trk) (p : Pt) : Option (Trk × Int) := if t.beyond.length ≤ 1000000 ∧ t.points.length ≤ 1000000 then some (addT t p) else none
def R_puAdd (r : Trk × Int) : AV := .tup [aTrk r.1, aI r.2]
theorem con_puAdd {n : Nat} {t : Trk} {p : Pt} {r : Trk × Int} (h : F_puAdd n t p = some r) : Con E0 true 133 [aTrk t, aPt p] (R_puAdd r) := by
  unfold F_puAdd at h
  split at h
  · rename_i hl; injection h with h; subst h; exact add_con t p hl.1 hl.2
  · cases h
def F_rpuAdd (n : Nat) (t : Trk) (p : Pt) : Option (Trk × Int) := if t.points.length ≤ 1000000 then some (addR t p) else none
theorem con_rpuAdd {n : Nat} {t : Trk} {p : Pt} {r : Trk × Int} (h : F_rpuAdd n t p = some r) : Con E0 false 106 [aTrk t, aPt p] (R_puAdd r) := by
  unfold F_rpuAdd at h
  split at h
  · rename_i hl; injection h with h; subst h; exact radd_con t p hl
  · cases h
def F_puSettle (n : Nat) (t : Trk) : Option (Trk × Int) := if t.beyond.length ≤ 1000000000 ∧ t.points.length ≤ 1000000000 then some (settleT t) else none
theorem con_puSettle {n : Nat} {t : Trk} {r : Trk × Int} (h : F_puSettle n t = some r) : Con E0 true 131 [aTrk t] (R_puAdd r) := by
  unfold F_puSettle at h
  split at h
  · rename_i hl
    injection h with h
    subst h
    exact Con.of1 (enters_of Tryz.func131 rfl rfl) fun S w x hx => by
      refine (settle_any t S x w (rep_trk.1 hx) hl.1 hl.2).mono fun e w' ⟨A, c, A', c', h1, h2, h3, h4⟩ => ⟨_, h1, h4, ?_⟩
      have := rep_trk.2 (RetTE.trkV h2 h3)
      refine .tup _ rfl fun i hi => ?_
      have hi' : i < 2 := hi
      rcases i with _ | _ | i
      · exact this.mono (Nat.le_refl _) (fun b hb _ => ⟨rfl, Or.inr hb⟩)
      · exact .int _ _
      · omega
  · cases h
end Go.Proofs.YtimkhfaddnanhaaGreat
namespace Go.Proofs.YtimkhfaddnanhaaGreat
open Go.RowKit
open Go.Sort (HoldsK flatK putRowK putRow putCells mapBlock onCells size_flatK get_flatK)

section
variable {T : Type}
end
end Go.Proofs.YtimkhfaddnanhaaGreat
namespace Go.Proofs.YtimkhfaddnanhaaGreat
open Go.RowKit
def F_sequence_Begin (n : Nat) : Option (Trk) :=
  some (⟨0, [], [], (-1)⟩)
def F_watermark_Begin_l1 (n : Nat) (x1 : (List Trk)) (k1_0_0 : (List Trk) → Option ((List Trk) × Int)) : Nat → Int × (List Trk) → Option ((List Trk) × Int)
  | 0, _ => none
  | mv1_0 + 1, v1_0 =>
    cnd (decide (v1_0.1 < (((List.map aTrk (x1)).length : Nat) : Int)))
      (bnd (F_sequence_Begin n) fun x43 =>
      nat v1_0.1 (List.map aTrk (v1_0.2)).length fun x44 =>
      stx v1_0.2 x44 (fun x45 => x43) fun x46 =>
      F_watermark_Begin_l1 n x1 k1_0_0 mv1_0 ((IntKind.wrap .i64 (v1_0.1 + 1)), x46))
    <| k1_0_0 v1_0.2
def F_watermark_Begin (n : Nat) (a0 : Int) : Option ((List Trk) × Int) :=
  cnd (decide (a0 < 0))
    (some ([], 2))
  <| cnd (decide (8 < a0))
    (some ([], 2))
  <| mak a0 64 (⟨0, [], [], 0⟩ : Trk) fun x1 =>
  F_watermark_Begin_l1 n x1
    (fun k1_0_0y => some (k1_0_0y, 0)) n (0, x1)
def F_tidegateref34_Begin (n : Nat) : Option (Trk) :=
  some (⟨0, [], [], (-1)⟩)
def F_tidegateref36_Begin_l1 (n : Nat) (a0 : Int) (k1_0_0 : (List Trk) → Option ((List Trk) × Int)) : Nat → Int × (List Trk) → Option ((List Trk) × Int)
  | 0, _ => none
  | mv1_0 + 1, v1_0 =>
    cnd (decide (v1_0.1 < a0))
      (bnd (F_tidegateref34_Begin n) fun x42 =>
      app v1_0.2 [x42] 64 fun x43 =>
      F_tidegateref36_Begin_l1 n a0 k1_0_0 mv1_0 ((IntKind.wrap .i64 (v1_0.1 + 1)), x43))
    <| k1_0_0 v1_0.2
def F_tidegateref36_Begin (n : Nat) (a0 : Int) : Option ((List Trk) × Int) :=
  cnd (decide (a0 < 0))
    (some ([], 2))
  <| cnd (decide (8 < a0))
    (some ([], 2))
  <| F_tidegateref36_Begin_l1 n a0
    (fun k1_0_0y => some (k1_0_0y, 0)) n (0, [])
structure T_api_Message where
  fKind : Int
  fEvent : T_api_Event
  fSource : Int
  fSeq : Int
  fTime : Int
deriving DecidableEq, Inhabited
def e_api_Message (x : T_api_Message) : AV := .agg [aI (x.fKind), aI (x.fEvent.fSource), aI (x.fEvent.fSeq), aI (x.fEvent.fType), aI (x.fEvent.fTime), .sl 3 (List.map e_api_Value (x.fEvent.fValues)), aI (x.fSource), aI (x.fSeq), aI (x.fTime)]
def F_watermark_ranged (n : Nat) (a0 : Int) (a1 : Int) : Option (Bool) :=
  cnd (decide (0 ≤ a0))
    (some (decide (a0 ≤ a1)))
  <| some false
def F_watermark_checkEvent (n : Nat) (a0 : T_api_Message) : Option (Int) :=
  cnd (!decide (a0.fSource = 0))
    (some 3)
  <| cnd (!decide (a0.fSeq = 0))
    (some 3)
  <| cnd (!decide (a0.fTime = 0))
    (some 3)
  <| bnd (F_watermark_ranged n a0.fEvent.fSource 7) fun x1 =>
  cnd (!(x1))
    (some 2)
  <| bnd (F_watermark_ranged n a0.fEvent.fSeq 1099511627776) fun x2 =>
  cnd (!(x2))
    (some 2)
  <| bnd (F_watermark_ranged n a0.fEvent.fTime 1099511627776) fun x3 =>
  cnd (!(x3))
    (some 2)
  <| some 0
def F_watermark_valid (n : Nat) (a0 : T_api_Message) : Option (Bool) :=
  bnd (F_sequence_Begin n) fun x1 =>
  bnd (F_puAdd n x1 (⟨a0.fSeq, a0.fTime⟩ : Pt)) fun x2 =>
  some (decide (x2.2 = 0))
def F_watermark_checkPoint (n : Nat) (a0 : T_api_Message) : Option (Int) :=
  cnd (!decide (a0.fEvent.fSource = 0))
    (some 3)
  <| cnd (!decide (a0.fEvent.fSeq = 0))
    (some 3)
  <| cnd (!decide (a0.fEvent.fType = 0))
    (some 3)
  <| cnd (!decide (a0.fEvent.fTime = 0))
    (some 3)
  <| cnd (decide (0 < (((List.map e_api_Value (a0.fEvent.fValues)).length : Nat) : Int)))
    (some 3)
  <| bnd (F_watermark_ranged n a0.fSource 7) fun x1 =>
  cnd (!(x1))
    (some 2)
  <| bnd (F_watermark_valid n a0) fun x2 =>
  cnd (!(x2))
    (some 2)
  <| some 0
def F_watermark_CheckMessage (n : Nat) (a0 : T_api_Message) : Option (Int) :=
  cnd (decide (a0.fKind < 0))
    (some 1)
  <| cnd (decide (2 ≤ a0.fKind))
    (some 1)
  <| cnd (decide (a0.fKind = 0))
    (bnd (F_watermark_checkEvent n a0) fun x1 =>
  some x1)
  <| cnd (decide (a0.fKind = 1))
    (bnd (F_watermark_checkPoint n a0) fun x2 =>
  some x2)
  <| none
def F_tidegateref36_within (n : Nat) (a0 : Int) (a1 : Int) : Option (Bool) :=
  cnd (decide (0 ≤ a0))
    (some (decide (a0 ≤ a1)))
  <| some false
def F_tidegateref35_Valid (n : Nat) (a0 : Pt) : Option (Bool) :=
  cnd (decide (0 ≤ a0.seq))
    (cnd (decide (a0.seq ≤ 1099511627777))
      (cnd (decide (0 ≤ a0.time))
        (some (decide (a0.time ≤ 1099511627776)))
      <| some false)
    <| some false)
  <| some false
def F_tidegateref36_CheckMessage (n : Nat) (a0 : T_api_Message) : Option (Int) :=
  cnd (decide (a0.fKind = 0))
    (cnd (!decide (a0.fSource = 0))
      (some 3)
    <| cnd (!decide (a0.fSeq = 0))
      (some 3)
    <| cnd (!decide (a0.fTime = 0))
      (some 3)
    <| bnd (F_tidegateref36_within n a0.fEvent.fSource 7) fun x1 =>
    cnd (!(x1))
      (some 2)
    <| bnd (F_tidegateref36_within n a0.fEvent.fSeq 1099511627776) fun x2 =>
    cnd (!(x2))
      (some 2)
    <| bnd (F_tidegateref36_within n a0.fEvent.fTime 1099511627776) fun x3 =>
    cnd (!(x3))
      (some 2)
    <| some 0)
  <| cnd (decide (a0.fKind = 1))
    (cnd (!decide (a0.fEvent.fSource = 0))
      (some 3)
    <| cnd (!decide (a0.fEvent.fSeq = 0))
      (some 3)
    <| cnd (!decide (a0.fEvent.fType = 0))
      (some 3)
    <| cnd (!decide (a0.fEvent.fTime = 0))
      (some 3)
    <| cnd (!decide ((((List.map e_api_Value (a0.fEvent.fValues)).length : Nat) : Int) = 0))
      (some 3)
    <| bnd (F_tidegateref36_within n a0.fSource 7) fun x4 =>
    cnd (!(x4))
      (some 2)
    <| bnd (F_tidegateref35_Valid n (⟨a0.fSeq, a0.fTime⟩ : Pt)) fun x5 =>
    cnd (!(x5))
      (some 2)
    <| some 0)
  <| some 1
def F_watermark_Check_l1 (n : Nat) (a0 : (List Trk)) (k1_0_0 : Option (Int)) : Nat → Int → Option (Int)
  | 0, _ => none
  | mv1_0 + 1, v1_0 =>
    cnd (decide (v1_0 < (((List.map aTrk (a0)).length : Nat) : Int)))
      (idx a0 v1_0 fun x41 =>
      bnd (F_puCheck n x41) fun x42 =>
      cnd (!decide (x42 = 0))
        (some x42)
      <| F_watermark_Check_l1 n a0 k1_0_0 mv1_0 (IntKind.wrap .i64 (v1_0 + 1)))
    <| k1_0_0
def F_watermark_Check (n : Nat) (a0 : (List Trk)) : Option (Int) :=
  cnd (decide (8 < (((List.map aTrk (a0)).length : Nat) : Int)))
    (some 5)
  <| F_watermark_Check_l1 n a0
    (some 0) n 0
def F_tidegateref36_Check_l1 (n : Nat) (a0 : (List Trk)) (k1_0_0 : Option (Int)) : Nat → Int → Option (Int)
  | 0, _ => none
  | mv1_0 + 1, v1_0 =>
    cnd (decide (v1_0 < (((List.map aTrk (a0)).length : Nat) : Int)))
      (idx a0 v1_0 fun x41 =>
      bnd (F_puCheck n x41) fun x42 =>
      cnd (!decide (x42 = 0))
        (some x42)
      <| F_tidegateref36_Check_l1 n a0 k1_0_0 mv1_0 (IntKind.wrap .i64 (v1_0 + 1)))
    <| k1_0_0
def F_tidegateref36_Check (n : Nat) (a0 : (List Trk)) : Option (Int) :=
  cnd (decide (8 < (((List.map aTrk (a0)).length : Nat) : Int)))
    (some 5)
  <| F_tidegateref36_Check_l1 n a0
    (some 0) n 0
def F_watermark_least_l1 (n : Nat) (a0 : (List Trk)) (k1_0_0 : Int → Option (Int)) : Nat → Int × Int → Option (Int)
  | 0, _ => none
  | mv1_0 + 1, v1_0 =>
    cnd (decide (v1_0.2 < (((List.map aTrk (a0)).length : Nat) : Int)))
      (idx a0 v1_0.2 fun x42 =>
      cnd (decide (v1_0.1 < 0))
        (F_watermark_least_l1 n a0 k1_0_0 mv1_0 (v1_0.2, (IntKind.wrap .i64 (v1_0.2 + 1))))
      <| idx a0 v1_0.1 fun x43 =>
      cnd (decide (x42.mark < x43.mark))
        (F_watermark_least_l1 n a0 k1_0_0 mv1_0 (v1_0.2, (IntKind.wrap .i64 (v1_0.2 + 1))))
      <| F_watermark_least_l1 n a0 k1_0_0 mv1_0 (v1_0.1, (IntKind.wrap .i64 (v1_0.2 + 1))))
    <| k1_0_0 v1_0.1
def F_watermark_least (n : Nat) (a0 : (List Trk)) : Option (Int) :=
  F_watermark_least_l1 n a0
    (fun k1_0_0y => some k1_0_0y) n ((-1), 0)
def F_watermark_Global (n : Nat) (a0 : (List Trk)) : Option (Int × Int) :=
  bnd (F_watermark_Check n a0) fun x1 =>
  cnd (!decide (x1 = 0))
    (some (0, x1))
  <| bnd (F_watermark_least n a0) fun x2 =>
  cnd (decide (0 ≤ x2))
    (idx a0 x2 fun x3 =>
    some (x3.mark, 0))
  <| some (1099511627776, 0)
def F_tidegateref36_Least_l1 (n : Nat) (a0 : (List Trk)) (k1_0_0 : Int → Option (Int)) : Nat → Int × Int → Option (Int)
  | 0, _ => none
  | mv1_0 + 1, v1_0 =>
    cnd (decide (v1_0.2 < (((List.map aTrk (a0)).length : Nat) : Int)))
      (idx a0 v1_0.2 fun x42 =>
      F_tidegateref36_Least_l1 n a0 k1_0_0 mv1_0 ((min v1_0.1 x42.mark), (IntKind.wrap .i64 (v1_0.2 + 1))))
    <| k1_0_0 v1_0.1
def F_tidegateref36_Least (n : Nat) (a0 : (List Trk)) : Option (Int) :=
  F_tidegateref36_Least_l1 n a0
    (fun k1_0_0y => some k1_0_0y) n (1099511627776, 0)
def F_tidegateref36_Global (n : Nat) (a0 : (List Trk)) : Option (Int × Int) :=
  bnd (F_tidegateref36_Check n a0) fun x1 =>
  cnd (!decide (x1 = 0))
    (some (0, x1))
  <| bnd (F_tidegateref36_Least n a0) fun x2 =>
  some (x2, 0)
def F_watermark_kinds_1 (n : Nat) (a0 : T_api_Message) : Option (Int) :=
  some a0.fEvent.fSource
def F_sequence_Check_l1 (n : Nat) (a0 : Trk) (k1_0_0 : Option (Int)) : Nat → Int × Int → Option (Int)
  | 0, _ => none
  | mv1_0 + 1, v1_0 =>
    cnd (decide (v1_0.2 < (((List.map aI (a0.beyond)).length : Nat) : Int)))
      (idx a0.beyond v1_0.2 fun x41 =>
      cnd (decide (x41 < 0))
        (some 2)
      <| cnd (decide (1099511627776 < x41))
        (some 2)
      <| cnd (decide (x41 ≤ v1_0.1))
        (some 14)
      <| F_sequence_Check_l1 n a0 k1_0_0 mv1_0 (x41, (IntKind.wrap .i64 (v1_0.2 + 1))))
    <| k1_0_0
def F_sequence_Check (n : Nat) (a0 : Trk) : Option (Int) :=
  cnd (decide (a0.next < 0))
    (some 2)
  <| cnd (decide (1099511627777 < a0.next))
    (some 2)
  <| cnd (decide (256 < (((List.map aI (a0.beyond)).length : Nat) : Int)))
    (some 5)
  <| F_sequence_Check_l1 n a0
    (some 0) n (a0.next, 0)
def F_sequence_place_1 (n : Nat) (a0 : Int) (a1 : (List Int)) (a2 : Int) : Option (Bool) :=
  idx a1 a0 fun x1 =>
  some (decide (a2 ≤ x1))
def F_sort_Search_l1 (n : Nat) (a1c1 : Int) (a1c0 : (List Int)) (k1_0_0 : Int → Option (Int)) : Nat → Int × Int → Option (Int)
  | 0, _ => none
  | mv1_0 + 1, v1_0 =>
    cnd (decide (v1_0.1 < v1_0.2))
      (shx (1 : Int) <| bnd (F_sequence_place_1 n (IntKind.wrap .i64 (Int.fdiv (IntKind.wrap .u64 (IntKind.wrap .i64 (v1_0.1 + v1_0.2))) (2 ^ min (Int.toNat (1 : Int)) (IntKind.bits .u64)))) a1c0 a1c1) fun x42 =>
      cnd (!(x42))
        (F_sort_Search_l1 n a1c1 a1c0 k1_0_0 mv1_0 ((IntKind.wrap .i64 ((IntKind.wrap .i64 (Int.fdiv (IntKind.wrap .u64 (IntKind.wrap .i64 (v1_0.1 + v1_0.2))) (2 ^ min (Int.toNat (1 : Int)) (IntKind.bits .u64)))) + 1)), v1_0.2))
      <| F_sort_Search_l1 n a1c1 a1c0 k1_0_0 mv1_0 (v1_0.1, (IntKind.wrap .i64 (Int.fdiv (IntKind.wrap .u64 (IntKind.wrap .i64 (v1_0.1 + v1_0.2))) (2 ^ min (Int.toNat (1 : Int)) (IntKind.bits .u64))))))
    <| k1_0_0 v1_0.1
def F_sort_Search (n : Nat) (a0 : Int) (a1c0 : (List Int)) (a1c1 : Int) : Option (Int) :=
  F_sort_Search_l1 n a1c1 a1c0
    (fun k1_0_0y => some k1_0_0y) n (0, a0)
def F_sequence_place (n : Nat) (a0 : (List Int)) (a1 : Int) : Option (Int) :=
  bnd (F_sort_Search n (((List.map aI (a0)).length : Nat) : Int) a0 a1) fun x1 =>
  some x1
def F_sequence_has (n : Nat) (a0 : Trk) (a1 : Int) : Option (Bool) :=
  cnd (decide (a1 < a0.next))
    (some (decide (0 ≤ a1)))
  <| bnd (F_sequence_place n a0.beyond a1) fun x1 =>
  cnd (decide (x1 < (((List.map aI (a0.beyond)).length : Nat) : Int)))
    (idx a0.beyond x1 fun x2 =>
    some (decide (x2 = a1)))
  <| some false
def F_sequence_Has (n : Nat) (a0 : Trk) (a1 : Int) : Option (Bool × Int) :=
  bnd (F_sequence_Check n a0) fun x1 =>
  cnd (!decide (x1 = 0))
    (some (false, x1))
  <| bnd (F_sequence_has n a0 a1) fun x2 =>
  some (x2, 0)
def F_sequence_with_l1 (n : Nat) (a0 : Trk) (x2 : (List Pt)) (k1_0_0 : Int → (List Int) → (List Pt) → Option (Trk)) : Nat → Int × (List Int) → Option (Trk)
  | 0, _ => none
  | mv1_0 + 1, v1_0 =>
    cnd (decide (0 < (((List.map aI (v1_0.2)).length : Nat) : Int)))
      (idx v1_0.2 0 fun x48 =>
      cnd (decide (x48 = v1_0.1))
        (reg <| sls v1_0.2 1 (((List.map aI (v1_0.2)).length : Nat) : Int) fun x49 =>
        F_sequence_with_l1 n a0 x2 k1_0_0 mv1_0 ((IntKind.wrap .i64 (v1_0.1 + 1)), x49))
      <| k1_0_0 v1_0.1 v1_0.2 x2)
    <| k1_0_0 v1_0.1 v1_0.2 x2
def F_sequence_with (n : Nat) (a0 : Trk) (a1 : Int) : Option (Trk) :=
  bndR (F_clone n a0.beyond) fun x1 =>
  bnd (F_clone n a0.points) fun x2 =>
  cnd (decide (a0.next < a1))
    (bnd (F_sequence_place n x1 a1) fun x3 =>
    bndC (F_insert n x1 x3 [a1]) fun x4 =>
    some (⟨a0.next, x4, x2, a0.mark⟩))
  <| F_sequence_with_l1 n a0 x2
    (fun k1_0_0y0 k1_0_0y1 k1_0_0y2 => some (⟨k1_0_0y0, k1_0_0y1, k1_0_0y2, a0.mark⟩)) n ((IntKind.wrap .i64 (a0.next + 1)), x1)
def F_sequence_Receive (n : Nat) (a0 : Trk) (a1 : Int) : Option (Trk × Bool × Int) :=
  bnd (F_sequence_Check n a0) fun x1 =>
  cnd (!decide (x1 = 0))
    (some (⟨0, [], [], 0⟩, false, x1))
  <| cnd (decide (a1 < 0))
    (some (⟨0, [], [], 0⟩, false, 2))
  <| cnd (decide (1099511627776 < a1))
    (some (⟨0, [], [], 0⟩, false, 2))
  <| bnd (F_sequence_has n a0 a1) fun x2 =>
  cnd (x2)
    (bnd (F_clone n a0.beyond) fun x3 =>
    bnd (F_clone n a0.points) fun x4 =>
    some (⟨a0.next, x3, x4, a0.mark⟩, false, 0))
  <| bnd (F_sequence_with n a0 a1) fun x5 =>
  cnd (decide (256 < (((List.map aI (x5.beyond)).length : Nat) : Int)))
    (some (⟨0, [], [], 0⟩, false, 5))
  <| some (x5, true, 0)
def F_watermark_receiveEvent (n : Nat) (a0 : Trk) (a1 : T_api_Message) : Option (Trk × Bool × Int) :=
  bnd (F_sequence_Has n a0 a1.fEvent.fSeq) fun x1 =>
  cnd (!decide (x1.2 = 0))
    (some (a0, false, x1.2))
  <| cnd (x1.1)
    (some (a0, false, x1.2))
  <| bnd (F_puAllows n a0 a1.fEvent.fSeq a1.fEvent.fTime) fun x2 =>
  cnd (!decide (x2.2 = 0))
    (some (a0, false, x2.2))
  <| cnd (!(x2.1))
    (some (a0, false, 19))
  <| bnd (F_sequence_Receive n a0 a1.fEvent.fSeq) fun x3 =>
  cnd (!decide (x3.2.2 = 0))
    (some (a0, false, x3.2.2))
  <| bnd (F_puSettle n x3.1) fun x4 =>
  some (x4.1, true, x4.2)
def F_watermark_kinds_2 (n : Nat) (a0 : T_api_Message) : Option (Int) :=
  some a0.fSource
def F_watermark_receivePoint (n : Nat) (a0 : Trk) (a1 : T_api_Message) : Option (Trk × Bool × Int) :=
  bnd (F_puAdd n a0 (⟨a1.fSeq, a1.fTime⟩ : Pt)) fun x1 =>
  some (x1.1, false, x1.2)
def F_watermark_receive (n : Nat) (a0 : (List Trk)) (a1 : T_api_Message) : Option ((List Trk) × Bool × Int) :=
  bnd (F_watermark_CheckMessage n a1) fun x1 =>
  cnd (!decide (x1 = 0))
    (some ([], false, x1))
  <| cnd (decide (a1.fKind = 0))
    (bnd (F_watermark_kinds_1 n a1) fun x2 =>
  cnd (decide ((((List.map aTrk (a0)).length : Nat) : Int) ≤ x2))
    (some ([], false, 32))
  <| idx a0 x2 fun x3 =>
  bnd (F_watermark_receiveEvent n x3 a1) fun x4 =>
  cnd (!decide (x4.2.2 = 0))
    (some ([], false, x4.2.2))
  <| bndR (F_clone n a0) fun x5 =>
  nat x2 (List.map aTrk (x5)).length fun x6 =>
  stx x5 x6 (fun x7 => x4.1) fun x8 =>
  some (x8, x4.2.1, 0))
  <| cnd (decide (a1.fKind = 1))
    (bnd (F_watermark_kinds_2 n a1) fun x9 =>
  cnd (decide ((((List.map aTrk (a0)).length : Nat) : Int) ≤ x9))
    (some ([], false, 32))
  <| idx a0 x9 fun x10 =>
  bnd (F_watermark_receivePoint n x10 a1) fun x11 =>
  cnd (!decide (x11.2.2 = 0))
    (some ([], false, x11.2.2))
  <| bndR (F_clone n a0) fun x12 =>
  nat x9 (List.map aTrk (x12)).length fun x13 =>
  stx x12 x13 (fun x14 => x11.1) fun x15 =>
  some (x15, x11.2.1, 0))
  <| none
def F_watermark_Receive_l1 (n : Nat) (x2 : (List Trk) × Bool × Int) (k1_0_0 : Bool → (List Trk) → Option ((List Trk) × Bool × Int)) : Nat → Int × (List Trk) → Option ((List Trk) × Bool × Int)
  | 0, _ => none
  | mv1_0 + 1, v1_0 =>
    cnd (decide (v1_0.1 < (((List.map aTrk (x2.1)).length : Nat) : Int)))
      (nat v1_0.1 (List.map aTrk (v1_0.2)).length fun x45 =>
      ltx x45 (List.map aTrk (v1_0.2)).length <| elt v1_0.2 x45 fun x46 =>
      bnd (F_clone n x46.beyond) fun x47 =>
      nat v1_0.1 (List.map aTrk (v1_0.2)).length fun x48 =>
      ltx x48 (List.map aTrk (v1_0.2)).length <| elt v1_0.2 x48 fun x49 =>
      bnd (F_clone n x49.points) fun x50 =>
      nat v1_0.1 (List.map aTrk (v1_0.2)).length fun x51 =>
      ltx x51 (List.map aTrk (v1_0.2)).length <| stx v1_0.2 x51 (fun x52 => ⟨x52.next, x47, x52.points, x52.mark⟩) fun x53 =>
      nat v1_0.1 (List.map aTrk (x53)).length fun x54 =>
      ltx x54 (List.map aTrk (x53)).length <| stx x53 x54 (fun x55 => ⟨x55.next, x55.beyond, x50, x55.mark⟩) fun x56 =>
      F_watermark_Receive_l1 n x2 k1_0_0 mv1_0 ((IntKind.wrap .i64 (v1_0.1 + 1)), x56))
    <| k1_0_0 x2.2.1 v1_0.2
def F_watermark_Receive (n : Nat) (a0 : (List Trk)) (a1 : T_api_Message) : Option ((List Trk) × Bool × Int) :=
  bnd (F_watermark_Check n a0) fun x1 =>
  cnd (!decide (x1 = 0))
    (some ([], false, x1))
  <| bndR (F_watermark_receive n a0 a1) fun x2 =>
  cnd (!decide (x2.2.2 = 0))
    (some ([], false, x2.2.2))
  <| F_watermark_Receive_l1 n x2
    (fun k1_0_0y0 k1_0_0y1 => some (k1_0_0y1, k1_0_0y0, 0)) n (0, x2.1)
def F_tidegateref36_Source (n : Nat) (a0 : T_api_Message) : Option (Int) :=
  cnd (decide (a0.fKind = 0))
    (some a0.fEvent.fSource)
  <| some a0.fSource
def F_tidegateref34_Contains_l1 (n : Nat) (a1 : Int) (a0 : Trk) (k1_0_0 : Option (Bool)) : Nat → Int → Option (Bool)
  | 0, _ => none
  | mv1_0 + 1, v1_0 =>
    cnd (decide (v1_0 < (((List.map aI (a0.beyond)).length : Nat) : Int)))
      (idx a0.beyond v1_0 fun x41 =>
      cnd (decide (x41 = a1))
        (some true)
      <| F_tidegateref34_Contains_l1 n a1 a0 k1_0_0 mv1_0 (IntKind.wrap .i64 (v1_0 + 1)))
    <| k1_0_0
def F_tidegateref34_Contains (n : Nat) (a0 : Trk) (a1 : Int) : Option (Bool) :=
  cnd (decide (a1 < a0.next))
    (some (decide (0 ≤ a1)))
  <| F_tidegateref34_Contains_l1 n a1 a0
    (some false) n 0
def F_tidegateref34_Check_l1 (n : Nat) (a0 : Trk) (k1_0_0 : Option (Int)) : Nat → Int × Int → Option (Int)
  | 0, _ => none
  | mv1_0 + 1, v1_0 =>
    cnd (decide (v1_0.2 < (((List.map aI (a0.beyond)).length : Nat) : Int)))
      (idx a0.beyond v1_0.2 fun x41 =>
      cnd (decide (x41 < 0))
        (some 2)
      <| cnd (decide (1099511627776 < x41))
        (some 2)
      <| cnd (decide (x41 ≤ v1_0.1))
        (some 14)
      <| F_tidegateref34_Check_l1 n a0 k1_0_0 mv1_0 (x41, (IntKind.wrap .i64 (v1_0.2 + 1))))
    <| k1_0_0
def F_tidegateref34_Check (n : Nat) (a0 : Trk) : Option (Int) :=
  cnd (decide (a0.next < 0))
    (some 2)
  <| cnd (decide (1099511627777 < a0.next))
    (some 2)
  <| cnd (decide (256 < (((List.map aI (a0.beyond)).length : Nat) : Int)))
    (some 5)
  <| F_tidegateref34_Check_l1 n a0
    (some 0) n (a0.next, 0)
def F_tidegateref34_With_l2 (n : Nat) (a0 : Trk) (k2_1_0 : (List Int) → Int → Option (Trk)) : Nat → (List Int) × Int → Option (Trk)
  | 0, _ => none
  | mv2_1 + 1, v2_1 =>
    cnd (decide (0 < (((List.map aI (v2_1.1)).length : Nat) : Int)))
      (idx v2_1.1 0 fun x87 =>
      cnd (decide (x87 = v2_1.2))
        (reg <| sls v2_1.1 1 (((List.map aI (v2_1.1)).length : Nat) : Int) fun x88 =>
        F_tidegateref34_With_l2 n a0 k2_1_0 mv2_1 (x88, (IntKind.wrap .i64 (v2_1.2 + 1))))
      <| k2_1_0 v2_1.1 v2_1.2)
    <| k2_1_0 v2_1.1 v2_1.2
def F_tidegateref34_With_l3 (n : Nat) (a0 : Trk) (k3_2_0 : (List Int) → Int → Option (Trk)) : Nat → (List Int) × Int → Option (Trk)
  | 0, _ => none
  | mv3_2 + 1, v3_2 =>
    cnd (decide (0 < (((List.map aI (v3_2.1)).length : Nat) : Int)))
      (idx v3_2.1 0 fun x131 =>
      cnd (decide (x131 = v3_2.2))
        (reg <| sls v3_2.1 1 (((List.map aI (v3_2.1)).length : Nat) : Int) fun x132 =>
        F_tidegateref34_With_l3 n a0 k3_2_0 mv3_2 (x132, (IntKind.wrap .i64 (v3_2.2 + 1))))
      <| k3_2_0 v3_2.1 v3_2.2)
    <| k3_2_0 v3_2.1 v3_2.2
def F_tidegateref34_With_l1 (n : Nat) (a1 : Int) (a0 : Trk) (k1_0_0 : Bool → (List Int) → Option (Trk)) : Nat → Bool × Int × (List Int) → Option (Trk)
  | 0, _ => none
  | mv1_0 + 1, v1_0 =>
    cnd (decide (v1_0.2.1 < (((List.map aI (a0.beyond)).length : Nat) : Int)))
      (cnd (!(v1_0.1))
        (idx a0.beyond v1_0.2.1 fun x133 =>
        cnd (decide (a1 < x133))
          (app v1_0.2.2 [a1] 8 fun x134 =>
          idx a0.beyond v1_0.2.1 fun x135 =>
          app x134 [x135] 8 fun x136 =>
          F_tidegateref34_With_l1 n a1 a0 k1_0_0 mv1_0 (true, (IntKind.wrap .i64 (v1_0.2.1 + 1)), x136))
        <| idx a0.beyond v1_0.2.1 fun x137 =>
        app v1_0.2.2 [x137] 8 fun x138 =>
        F_tidegateref34_With_l1 n a1 a0 k1_0_0 mv1_0 (v1_0.1, (IntKind.wrap .i64 (v1_0.2.1 + 1)), x138))
      <| idx a0.beyond v1_0.2.1 fun x139 =>
      app v1_0.2.2 [x139] 8 fun x140 =>
      F_tidegateref34_With_l1 n a1 a0 k1_0_0 mv1_0 (v1_0.1, (IntKind.wrap .i64 (v1_0.2.1 + 1)), x140))
    <| k1_0_0 v1_0.1 v1_0.2.2
def F_tidegateref34_With (n : Nat) (a0 : Trk) (a1 : Int) : Option (Trk) :=
  bnd (F_tidegateref34_Contains n a0 a1) fun x1 =>
  cnd (x1)
    (some a0)
  <| F_tidegateref34_With_l1 n a1 a0
    (fun k1_0_0y0 k1_0_0y1 => cnd (!(k1_0_0y0))
    (app k1_0_0y1 [a1] 8 fun x44 =>
    F_tidegateref34_With_l2 n a0
      (fun k2_1_0y0 k2_1_0y1 => some (⟨k2_1_0y1, k2_1_0y0, a0.points, a0.mark⟩)) n (x44, a0.next))
  <| F_tidegateref34_With_l3 n a0
    (fun k3_2_0y0 k3_2_0y1 => some (⟨k3_2_0y1, k3_2_0y0, a0.points, a0.mark⟩)) n (k1_0_0y1, a0.next)) n (false, 0, [])
def F_tidegateref34_Receive (n : Nat) (a0 : Trk) (a1 : Int) : Option (Trk × Bool × Int) :=
  bnd (F_tidegateref34_Check n a0) fun x1 =>
  cnd (!decide (x1 = 0))
    (some (⟨0, [], [], 0⟩, false, x1))
  <| cnd (decide (a1 < 0))
    (some (⟨0, [], [], 0⟩, false, 2))
  <| cnd (decide (1099511627776 < a1))
    (some (⟨0, [], [], 0⟩, false, 2))
  <| bnd (F_tidegateref34_Contains n a0 a1) fun x2 =>
  cnd (x2)
    (some (a0, false, 0))
  <| bnd (F_tidegateref34_With n a0 a1) fun x3 =>
  cnd (decide (256 < (((List.map aI (x3.beyond)).length : Nat) : Int)))
    (some (⟨0, [], [], 0⟩, false, 5))
  <| some (x3, true, 0)
def F_tidegateref35_Settled_l2 (n : Nat) (a0 : Trk) (k1_0_0y : Int) (k2_1_0 : (List Pt) → Option (Trk)) : Nat → Int × (List Pt) → Option (Trk)
  | 0, _ => none
  | mv2_1 + 1, v2_1 =>
    cnd (decide (v2_1.1 < (((List.map aPt (a0.points)).length : Nat) : Int)))
      (idx a0.points v2_1.1 fun x83 =>
      cnd (decide (a0.next < x83.seq))
        (idx a0.points v2_1.1 fun x84 =>
        cnd (decide (k1_0_0y < x84.time))
          (idx a0.points v2_1.1 fun x85 =>
          app v2_1.2 [x85] 16 fun x86 =>
          F_tidegateref35_Settled_l2 n a0 k1_0_0y k2_1_0 mv2_1 ((IntKind.wrap .i64 (v2_1.1 + 1)), x86))
        <| F_tidegateref35_Settled_l2 n a0 k1_0_0y k2_1_0 mv2_1 ((IntKind.wrap .i64 (v2_1.1 + 1)), v2_1.2))
      <| F_tidegateref35_Settled_l2 n a0 k1_0_0y k2_1_0 mv2_1 ((IntKind.wrap .i64 (v2_1.1 + 1)), v2_1.2))
    <| k2_1_0 v2_1.2
def F_tidegateref35_Settled_l1 (n : Nat) (a0 : Trk) (k1_0_0 : Int → Option (Trk)) : Nat → Int × Int → Option (Trk)
  | 0, _ => none
  | mv1_0 + 1, v1_0 =>
    cnd (decide (v1_0.1 < (((List.map aPt (a0.points)).length : Nat) : Int)))
      (idx a0.points v1_0.1 fun x87 =>
      cnd (decide (x87.seq ≤ a0.next))
        (idx a0.points v1_0.1 fun x88 =>
        F_tidegateref35_Settled_l1 n a0 k1_0_0 mv1_0 ((IntKind.wrap .i64 (v1_0.1 + 1)), (max v1_0.2 x88.time)))
      <| F_tidegateref35_Settled_l1 n a0 k1_0_0 mv1_0 ((IntKind.wrap .i64 (v1_0.1 + 1)), v1_0.2))
    <| k1_0_0 v1_0.2
def F_tidegateref35_Settled (n : Nat) (a0 : Trk) : Option (Trk) :=
  F_tidegateref35_Settled_l1 n a0
    (fun k1_0_0y => F_tidegateref35_Settled_l2 n a0 k1_0_0y
    (fun k2_1_0y => some (⟨a0.next, a0.beyond, k2_1_0y, k1_0_0y⟩)) n (0, [])) n (0, a0.mark)
def F_tidegateref36_Note (n : Nat) (a0 : Trk) (a1 : T_api_Message) : Option (Trk × Bool × Int) :=
  cnd (decide (a1.fKind = 1))
    (bnd (F_rpuAdd n a0 (⟨a1.fSeq, a1.fTime⟩ : Pt)) fun x1 =>
    some (x1.1, false, x1.2))
  <| bnd (F_tidegateref34_Contains n a0 a1.fEvent.fSeq) fun x2 =>
  cnd (x2)
    (some (a0, false, 0))
  <| bnd (F_puAllows n a0 a1.fEvent.fSeq a1.fEvent.fTime) fun x3 =>
  cnd (!(x3.1))
    (some (⟨0, [], [], 0⟩, false, 19))
  <| bnd (F_tidegateref34_Receive n a0 a1.fEvent.fSeq) fun x4 =>
  cnd (!decide (x4.2.2 = 0))
    (some (⟨0, [], [], 0⟩, false, x4.2.2))
  <| bnd (F_tidegateref35_Settled n x4.1) fun x5 =>
  some (x5, true, 0)
def F_tidegateref36_Receive (n : Nat) (a0 : (List Trk)) (a1 : T_api_Message) : Option ((List Trk) × Bool × Int) :=
  bnd (F_tidegateref36_Check n a0) fun x1 =>
  cnd (!decide (x1 = 0))
    (some ([], false, x1))
  <| bnd (F_tidegateref36_CheckMessage n a1) fun x2 =>
  cnd (!decide (x2 = 0))
    (some ([], false, x2))
  <| bnd (F_tidegateref36_Source n a1) fun x3 =>
  cnd (decide ((((List.map aTrk (a0)).length : Nat) : Int) ≤ x3))
    (some ([], false, 32))
  <| idx a0 x3 fun x4 =>
  bnd (F_tidegateref36_Note n x4 a1) fun x5 =>
  cnd (!decide (x5.2.2 = 0))
    (some ([], false, x5.2.2))
  <| app [] a0 64 fun x6 =>
  nat x3 (List.map aTrk (x6)).length fun x7 =>
  stx x6 x7 (fun x8 => x5.1) fun x9 =>
  some (x9, x5.2.1, 0)
def F_tidegateref36_Honest_l2 (n : Nat) (a1 : (List T_api_Message)) (a0 : Int) (v1_0 : Int) (k2_1_0 : Option (Bool)) : Nat → Int → Option (Bool)
  | 0, _ => none
  | mv2_1 + 1, v2_1 =>
    cnd (decide (v2_1 < (((List.map e_api_Message (a1)).length : Nat) : Int)))
      (idx a1 v2_1 fun x85 =>
      bnd (F_tidegateref36_CheckMessage n x85) fun x86 =>
      cnd (!decide (x86 = 0))
        (F_tidegateref36_Honest_l2 n a1 a0 v1_0 k2_1_0 mv2_1 (IntKind.wrap .i64 (v2_1 + 1)))
      <| idx a1 v1_0 fun x87 =>
      bnd (F_tidegateref36_Source n x87) fun x88 =>
      idx a1 v2_1 fun x89 =>
      bnd (F_tidegateref36_Source n x89) fun x90 =>
      cnd (!decide (x88 = x90))
        (F_tidegateref36_Honest_l2 n a1 a0 v1_0 k2_1_0 mv2_1 (IntKind.wrap .i64 (v2_1 + 1)))
      <| idx a1 v1_0 fun x91 =>
      cnd (!decide (x91.fKind = 0))
        (F_tidegateref36_Honest_l2 n a1 a0 v1_0 k2_1_0 mv2_1 (IntKind.wrap .i64 (v2_1 + 1)))
      <| idx a1 v1_0 fun x92 =>
      idx a1 v2_1 fun x93 =>
      idx a1 v2_1 fun x94 =>
      cnd (decide (x94.fKind = 0))
        (cnd (decide (x92.fEvent.fSeq = x93.fEvent.fSeq))
          (cnd (!decide (x92.fEvent.fTime = x93.fEvent.fTime))
            (some false)
          <| idx a1 v2_1 fun x95 =>
          cnd (decide (x95.fKind = 1))
            (idx a1 v2_1 fun x96 =>
            cnd (decide (x96.fSeq ≤ x92.fEvent.fSeq))
              (idx a1 v2_1 fun x97 =>
              cnd (decide (x92.fEvent.fTime ≤ x97.fTime))
                (some false)
              <| F_tidegateref36_Honest_l2 n a1 a0 v1_0 k2_1_0 mv2_1 (IntKind.wrap .i64 (v2_1 + 1)))
            <| F_tidegateref36_Honest_l2 n a1 a0 v1_0 k2_1_0 mv2_1 (IntKind.wrap .i64 (v2_1 + 1)))
          <| F_tidegateref36_Honest_l2 n a1 a0 v1_0 k2_1_0 mv2_1 (IntKind.wrap .i64 (v2_1 + 1)))
        <| idx a1 v2_1 fun x98 =>
        cnd (decide (x98.fKind = 1))
          (idx a1 v2_1 fun x99 =>
          cnd (decide (x99.fSeq ≤ x92.fEvent.fSeq))
            (idx a1 v2_1 fun x100 =>
            cnd (decide (x92.fEvent.fTime ≤ x100.fTime))
              (some false)
            <| F_tidegateref36_Honest_l2 n a1 a0 v1_0 k2_1_0 mv2_1 (IntKind.wrap .i64 (v2_1 + 1)))
          <| F_tidegateref36_Honest_l2 n a1 a0 v1_0 k2_1_0 mv2_1 (IntKind.wrap .i64 (v2_1 + 1)))
        <| F_tidegateref36_Honest_l2 n a1 a0 v1_0 k2_1_0 mv2_1 (IntKind.wrap .i64 (v2_1 + 1)))
      <| idx a1 v2_1 fun x101 =>
      cnd (decide (x101.fKind = 1))
        (idx a1 v2_1 fun x102 =>
        cnd (decide (x102.fSeq ≤ x92.fEvent.fSeq))
          (idx a1 v2_1 fun x103 =>
          cnd (decide (x92.fEvent.fTime ≤ x103.fTime))
            (some false)
          <| F_tidegateref36_Honest_l2 n a1 a0 v1_0 k2_1_0 mv2_1 (IntKind.wrap .i64 (v2_1 + 1)))
        <| F_tidegateref36_Honest_l2 n a1 a0 v1_0 k2_1_0 mv2_1 (IntKind.wrap .i64 (v2_1 + 1)))
      <| F_tidegateref36_Honest_l2 n a1 a0 v1_0 k2_1_0 mv2_1 (IntKind.wrap .i64 (v2_1 + 1)))
    <| k2_1_0
def F_tidegateref36_Honest_l1 (n : Nat) (a1 : (List T_api_Message)) (a0 : Int) (k1_0_0 : Option (Bool)) : Nat → Int → Option (Bool)
  | 0, _ => none
  | mv1_0 + 1, v1_0 =>
    cnd (decide (v1_0 < (((List.map e_api_Message (a1)).length : Nat) : Int)))
      (idx a1 v1_0 fun x41 =>
      bnd (F_tidegateref36_CheckMessage n x41) fun x42 =>
      cnd (!decide (x42 = 0))
        (some false)
      <| idx a1 v1_0 fun x43 =>
      bnd (F_tidegateref36_Source n x43) fun x44 =>
      cnd (decide (a0 ≤ x44))
        (some false)
      <| F_tidegateref36_Honest_l2 n a1 a0 v1_0
        (F_tidegateref36_Honest_l1 n a1 a0 k1_0_0 mv1_0 (IntKind.wrap .i64 (v1_0 + 1))) n 0)
    <| k1_0_0
def F_tidegateref36_Honest (n : Nat) (a0 : Int) (a1 : (List T_api_Message)) : Option (Bool) :=
  F_tidegateref36_Honest_l1 n a1 a0
    (some true) n 0
def F_tidegateref34_Few (n : Nat) (a0 : Trk) : Option (Bool) :=
  cnd (decide ((((List.map aI (a0.beyond)).length : Nat) : Int) ≤ 300))
    (some (decide ((((List.map aPt (a0.points)).length : Nat) : Int) ≤ 300)))
  <| some false
def F_tidegateref36_Few_l1 (n : Nat) (a0 : (List Trk)) (k1_0_0 : Option (Bool)) : Nat → Int → Option (Bool)
  | 0, _ => none
  | mv1_0 + 1, v1_0 =>
    cnd (decide (v1_0 < (((List.map aTrk (a0)).length : Nat) : Int)))
      (cnd (decide (v1_0 < 12))
        (idx a0 v1_0 fun x41 =>
        bnd (F_tidegateref34_Few n x41) fun x42 =>
        cnd (!(x42))
          (some false)
        <| F_tidegateref36_Few_l1 n a0 k1_0_0 mv1_0 (IntKind.wrap .i64 (v1_0 + 1)))
      <| k1_0_0)
    <| k1_0_0
def F_tidegateref36_Few (n : Nat) (a0 : (List Trk)) : Option (Bool) :=
  F_tidegateref36_Few_l1 n a0
    (some (decide ((((List.map aTrk (a0)).length : Nat) : Int) ≤ 12))) n 0
structure T_stream_identity where
  fsource : Int
  fseq : Int
deriving DecidableEq, Inhabited
def e_stream_identity (x : T_stream_identity) : AV := .agg [aI (x.fsource), aI (x.fseq)]
def F_stream_placed (n : Nat) (a0 : T_api_Event) : Option (Bool) :=
  cnd (decide (0 ≤ a0.fTime))
    (cnd (decide (a0.fTime ≤ 1099511627776))
      (cnd (decide (0 ≤ a0.fSource))
        (cnd (decide (a0.fSource < 8))
          (cnd (decide (0 ≤ a0.fSeq))
            (some (decide (a0.fSeq ≤ 1099511627776)))
          <| some false)
        <| some false)
      <| some false)
    <| some false)
  <| some false
def F_stream_of (n : Nat) (a0 : T_api_Event) : Option (T_stream_identity) :=
  some (⟨a0.fSource, a0.fSeq⟩)
def F_stream_Check_l1 (n : Nat) (a0 : (List T_api_Event)) (k1_0_0 : Option (Int)) : Nat → Int × (List (T_stream_identity × Bool)) → Option (Int)
  | 0, _ => none
  | mv1_0 + 1, v1_0 =>
    cnd (decide (v1_0.1 < (((List.map e_api_Event (a0)).length : Nat) : Int)))
      (idx a0 v1_0.1 fun x41 =>
      bnd (F_stream_placed n x41) fun x42 =>
      cnd (!(x42))
        (some 2)
      <| cnd (decide (0 < v1_0.1))
        (idx a0 (IntKind.wrap .i64 (v1_0.1 - 1)) fun x43 =>
        bnd (F_evCmp n x43 x41) fun x44 =>
        cnd (decide (0 ≤ x44))
          (some 14)
        <| bnd (F_stream_of n x41) fun x45 =>
        mgt v1_0.2 x45 (false : Bool) fun x46 x47 =>
        cnd (x46)
          (some 7)
        <| bnd (F_stream_of n x41) fun x48 =>
        mst v1_0.2 x48 true fun x49 =>
        F_stream_Check_l1 n a0 k1_0_0 mv1_0 ((IntKind.wrap .i64 (v1_0.1 + 1)), x49))
      <| bnd (F_stream_of n x41) fun x50 =>
      mgt v1_0.2 x50 (false : Bool) fun x51 x52 =>
      cnd (x51)
        (some 7)
      <| bnd (F_stream_of n x41) fun x53 =>
      mst v1_0.2 x53 true fun x54 =>
      F_stream_Check_l1 n a0 k1_0_0 mv1_0 ((IntKind.wrap .i64 (v1_0.1 + 1)), x54))
    <| k1_0_0
def F_stream_Check (n : Nat) (a0 : (List T_api_Event)) : Option (Int) :=
  cnd (decide (4096 < (((List.map e_api_Event (a0)).length : Nat) : Int)))
    (some 5)
  <| F_stream_Check_l1 n a0
    (some 0) n (0, [])
def F_tidegateref05_Placed (n : Nat) (a0 : T_api_Event) : Option (Bool) :=
  cnd (decide (0 ≤ a0.fTime))
    (cnd (decide (a0.fTime ≤ 1099511627776))
      (cnd (decide (0 ≤ a0.fSource))
        (cnd (decide (a0.fSource < 8))
          (cnd (decide (0 ≤ a0.fSeq))
            (some (decide (a0.fSeq ≤ 1099511627776)))
          <| some false)
        <| some false)
      <| some false)
    <| some false)
  <| some false
def F_tidegateref05_Ref (n : Nat) (a0 : T_api_Event) : Option (T_api_Ref) :=
  some (⟨a0.fTime, a0.fSource, a0.fSeq⟩)
def F_tidegateref05_Order (n : Nat) (a0 : T_api_Ref) (a1 : T_api_Ref) : Option (Int) :=
  cnd (!decide (a0.fTime = a1.fTime))
    (cnd (decide (a0.fTime < a1.fTime))
      (some (-1))
    <| some 1)
  <| cnd (!decide (a0.fSource = a1.fSource))
    (cnd (decide (a0.fSource < a1.fSource))
      (some (-1))
    <| some 1)
  <| cnd (decide (a0.fSeq < a1.fSeq))
    (some (-1))
  <| cnd (decide (a1.fSeq < a0.fSeq))
    (some 1)
  <| some 0
def F_tidegateref05_Twin (n : Nat) (a0 : T_api_Event) (a1 : T_api_Event) : Option (Bool) :=
  cnd (decide (a0.fSource = a1.fSource))
    (some (decide (a0.fSeq = a1.fSeq)))
  <| some false
def F_tidegateref05_Check_l2 (n : Nat) (a0 : (List T_api_Event)) (v1_0 : Int) (k2_1_0 : Option (Int)) : Nat → Int → Option (Int)
  | 0, _ => none
  | mv2_1 + 1, v2_1 =>
    cnd (decide (v2_1 < v1_0))
      (idx a0 v2_1 fun x88 =>
      idx a0 v1_0 fun x89 =>
      bnd (F_tidegateref05_Twin n x88 x89) fun x90 =>
      cnd (x90)
        (some 7)
      <| F_tidegateref05_Check_l2 n a0 v1_0 k2_1_0 mv2_1 (IntKind.wrap .i64 (v2_1 + 1)))
    <| k2_1_0
def F_tidegateref05_Check_l3 (n : Nat) (a0 : (List T_api_Event)) (v1_0 : Int) (k3_2_0 : Option (Int)) : Nat → Int → Option (Int)
  | 0, _ => none
  | mv3_2 + 1, v3_2 =>
    cnd (decide (v3_2 < v1_0))
      (idx a0 v3_2 fun x131 =>
      idx a0 v1_0 fun x132 =>
      bnd (F_tidegateref05_Twin n x131 x132) fun x133 =>
      cnd (x133)
        (some 7)
      <| F_tidegateref05_Check_l3 n a0 v1_0 k3_2_0 mv3_2 (IntKind.wrap .i64 (v3_2 + 1)))
    <| k3_2_0
def F_tidegateref05_Check_l1 (n : Nat) (a0 : (List T_api_Event)) (k1_0_0 : Option (Int)) : Nat → Int → Option (Int)
  | 0, _ => none
  | mv1_0 + 1, v1_0 =>
    cnd (decide (v1_0 < (((List.map e_api_Event (a0)).length : Nat) : Int)))
      (idx a0 v1_0 fun x41 =>
      bnd (F_tidegateref05_Placed n x41) fun x42 =>
      cnd (!(x42))
        (some 2)
      <| cnd (decide (0 < v1_0))
        (idx a0 (IntKind.wrap .i64 (v1_0 - 1)) fun x43 =>
        bnd (F_tidegateref05_Ref n x43) fun x44 =>
        idx a0 v1_0 fun x45 =>
        bnd (F_tidegateref05_Ref n x45) fun x46 =>
        bnd (F_tidegateref05_Order n (⟨x44.fTime, x44.fSource, x44.fSeq⟩ : T_api_Ref) (⟨x46.fTime, x46.fSource, x46.fSeq⟩ : T_api_Ref)) fun x47 =>
        cnd (decide (0 ≤ x47))
          (some 14)
        <| F_tidegateref05_Check_l2 n a0 v1_0
          (F_tidegateref05_Check_l1 n a0 k1_0_0 mv1_0 (IntKind.wrap .i64 (v1_0 + 1))) n 0)
      <| F_tidegateref05_Check_l3 n a0 v1_0
        (F_tidegateref05_Check_l1 n a0 k1_0_0 mv1_0 (IntKind.wrap .i64 (v1_0 + 1))) n 0)
    <| k1_0_0
def F_tidegateref05_Check (n : Nat) (a0 : (List T_api_Event)) : Option (Int) :=
  cnd (decide (4096 < (((List.map e_api_Event (a0)).length : Nat) : Int)))
    (some 5)
  <| F_tidegateref05_Check_l1 n a0
    (some 0) n 0
def F_tidegateref05_list_l1 (n : Nat) (a0 : (List T_api_Event)) (k1_0_0 : Option (Int)) : Nat → Int → Option (Int)
  | 0, _ => none
  | mv1_0 + 1, v1_0 =>
    cnd (decide (v1_0 < (((List.map e_api_Event (a0)).length : Nat) : Int)))
      (idx a0 v1_0 fun x41 =>
      bnd (F_tidegateref05_Placed n x41) fun x42 =>
      cnd (!(x42))
        (some 2)
      <| F_tidegateref05_list_l1 n a0 k1_0_0 mv1_0 (IntKind.wrap .i64 (v1_0 + 1)))
    <| k1_0_0
def F_tidegateref05_list (n : Nat) (a0 : (List T_api_Event)) : Option (Int) :=
  cnd (decide (4096 < (((List.map e_api_Event (a0)).length : Nat) : Int)))
    (some 5)
  <| F_tidegateref05_list_l1 n a0
    (some 0) n 0
def F_tidegateref01_Same_l1 (n : Nat) (a1 : (List T_api_Value)) (a0 : (List T_api_Value)) (k1_0_0 : Option (Bool)) : Nat → Int → Option (Bool)
  | 0, _ => none
  | mv1_0 + 1, v1_0 =>
    cnd (decide (v1_0 < (((List.map e_api_Value (a0)).length : Nat) : Int)))
      (idx a0 v1_0 fun x41 =>
      idx a1 v1_0 fun x42 =>
      cnd (!(decide (x41.fKind = x42.fKind) && (decide (x41.fNum = x42.fNum) && ((x41.fText.toList == x42.fText.toList) && true))))
        (some false)
      <| F_tidegateref01_Same_l1 n a1 a0 k1_0_0 mv1_0 (IntKind.wrap .i64 (v1_0 + 1)))
    <| k1_0_0
def F_tidegateref01_Same (n : Nat) (a0 : (List T_api_Value)) (a1 : (List T_api_Value)) : Option (Bool) :=
  cnd (!decide ((((List.map e_api_Value (a0)).length : Nat) : Int) = (((List.map e_api_Value (a1)).length : Nat) : Int)))
    (some false)
  <| F_tidegateref01_Same_l1 n a1 a0
    (some true) n 0
def F_tidegateref05_Equal (n : Nat) (a0 : T_api_Event) (a1 : T_api_Event) : Option (Bool) :=
  bnd (F_tidegateref05_Ref n a0) fun x1 =>
  bnd (F_tidegateref05_Ref n a1) fun x2 =>
  cnd ((decide (x1.fTime = x2.fTime) && (decide (x1.fSource = x2.fSource) && (decide (x1.fSeq = x2.fSeq) && true))))
    (cnd (decide (a0.fType = a1.fType))
      (bnd (F_tidegateref01_Same n a0.fValues a1.fValues) fun x3 =>
      some x3)
    <| some false)
  <| some false
def F_tidegateref05_conflict_l1 (n : Nat) (a1 : T_api_Event) (a0 : (List T_api_Event)) (k1_0_0 : Option (Bool)) : Nat → Int → Option (Bool)
  | 0, _ => none
  | mv1_0 + 1, v1_0 =>
    cnd (decide (v1_0 < (((List.map e_api_Event (a0)).length : Nat) : Int)))
      (idx a0 v1_0 fun x41 =>
      bnd (F_tidegateref05_Twin n x41 a1) fun x42 =>
      cnd (x42)
        (idx a0 v1_0 fun x43 =>
        bnd (F_tidegateref05_Equal n x43 a1) fun x44 =>
        cnd (!(x44))
          (some true)
        <| F_tidegateref05_conflict_l1 n a1 a0 k1_0_0 mv1_0 (IntKind.wrap .i64 (v1_0 + 1)))
      <| F_tidegateref05_conflict_l1 n a1 a0 k1_0_0 mv1_0 (IntKind.wrap .i64 (v1_0 + 1)))
    <| k1_0_0
def F_tidegateref05_conflict (n : Nat) (a0 : (List T_api_Event)) (a1 : T_api_Event) : Option (Bool) :=
  F_tidegateref05_conflict_l1 n a1 a0
    (some false) n 0
def F_tidegateref05_Has_l1 (n : Nat) (a1 : T_api_Event) (a0 : (List T_api_Event)) (k1_0_0 : Option (Bool)) : Nat → Int → Option (Bool)
  | 0, _ => none
  | mv1_0 + 1, v1_0 =>
    cnd (decide (v1_0 < (((List.map e_api_Event (a0)).length : Nat) : Int)))
      (idx a0 v1_0 fun x41 =>
      bnd (F_tidegateref05_Equal n x41 a1) fun x42 =>
      cnd (x42)
        (some true)
      <| F_tidegateref05_Has_l1 n a1 a0 k1_0_0 mv1_0 (IntKind.wrap .i64 (v1_0 + 1)))
    <| k1_0_0
def F_tidegateref05_Has (n : Nat) (a0 : (List T_api_Event)) (a1 : T_api_Event) : Option (Bool) :=
  F_tidegateref05_Has_l1 n a1 a0
    (some false) n 0
def F_tidegateref05_put_l1 (n : Nat) (a1 : T_api_Event) (a0 : (List T_api_Event)) (k1_0_0 : Int → (List T_api_Event) → Option ((List T_api_Event))) : Nat → Int × (List T_api_Event) → Option ((List T_api_Event))
  | 0, _ => none
  | mv1_0 + 1, v1_0 =>
    cnd (decide (v1_0.1 < (((List.map e_api_Event (a0)).length : Nat) : Int)))
      (idx a0 v1_0.1 fun x46 =>
      bnd (F_tidegateref05_Ref n x46) fun x47 =>
      bnd (F_tidegateref05_Ref n a1) fun x48 =>
      bnd (F_tidegateref05_Order n (⟨x47.fTime, x47.fSource, x47.fSeq⟩ : T_api_Ref) (⟨x48.fTime, x48.fSource, x48.fSeq⟩ : T_api_Ref)) fun x49 =>
      cnd (decide (x49 < 0))
        (idx a0 v1_0.1 fun x50 =>
        app v1_0.2 [x50] 56 fun x51 =>
        F_tidegateref05_put_l1 n a1 a0 k1_0_0 mv1_0 ((IntKind.wrap .i64 (v1_0.1 + 1)), x51))
      <| k1_0_0 v1_0.1 v1_0.2)
    <| k1_0_0 v1_0.1 v1_0.2
def F_tidegateref05_put (n : Nat) (a0 : (List T_api_Event)) (a1 : T_api_Event) : Option ((List T_api_Event)) :=
  F_tidegateref05_put_l1 n a1 a0
    (fun k1_0_0y0 k1_0_0y1 => app k1_0_0y1 [a1] 56 fun x43 =>
  sls a0 k1_0_0y0 (((List.map e_api_Event (a0)).length : Nat) : Int) fun x44 =>
  app x43 x44 56 fun x45 =>
  some x45) n (0, [])
def F_tidegateref05_Sorted_l1 (n : Nat) (a0 : (List T_api_Event)) (k1_0_0 : (List T_api_Event) → Option ((List T_api_Event))) : Nat → (List T_api_Event) × Int → Option ((List T_api_Event))
  | 0, _ => none
  | mv1_0 + 1, v1_0 =>
    cnd (decide (v1_0.2 < (((List.map e_api_Event (a0)).length : Nat) : Int)))
      (idx a0 v1_0.2 fun x42 =>
      bnd (F_tidegateref05_Has n v1_0.1 x42) fun x43 =>
      cnd (!(x43))
        (idx a0 v1_0.2 fun x44 =>
        bnd (F_tidegateref05_put n v1_0.1 x44) fun x45 =>
        F_tidegateref05_Sorted_l1 n a0 k1_0_0 mv1_0 (x45, (IntKind.wrap .i64 (v1_0.2 + 1))))
      <| F_tidegateref05_Sorted_l1 n a0 k1_0_0 mv1_0 (v1_0.1, (IntKind.wrap .i64 (v1_0.2 + 1))))
    <| k1_0_0 v1_0.1
def F_tidegateref05_Sorted (n : Nat) (a0 : (List T_api_Event)) : Option ((List T_api_Event)) :=
  F_tidegateref05_Sorted_l1 n a0
    (fun k1_0_0y => some k1_0_0y) n ([], 0)
def F_tidegateref05_Sort_l1 (n : Nat) (a0 : (List T_api_Event)) (k1_0_0 : Option ((List T_api_Event) × Int)) : Nat → Int → Option ((List T_api_Event) × Int)
  | 0, _ => none
  | mv1_0 + 1, v1_0 =>
    cnd (decide (v1_0 < (((List.map e_api_Event (a0)).length : Nat) : Int)))
      (idx a0 v1_0 fun x43 =>
      bnd (F_tidegateref05_conflict n a0 x43) fun x44 =>
      cnd (x44)
        (some ([], 22))
      <| F_tidegateref05_Sort_l1 n a0 k1_0_0 mv1_0 (IntKind.wrap .i64 (v1_0 + 1)))
    <| k1_0_0
def F_tidegateref05_Sort (n : Nat) (a0 : (List T_api_Event)) : Option ((List T_api_Event) × Int) :=
  bnd (F_tidegateref05_list n a0) fun x1 =>
  cnd (!decide (x1 = 0))
    (some ([], x1))
  <| F_tidegateref05_Sort_l1 n a0
    (bnd (F_tidegateref05_Sorted n a0) fun x42 =>
  some (x42, 0)) n 0
def F_tidegateref01_Few_l1 (n : Nat) (a0 : (List T_api_Value)) (k1_0_0 : Option (Bool)) : Nat → Int → Option (Bool)
  | 0, _ => none
  | mv1_0 + 1, v1_0 =>
    cnd (decide (v1_0 < (((List.map e_api_Value (a0)).length : Nat) : Int)))
      (cnd (decide (v1_0 < 40))
        (idx a0 v1_0 fun x41 =>
        cnd (decide (128 < ((x41.fText.size : Nat) : Int)))
          (some false)
        <| F_tidegateref01_Few_l1 n a0 k1_0_0 mv1_0 (IntKind.wrap .i64 (v1_0 + 1)))
      <| k1_0_0)
    <| k1_0_0
def F_tidegateref01_Few (n : Nat) (a0 : (List T_api_Value)) : Option (Bool) :=
  F_tidegateref01_Few_l1 n a0
    (some (decide ((((List.map e_api_Value (a0)).length : Nat) : Int) < 40))) n 0
def F_tidegateref05_Few_l1 (n : Nat) (a0 : (List T_api_Event)) (k1_0_0 : Option (Bool)) : Nat → Int → Option (Bool)
  | 0, _ => none
  | mv1_0 + 1, v1_0 =>
    cnd (decide (v1_0 < (((List.map e_api_Event (a0)).length : Nat) : Int)))
      (cnd (decide (v1_0 < 20))
        (idx a0 v1_0 fun x41 =>
        cnd (decide (12 < (((List.map e_api_Value (x41.fValues)).length : Nat) : Int)))
          (some false)
        <| idx a0 v1_0 fun x42 =>
        bnd (F_tidegateref01_Few n x42.fValues) fun x43 =>
        cnd (!(x43))
          (some false)
        <| F_tidegateref05_Few_l1 n a0 k1_0_0 mv1_0 (IntKind.wrap .i64 (v1_0 + 1)))
      <| k1_0_0)
    <| k1_0_0
def F_tidegateref05_Few (n : Nat) (a0 : (List T_api_Event)) : Option (Bool) :=
  F_tidegateref05_Few_l1 n a0
    (some (decide ((((List.map e_api_Event (a0)).length : Nat) : Int) ≤ 12))) n 0
def F_tidegateref05_Same_l1 (n : Nat) (a1 : (List T_api_Event)) (a0 : (List T_api_Event)) (k1_0_0 : Option (Bool)) : Nat → Int → Option (Bool)
  | 0, _ => none
  | mv1_0 + 1, v1_0 =>
    cnd (decide (v1_0 < (((List.map e_api_Event (a0)).length : Nat) : Int)))
      (idx a0 v1_0 fun x41 =>
      idx a1 v1_0 fun x42 =>
      bnd (F_tidegateref05_Equal n x41 x42) fun x43 =>
      cnd (!(x43))
        (some false)
      <| F_tidegateref05_Same_l1 n a1 a0 k1_0_0 mv1_0 (IntKind.wrap .i64 (v1_0 + 1)))
    <| k1_0_0
def F_tidegateref05_Same (n : Nat) (a0 : (List T_api_Event)) (a1 : (List T_api_Event)) : Option (Bool) :=
  cnd (!decide ((((List.map e_api_Event (a0)).length : Nat) : Int) = (((List.map e_api_Event (a1)).length : Nat) : Int)))
    (some false)
  <| F_tidegateref05_Same_l1 n a1 a0
    (some true) n 0
def F_slices_Grow (n : Nat) (a1 : Int) : Option ((List T_api_Event)) :=
  cnd (decide (a1 < 0))
    (none)
  <| cnd (decide (0 < (IntKind.wrap .i64 (a1 - (IntKind.wrap .i64 ((0 : Int) - 0))))))
    (psx (IntKind.wrap .i64 (a1 - (IntKind.wrap .i64 ((0 : Int) - 0)))) <| mak (IntKind.wrap .i64 (a1 - (IntKind.wrap .i64 ((0 : Int) - 0)))) 56 (⟨0, 0, 0, 0, []⟩ : T_api_Event) fun x1 =>
    sls x1 0 0 fun x2 =>
    some x2)
  <| some []
def F_slices_Concat_l2 (n : Nat) (a0 : (List (List T_api_Event))) (k2_1_0 : (List T_api_Event) → Option ((List T_api_Event))) : Nat → Int × (List T_api_Event) → Option ((List T_api_Event))
  | 0, _ => none
  | mv2_1 + 1, v2_1 =>
    cnd (decide (v2_1.1 < (((List.map (fun q => AV.sl 5 (List.map e_api_Event q)) (a0)).length : Nat) : Int)))
      (idx a0 v2_1.1 fun x84 =>
      app v2_1.2 x84 56 fun x85 =>
      F_slices_Concat_l2 n a0 k2_1_0 mv2_1 ((IntKind.wrap .i64 (v2_1.1 + 1)), x85))
    <| k2_1_0 v2_1.2
def F_slices_Concat_l1 (n : Nat) (a0 : (List (List T_api_Event))) (k1_0_0 : Int → Option ((List T_api_Event))) : Nat → Int × Int → Option ((List T_api_Event))
  | 0, _ => none
  | mv1_0 + 1, v1_0 =>
    cnd (decide (v1_0.2 < (((List.map (fun q => AV.sl 5 (List.map e_api_Event q)) (a0)).length : Nat) : Int)))
      (idx a0 v1_0.2 fun x86 =>
      cnd (decide ((IntKind.wrap .i64 (v1_0.1 + (((List.map e_api_Event (x86)).length : Nat) : Int))) < 0))
        (none)
      <| F_slices_Concat_l1 n a0 k1_0_0 mv1_0 ((IntKind.wrap .i64 (v1_0.1 + (((List.map e_api_Event (x86)).length : Nat) : Int))), (IntKind.wrap .i64 (v1_0.2 + 1))))
    <| k1_0_0 v1_0.1
def F_slices_Concat (n : Nat) (a0 : (List (List T_api_Event))) : Option ((List T_api_Event)) :=
  F_slices_Concat_l1 n a0
    (fun k1_0_0y => bndR (F_slices_Grow n k1_0_0y) fun x42 =>
  F_slices_Concat_l2 n a0
    (fun k2_1_0y => some k2_1_0y) n (0, x42)) n (0, 0)
def F_slices_Equal_l1 (n : Nat) (a1 : (List T_api_Value)) (a0 : (List T_api_Value)) (k1_0_0 : Option (Bool)) : Nat → Int → Option (Bool)
  | 0, _ => none
  | mv1_0 + 1, v1_0 =>
    cnd (decide (v1_0 < (((List.map e_api_Value (a0)).length : Nat) : Int)))
      (idx a0 v1_0 fun x41 =>
      idx a1 v1_0 fun x42 =>
      cnd (!(decide (x41.fKind = x42.fKind) && (decide (x41.fNum = x42.fNum) && ((x41.fText.toList == x42.fText.toList) && true))))
        (some false)
      <| F_slices_Equal_l1 n a1 a0 k1_0_0 mv1_0 (IntKind.wrap .i64 (v1_0 + 1)))
    <| k1_0_0
def F_slices_Equal (n : Nat) (a0 : (List T_api_Value)) (a1 : (List T_api_Value)) : Option (Bool) :=
  cnd (!decide ((((List.map e_api_Value (a0)).length : Nat) : Int) = (((List.map e_api_Value (a1)).length : Nat) : Int)))
    (some false)
  <| F_slices_Equal_l1 n a1 a0
    (some true) n 0
def F_stream_equal (n : Nat) (a0 : T_api_Event) (a1 : T_api_Event) : Option (Bool) :=
  bnd (F_stream_of n a0) fun x1 =>
  bnd (F_stream_of n a1) fun x2 =>
  cnd ((decide (x1.fsource = x2.fsource) && (decide (x1.fseq = x2.fseq) && true)))
    (cnd (decide (a0.fType = a1.fType))
      (cnd (decide (a0.fTime = a1.fTime))
        (bnd (F_slices_Equal n a0.fValues a1.fValues) fun x3 =>
        some x3)
      <| some false)
    <| some false)
  <| some false
def F_stream_copied (n : Nat) (a0 : T_api_Event) : Option (T_api_Event) :=
  bnd (F_clone n a0.fValues) fun x1 =>
  some (⟨a0.fSource, a0.fSeq, a0.fType, a0.fTime, x1⟩)
def F_stream_sorted_l1 (n : Nat) (a0 : (List T_api_Event)) (k1_0_0 : (List T_api_Event) → Option ((List T_api_Event) × Bool)) : Nat → Int × (List (T_stream_identity × T_api_Event)) × (List T_api_Event) → Option ((List T_api_Event) × Bool)
  | 0, _ => none
  | mv1_0 + 1, v1_0 =>
    cnd (decide (v1_0.1 < (((List.map e_api_Event (a0)).length : Nat) : Int)))
      (idx a0 v1_0.1 fun x43 =>
      bnd (F_stream_of n x43) fun x44 =>
      mgt v1_0.2.1 x44 (⟨0, 0, 0, 0, []⟩ : T_api_Event) fun x45 x46 =>
      cnd (x46)
        (bnd (F_stream_equal n x45 x43) fun x47 =>
        cnd (!(x47))
          (some ([], false))
        <| cnd (!(x46))
          (bnd (F_stream_of n x43) fun x48 =>
          mst v1_0.2.1 x48 x43 fun x49 =>
          bnd (F_stream_copied n x43) fun x50 =>
          app v1_0.2.2 [x50] 56 fun x51 =>
          F_stream_sorted_l1 n a0 k1_0_0 mv1_0 ((IntKind.wrap .i64 (v1_0.1 + 1)), x49, x51))
        <| F_stream_sorted_l1 n a0 k1_0_0 mv1_0 ((IntKind.wrap .i64 (v1_0.1 + 1)), v1_0.2.1, v1_0.2.2))
      <| cnd (!(x46))
        (bnd (F_stream_of n x43) fun x52 =>
        mst v1_0.2.1 x52 x43 fun x53 =>
        bnd (F_stream_copied n x43) fun x54 =>
        app v1_0.2.2 [x54] 56 fun x55 =>
        F_stream_sorted_l1 n a0 k1_0_0 mv1_0 ((IntKind.wrap .i64 (v1_0.1 + 1)), x53, x55))
      <| F_stream_sorted_l1 n a0 k1_0_0 mv1_0 ((IntKind.wrap .i64 (v1_0.1 + 1)), v1_0.2.1, v1_0.2.2))
    <| k1_0_0 v1_0.2.2
def F_stream_sorted (n : Nat) (a0 : (List T_api_Event)) : Option ((List T_api_Event) × Bool) :=
  F_stream_sorted_l1 n a0
    (fun k1_0_0y => bndC (F_sort evCmp n k1_0_0y) fun x42 =>
  some (x42, true)) n (0, [], [])
def F_stream_joined (n : Nat) (a0 : (List T_api_Event)) (a1 : (List T_api_Event)) : Option ((List T_api_Event) × Int) :=
  bnd (F_slices_Concat n ([a0, a1])) fun x1 =>
  bnd (F_stream_sorted n x1) fun x2 =>
  cnd (!(x2.2))
    (some ([], 22))
  <| cnd (decide (4096 < (((List.map e_api_Event (x2.1)).length : Nat) : Int)))
    (some ([], 5))
  <| some (x2.1, 0)
def F_stream_Insert (n : Nat) (a0 : (List T_api_Event)) (a1 : T_api_Event) : Option ((List T_api_Event) × Int) :=
  bnd (F_stream_Check n a0) fun x1 =>
  cnd (!decide (x1 = 0))
    (some ([], x1))
  <| bnd (F_stream_placed n a1) fun x2 =>
  cnd (!(x2))
    (some ([], 2))
  <| bnd (F_stream_joined n a0 [a1]) fun x3 =>
  some (x3.1, x3.2)
def F_tidegateref05_Insert (n : Nat) (a0 : (List T_api_Event)) (a1 : T_api_Event) : Option ((List T_api_Event) × Int) :=
  bnd (F_tidegateref05_Check n a0) fun x1 =>
  cnd (!decide (x1 = 0))
    (some ([], x1))
  <| bnd (F_tidegateref05_Placed n a1) fun x2 =>
  cnd (!(x2))
    (some ([], 2))
  <| bnd (F_tidegateref05_conflict n a0 a1) fun x3 =>
  cnd (x3)
    (some ([], 22))
  <| bnd (F_tidegateref05_Has n a0 a1) fun x4 =>
  cnd (x4)
    (some (a0, 0))
  <| cnd (decide ((((List.map e_api_Event (a0)).length : Nat) : Int) = 4096))
    (some ([], 5))
  <| bnd (F_tidegateref05_put n a0 a1) fun x5 =>
  some (x5, 0)
def F_reorder_Begin (n : Nat) (a0 : Int) : Option ((List Trk) × Int) :=
  bnd (F_watermark_Begin n a0) fun x1 =>
  some (x1.1, x1.2)
def F_reorder_check (n : Nat) (a0 : (List Trk)) (a1 : (List T_api_Event)) : Option (Int) :=
  bnd (F_watermark_Check n a0) fun x1 =>
  cnd (!decide (x1 = 0))
    (some x1)
  <| bnd (F_stream_Check n a1) fun x2 =>
  some x2
def F_reorder_copied_l1 (n : Nat) (a0 : (List T_api_Event)) (k1_0_0 : (List T_api_Event) → Option ((List T_api_Event))) : Nat → Int × (List T_api_Event) → Option ((List T_api_Event))
  | 0, _ => none
  | mv1_0 + 1, v1_0 =>
    cnd (decide (v1_0.1 < (((List.map e_api_Event (a0)).length : Nat) : Int)))
      (idx a0 v1_0.1 fun x42 =>
      bnd (F_clone n x42.fValues) fun x43 =>
      app v1_0.2 ([⟨x42.fSource, x42.fSeq, x42.fType, x42.fTime, x43⟩]) 56 fun x44 =>
      F_reorder_copied_l1 n a0 k1_0_0 mv1_0 ((IntKind.wrap .i64 (v1_0.1 + 1)), x44))
    <| k1_0_0 v1_0.2
def F_reorder_copied (n : Nat) (a0 : (List T_api_Event)) : Option ((List T_api_Event)) :=
  F_reorder_copied_l1 n a0
    (fun k1_0_0y => some k1_0_0y) n (0, [])
def F_reorder_Add (n : Nat) (a0 : (List Trk)) (a1 : (List T_api_Event)) (a2 : T_api_Message) : Option ((List Trk) × (List T_api_Event) × Int) :=
  bnd (F_reorder_check n a0 a1) fun x1 =>
  cnd (!decide (x1 = 0))
    (some ([], [], x1))
  <| bnd (F_watermark_Receive n a0 a2) fun x2 =>
  cnd (!decide (x2.2.2 = 0))
    (some ([], [], x2.2.2))
  <| cnd (!(x2.2.1))
    (bnd (F_reorder_copied n a1) fun x3 =>
    some (x2.1, x3, 0))
  <| bnd (F_stream_Insert n a1 a2.fEvent) fun x4 =>
  cnd (!decide (x4.2 = 0))
    (some ([], [], x4.2))
  <| some (x2.1, x4.1, 0)
def F_reorder_release_l1 (n : Nat) (a1 : (List T_api_Event)) (x1 : Int × Int) (k1_0_0 : Int → Int → Option ((List T_api_Event) × (List T_api_Event) × Int)) : Nat → Int → Option ((List T_api_Event) × (List T_api_Event) × Int)
  | 0, _ => none
  | mv1_0 + 1, v1_0 =>
    cnd (decide (v1_0 < (((List.map e_api_Event (a1)).length : Nat) : Int)))
      (idx a1 v1_0 fun x48 =>
      cnd (decide (x48.fTime ≤ x1.1))
        (F_reorder_release_l1 n a1 x1 k1_0_0 mv1_0 (IntKind.wrap .i64 (v1_0 + 1)))
      <| k1_0_0 x1.1 v1_0)
    <| k1_0_0 x1.1 v1_0
def F_reorder_release (n : Nat) (a0 : (List Trk)) (a1 : (List T_api_Event)) : Option ((List T_api_Event) × (List T_api_Event) × Int) :=
  bnd (F_watermark_Global n a0) fun x1 =>
  F_reorder_release_l1 n a1 x1
    (fun k1_0_0y0 k1_0_0y1 => sls a1 0 k1_0_0y1 fun x44 =>
  bnd (F_reorder_copied n x44) fun x45 =>
  sls a1 k1_0_0y1 (((List.map e_api_Event (a1)).length : Nat) : Int) fun x46 =>
  bnd (F_reorder_copied n x46) fun x47 =>
  some (x45, x47, k1_0_0y0)) n 0
def F_reorder_Release (n : Nat) (a0 : (List Trk)) (a1 : (List T_api_Event)) : Option ((List T_api_Event) × (List T_api_Event) × Int) :=
  bnd (F_reorder_check n a0 a1) fun x1 =>
  cnd (!decide (x1 = 0))
    (some ([], [], x1))
  <| bnd (F_reorder_release n a0 a1) fun x2 =>
  some (x2.1, x2.2.1, 0)
def F_reorder_begin (n : Nat) (a0 : Int) (a1 : (List T_api_Message)) : Option ((List Trk) × Int) :=
  bnd (F_reorder_Begin n a0) fun x1 =>
  cnd (decide (x1.2 = 0))
    (cnd (decide (4096 < (((List.map e_api_Message (a1)).length : Nat) : Int)))
      (some ([], 5))
    <| some (x1.1, x1.2))
  <| some (x1.1, x1.2)
def F_tidegateref37_Begin (n : Nat) (a0 : Int) : Option ((List Trk) × Int) :=
  bnd (F_tidegateref36_Begin n a0) fun x1 =>
  some (x1.1, x1.2)
def F_tidegateref37_Add (n : Nat) (a0 : (List Trk)) (a1 : (List T_api_Event)) (a2 : T_api_Message) : Option ((List Trk) × (List T_api_Event) × Int) :=
  bnd (F_tidegateref36_Check n a0) fun x1 =>
  cnd (!decide (x1 = 0))
    (some ([], [], x1))
  <| bnd (F_tidegateref05_Check n a1) fun x2 =>
  cnd (!decide (x2 = 0))
    (some ([], [], x2))
  <| bnd (F_tidegateref36_Receive n a0 a2) fun x3 =>
  cnd (!decide (x3.2.2 = 0))
    (some ([], [], x3.2.2))
  <| cnd (!(x3.2.1))
    (some (x3.1, a1, 0))
  <| bnd (F_tidegateref05_Insert n a1 a2.fEvent) fun x4 =>
  cnd (!decide (x4.2 = 0))
    (some ([], [], x4.2))
  <| some (x3.1, x4.1, 0)
def F_tidegateref37_Release_l1 (n : Nat) (a1 : (List T_api_Event)) (x1 : Int × Int) (k1_0_0 : Int → Option ((List T_api_Event) × (List T_api_Event) × Int)) : Nat → Int → Option ((List T_api_Event) × (List T_api_Event) × Int)
  | 0, _ => none
  | mv1_0 + 1, v1_0 =>
    cnd (decide (v1_0 < (((List.map e_api_Event (a1)).length : Nat) : Int)))
      (idx a1 v1_0 fun x46 =>
      cnd (decide (x46.fTime ≤ x1.1))
        (F_tidegateref37_Release_l1 n a1 x1 k1_0_0 mv1_0 (IntKind.wrap .i64 (v1_0 + 1)))
      <| k1_0_0 v1_0)
    <| k1_0_0 v1_0
def F_tidegateref37_Release (n : Nat) (a0 : (List Trk)) (a1 : (List T_api_Event)) : Option ((List T_api_Event) × (List T_api_Event) × Int) :=
  bnd (F_tidegateref36_Global n a0) fun x1 =>
  cnd (!decide (x1.2 = 0))
    (some ([], [], x1.2))
  <| bnd (F_tidegateref05_Check n a1) fun x2 =>
  cnd (!decide (x2 = 0))
    (some ([], [], x2))
  <| F_tidegateref37_Release_l1 n a1 x1
    (fun k1_0_0y => sls a1 0 k1_0_0y fun x44 =>
  sls a1 k1_0_0y (((List.map e_api_Event (a1)).length : Nat) : Int) fun x45 =>
  some (x44, x45, 0)) n 0
def F_tidegateref37_Few_l1 (n : Nat) (a0 : (List T_api_Message)) (k1_0_0 : Option (Bool)) : Nat → Int → Option (Bool)
  | 0, _ => none
  | mv1_0 + 1, v1_0 =>
    cnd (decide (v1_0 < (((List.map e_api_Message (a0)).length : Nat) : Int)))
      (cnd (decide (v1_0 < 60))
        (idx a0 v1_0 fun x41 =>
        cnd (decide (12 < (((List.map e_api_Value (x41.fEvent.fValues)).length : Nat) : Int)))
          (some false)
        <| F_tidegateref37_Few_l1 n a0 k1_0_0 mv1_0 (IntKind.wrap .i64 (v1_0 + 1)))
      <| k1_0_0)
    <| k1_0_0
def F_tidegateref37_Few (n : Nat) (a0 : (List T_api_Message)) : Option (Bool) :=
  F_tidegateref37_Few_l1 n a0
    (some (decide ((((List.map e_api_Message (a0)).length : Nat) : Int) ≤ 40))) n 0
def F_reorder_steps (n : Nat) (a0 : (List Trk)) (a1 : (List T_api_Message)) : Option ((List Trk) × (List T_api_Message)) :=
  some (a0, a1)
structure T_reorder_step where
  freleased : (List T_api_Event)
  fwaiting : Int
  fmark : Int
deriving DecidableEq, Inhabited
def F_reorder_Peak_b5 (n : Nat) (a0 : T_reorder_step) (m0 : Int) : Option (Int) :=
  some (max m0 a0.fwaiting)
def F_reorder_steps_1_1_s97 (n : Nat) (a0 : T_api_Message) (m0 : (List Trk)) (m1 : (List T_api_Event)) : Option ((List Trk) × (List T_api_Event)) :=
  bnd (F_reorder_Add n m0 m1 a0) fun x1 =>
  cnd (decide (x1.2.2 = 0))
    (some (x1.1, x1.2.1))
  <| some (m0, m1)
def F_reorder_steps_1_l1 (n : Nat) (m2 : (List T_api_Message)) (k1_0_0 : Int → (List Trk) → Option (Int × (List Trk) × (List T_api_Message))) : Nat → Int × Int × (List Trk) × (List T_api_Event) → Option (Int × (List Trk) × (List T_api_Message))
  | 0, _ => none
  | mv1_0 + 1, v1_0 =>
    cnd (decide (v1_0.1 < (((List.map e_api_Message (m2)).length : Nat) : Int)))
      (idx m2 v1_0.1 fun x43 =>
      bnd (F_reorder_steps_1_1_s97 n x43 v1_0.2.2.1 v1_0.2.2.2) fun x44 =>
      bnd (F_reorder_release n x44.1 x44.2) fun x45 =>
      bnd (F_reorder_Peak_b5 n (⟨x45.1, (((List.map e_api_Event (x45.2.1)).length : Nat) : Int), x45.2.2⟩ : T_reorder_step) v1_0.2.1) fun x46 =>
      F_reorder_steps_1_l1 n m2 k1_0_0 mv1_0 ((IntKind.wrap .i64 (v1_0.1 + 1)), x46, x44.1, x45.2.1))
    <| k1_0_0 v1_0.2.1 v1_0.2.2.1
def F_reorder_steps_1 (n : Nat) (m0 : Int) (m1 : (List Trk)) (m2 : (List T_api_Message)) : Option (Int × (List Trk) × (List T_api_Message)) :=
  F_reorder_steps_1_l1 n m2
    (fun k1_0_0y0 k1_0_0y1 => some (k1_0_0y0, k1_0_0y1, m2)) n (0, m0, m1, [])
def F_reorder_Peak (n : Nat) (a0 : Int) (a1 : (List T_api_Message)) : Option (Int × Int) :=
  bnd (F_reorder_begin n a0 a1) fun x1 =>
  cnd (!decide (x1.2 = 0))
    (some (0, x1.2))
  <| bnd (F_reorder_steps n x1.1 a1) fun x2 =>
  bnd (F_reorder_steps_1 n 0 x2.1 x2.2) fun x3 =>
  some (x3.1, 0)
def F_reorder_Run_b6 (n : Nat) (a0 : T_reorder_step) (m0 : (List T_api_Event)) (m1 : (List Int)) : Option ((List T_api_Event) × (List Int)) :=
  app m0 a0.freleased 56 fun x3 =>
  app m1 [a0.fmark] 8 fun x4 =>
  some (x3, x4)
def F_reorder_steps_1_s101_l1 (n : Nat) (m3 : (List T_api_Message)) (k1_0_0 : (List Trk) → (List T_api_Event) → (List Int) → Option ((List T_api_Event) × (List Int) × (List Trk) × (List T_api_Message))) : Nat → Int × (List Trk) × (List T_api_Event) × (List T_api_Event) × (List Int) → Option ((List T_api_Event) × (List Int) × (List Trk) × (List T_api_Message))
  | 0, _ => none
  | mv1_0 + 1, v1_0 =>
    cnd (decide (v1_0.1 < (((List.map e_api_Message (m3)).length : Nat) : Int)))
      (idx m3 v1_0.1 fun x44 =>
      bnd (F_reorder_steps_1_1_s97 n x44 v1_0.2.1 v1_0.2.2.1) fun x45 =>
      bnd (F_reorder_release n x45.1 x45.2) fun x46 =>
      bnd (F_reorder_Run_b6 n (⟨x46.1, (((List.map e_api_Event (x46.2.1)).length : Nat) : Int), x46.2.2⟩ : T_reorder_step) v1_0.2.2.2.1 v1_0.2.2.2.2) fun x47 =>
      F_reorder_steps_1_s101_l1 n m3 k1_0_0 mv1_0 ((IntKind.wrap .i64 (v1_0.1 + 1)), x45.1, x46.2.1, x47.1, x47.2))
    <| k1_0_0 v1_0.2.1 v1_0.2.2.2.1 v1_0.2.2.2.2
def F_reorder_steps_1_s101 (n : Nat) (m2 : (List Trk)) (m3 : (List T_api_Message)) : Option ((List T_api_Event) × (List Int) × (List Trk) × (List T_api_Message)) :=
  F_reorder_steps_1_s101_l1 n m3
    (fun k1_0_0y0 k1_0_0y1 k1_0_0y2 => some (k1_0_0y1, k1_0_0y2, k1_0_0y0, m3)) n (0, m2, [], [], [])
def F_reorder_Run (n : Nat) (a0 : Int) (a1 : (List T_api_Message)) : Option ((List T_api_Event) × (List Int) × Int) :=
  bnd (F_reorder_begin n a0 a1) fun x1 =>
  cnd (!decide (x1.2 = 0))
    (some ([], [], x1.2))
  <| bnd (F_reorder_steps n x1.1 a1) fun x2 =>
  bnd (F_reorder_steps_1_s101 n x2.1 x2.2) fun x5 =>
  some (x5.1, x5.2.1, 0)
def F_tidegatelaw37_honest_l1 (n : Nat) (a1 : (List T_api_Message)) (a0 : Int) (k1_0_0 : (List T_api_Event) → Option ((List T_api_Event) × Bool)) : Nat → Int × (List T_api_Event) → Option ((List T_api_Event) × Bool)
  | 0, _ => none
  | mv1_0 + 1, v1_0 =>
    cnd (decide (v1_0.1 < (((List.map e_api_Message (a1)).length : Nat) : Int)))
      (idx a1 v1_0.1 fun x44 =>
      cnd (decide (x44.fKind = 0))
        (app v1_0.2 [x44.fEvent] 56 fun x45 =>
        F_tidegatelaw37_honest_l1 n a1 a0 k1_0_0 mv1_0 ((IntKind.wrap .i64 (v1_0.1 + 1)), x45))
      <| F_tidegatelaw37_honest_l1 n a1 a0 k1_0_0 mv1_0 ((IntKind.wrap .i64 (v1_0.1 + 1)), v1_0.2))
    <| k1_0_0 v1_0.2
def F_tidegatelaw37_honest (n : Nat) (a0 : Int) (a1 : (List T_api_Message)) : Option ((List T_api_Event) × Bool) :=
  F_tidegatelaw37_honest_l1 n a1 a0
    (fun k1_0_0y => frz 7024 <| reg <| bnd (F_tidegateref05_Sort n k1_0_0y) fun x42 =>
  cnd (decide (x42.2 = 0))
    (bnd (F_tidegateref36_Honest n a0 a1) fun x43 =>
    some (x42.1, x43))
  <| some (x42.1, false)) n (0, [])
def F_tidegatelaw37_event (n : Nat) (a0 : Int) (a1 : Int) : Option (T_api_Message) :=
  some (⟨0, ⟨0, a0, 0, a1, []⟩, 0, 0, 0⟩)
def F_tidegatelaw37_point (n : Nat) (a0 : Int) (a1 : Int) : Option (T_api_Message) :=
  some (⟨1, ⟨0, 0, 0, 0, []⟩, 0, a0, a1⟩)
def F_slices_Equal_s106_l1 (n : Nat) (a1 : (List Int)) (a0 : (List Int)) (k1_0_0 : Option (Bool)) : Nat → Int → Option (Bool)
  | 0, _ => none
  | mv1_0 + 1, v1_0 =>
    cnd (decide (v1_0 < (((List.map aI (a0)).length : Nat) : Int)))
      (idx a0 v1_0 fun x41 =>
      idx a1 v1_0 fun x42 =>
      cnd (!decide (x41 = x42))
        (some false)
      <| F_slices_Equal_s106_l1 n a1 a0 k1_0_0 mv1_0 (IntKind.wrap .i64 (v1_0 + 1)))
    <| k1_0_0
def F_slices_Equal_s106 (n : Nat) (a0 : (List Int)) (a1 : (List Int)) : Option (Bool) :=
  cnd (!decide ((((List.map aI (a0)).length : Nat) : Int) = (((List.map aI (a1)).length : Nat) : Int)))
    (some false)
  <| F_slices_Equal_s106_l1 n a1 a0
    (some true) n 0
def F_tidegatelaw37_awake (n : Nat) : Option (Bool) :=
  bnd (F_tidegatelaw37_event n 1 7) fun x1 =>
  bnd (F_tidegatelaw37_event n 0 4) fun x2 =>
  bnd (F_tidegatelaw37_point n 2 5) fun x3 =>
  bnd (F_reorder_Run n 1 ([x1, x2, x3])) fun x4 =>
  bnd (F_tidegatelaw37_point n 2 5) fun x5 =>
  bnd (F_tidegatelaw37_event n 1 7) fun x6 =>
  bnd (F_tidegatelaw37_event n 0 4) fun x7 =>
  bnd (F_reorder_Run n 1 ([x5, x6, x7])) fun x8 =>
  bnd (F_tidegatelaw37_event n 1 7) fun x9 =>
  bnd (F_tidegatelaw37_event n 0 4) fun x10 =>
  bnd (F_tidegatelaw37_point n 2 5) fun x11 =>
  bnd (F_reorder_Peak n 1 ([x9, x10, x11])) fun x12 =>
  bnd (F_tidegatelaw37_event n 1 7) fun x13 =>
  bnd (F_tidegatelaw37_event n 0 4) fun x14 =>
  bnd (F_tidegatelaw37_point n 2 5) fun x15 =>
  bnd (F_reorder_Run n 2 ([x13, x14, x15])) fun x16 =>
  cnd (!decide (x4.2.2 = 0))
    (some false)
  <| cnd (!decide (x8.2.2 = 0))
    (some false)
  <| cnd (!decide (x12.2 = 0))
    (some false)
  <| cnd (!decide (x16.2.2 = 0))
    (some false)
  <| cnd (!decide (x12.1 = 2))
    (some false)
  <| cnd (!decide ((((List.map e_api_Event (x16.1)).length : Nat) : Int) = 0))
    (some false)
  <| bnd (F_tidegateref05_Same n x4.1 ([⟨0, 0, 0, 4, []⟩])) fun x17 =>
  cnd (x17)
    (bnd (F_tidegateref05_Same n x8.1 ([⟨0, 0, 0, 4, []⟩])) fun x18 =>
    cnd (x18)
      (bnd (F_slices_Equal_s106 n x4.2.1 ([(-1), (-1), 5])) fun x19 =>
      cnd (x19)
        (bnd (F_slices_Equal_s106 n x8.2.1 ([(-1), (-1), 5])) fun x20 =>
        some x20)
      <| some false)
    <| some false)
  <| some false
end Go.Proofs.YtimkhfaddnanhaaGreat
