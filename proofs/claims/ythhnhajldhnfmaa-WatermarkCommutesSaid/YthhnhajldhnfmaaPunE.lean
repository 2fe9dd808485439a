/- The walks of layers 34 and 35, seventh part: Allows, Same. -/
import Derived.Test.YthhnhajldhnfmaaPunB
import Derived.Test.YthhnhajldhnfmaaPunC
import Derived.Test.YthhnhajldhnfmaaLibB
import Derived.Test.YthhnhajldhnfmaaSpec35
set_option linter.unusedVariables false
set_option linter.unusedSimpArgs false
namespace Go.Proofs.Ythhnhajldhnfmaa
open Go.RowKit

set_option maxHeartbeats 800000 in
theorem allows_any (t : Trk) (seq time : Int) (S : Nat → Prop) (v : Value) (w : World) (h : TrkV w S v t) (hl1 : t.beyond.length ≤ 1000000000) (hl2 : t.points.length ≤ 1000000000) :
    Calls Try.prog 17 #[v, .int .i64 seq, .int .i64 time] w fun e w' => e = .returned (.tuple #[.bool (allowsT t seq time).1, .int .i64 (allowsT t seq time).2]) ∧ Below w.heap.size w w' := by
  obtain ⟨vb, vp, rfl, hB, hP⟩ := h
  obtain ⟨A, c, rfl, hc, hcell⟩ := pts_form hP
  obtain ⟨Ab, cb, rfl, _, _⟩ := ints_form hB
  have HB := hide hB
  have HP := hide hP
  clear hcell hB hP
  obtain ⟨next, lb, l, mark⟩ := t
  dsimp only at *
  have hgoal : Hid (allowsT ⟨next, lb, l, mark⟩ seq time = if puCheck ⟨next, lb, l, mark⟩ ≠ 0 then (false, puCheck ⟨next, lb, l, mark⟩) else if seq < 0 ∨ 1099511627776 < seq ∨ time < 0 ∨ 1099511627776 < time then (false, 2) else if seq < next ∨ lb.contains seq = true then (false, 7) else (decide (latest mark l seq < time), 0)) := rfl
  generalize hq : puCheck ⟨next, lb, l, mark⟩ = q at *
  generalize hla : latest mark l seq = la at *
  generalize allowsT ⟨next, lb, l, mark⟩ seq time = res at *
  have Hq := hide hq
  have Hla := hide hla
  clear hq hla
  by_cases hq0 : q = 0
  · have hne : (q != 0) = false := by simp [hq0]
    have hq0' := hide hq0
    clear hq0
    cases hr : lb.contains seq
    all_goals
      have Hr := hide hr
      have hgo := hgoal.out
      rw [hr] at hgo
      simp only [reduceCtorEq, or_false, or_true, if_true, hq0'.out, ne_eq, not_true_eq_false, if_false] at hgo
      clear hr hgoal
      have hgoal := hide hgo
      clear hgo
      go_enter Try.func17, Try.ntmps17
      go_wp2_with fail
      refine (puCheck_any ⟨next, lb, l, mark⟩ S _ _ ⟨_, _, rfl, HB.out.below (by go_grown), HP.out.below (by go_grown)⟩).mono ?_
      rintro e w1 ⟨rfl, hb1⟩
      rw [Hq.out]
      have hw1 : Below w.heap.size w w1 := Below.next (by go_grown) hb1
      have ht0 := cell_later (a := ⟨w.heap.size, 0, none⟩) (v := .int .i64 next) hb1 (by simp)
      have ht1 := cell_later (a := ⟨w.heap.size, 1, none⟩) (v := .slice Ab lb.length cb) hb1 (by simp)
      have ht2 := cell_later (a := ⟨w.heap.size, 2, none⟩) (v := .slice A l.length c) hb1 (by simp)
      have ht3 := cell_later (a := ⟨w.heap.size, 3, none⟩) (v := .int .i64 mark) hb1 (by simp)
      clear hb1
      go_wp2_with (first
        | (go_at_call 50; refine (containsI_any lb seq S _ _ (HB.out.below ?_) hl1).mono ?_; assumption; rintro e w2 ⟨rfl, hb2⟩; rw [Hr.out]; have hw2 := Below.next hw1 hb2; have ht2' := cell_later hb2 ht2; have ht3' := cell_later hb2 ht3)
        | (go_at_call 51; refine (latest_any mark l seq S _ _ (HP.out.below ?_) hl2).mono ?_; assumption; rintro e w3 ⟨rfl, hb3⟩; rw [Hla.out]; have hw3 := Below.next hw2 hb3))
      all_goals
        go_ret2
        refine ⟨?_, by first | assumption | exact hw3 | exact hw2 | exact hw1⟩
        rw [hgoal.out]
        repeat (first | rw [if_pos (by omega)] | rw [if_neg (by omega)])
        try rfl
  · have hne : (q != 0) = true := by simp [hq0]
    have hr := hide (hgoal.out.trans (if_pos hq0))
    clear hgoal hq0
    go_enter Try.func17, Try.ntmps17
    go_wp2_with fail
    refine (puCheck_any ⟨next, lb, l, mark⟩ S _ _ ⟨_, _, rfl, HB.out.below (by go_grown), HP.out.below (by go_grown)⟩).mono ?_
    rintro e w1 ⟨rfl, hb1⟩
    rw [Hq.out]
    go_wp2
    go_ret2
    exact ⟨by rw [hr.out]; rfl, Below.next (by go_grown) hb1⟩

theorem hits_drop (l : List Pt) (seq time : Int) (k : Nat) (h : k < l.length) : hits (l.drop k) seq time = (decide (l[k].seq ≤ seq) && decide (time ≤ l[k].time) || hits (l.drop (k + 1)) seq time) := by
  rw [drop_cons l k h]; rfl

set_option maxHeartbeats 800000 in
theorem rallows_any (t : Trk) (seq time : Int) (S : Nat → Prop) (v : Value) (w : World) (h : TrkV w S v t) (hl1 : t.beyond.length ≤ 1000000000) (hl2 : t.points.length ≤ 1000000000) :
    Calls Try.prog 18 #[v, .int .i64 seq, .int .i64 time] w fun e w' => e = .returned (.tuple #[.bool (allowsR t seq time).1, .int .i64 (allowsR t seq time).2]) ∧ Below w.heap.size w w' := by
  obtain ⟨vb, vp, rfl, hB, hP⟩ := h
  obtain ⟨A, c, rfl, hc, hcell⟩ := pts_form hP
  obtain ⟨Ab, cb, rfl, _, _⟩ := ints_form hB
  have H := hide hcell
  have HB := hide hB
  have HP := hide hP
  clear hcell hB hP
  obtain ⟨next, lb, l, mark⟩ := t
  dsimp only at *
  have hgoal : Hid (allowsR ⟨next, lb, l, mark⟩ seq time = if puCheck ⟨next, lb, l, mark⟩ ≠ 0 then (false, puCheck ⟨next, lb, l, mark⟩) else if seq < 0 ∨ 1099511627776 < seq ∨ time < 0 ∨ 1099511627776 < time then (false, 2) else if hasB ⟨next, lb, l, mark⟩ seq = true then (false, 7) else if time ≤ mark then (false, 0) else (!hits l seq time, 0)) := rfl
  generalize hq : puCheck ⟨next, lb, l, mark⟩ = q at *
  generalize hha : hasB ⟨next, lb, l, mark⟩ seq = ha at *
  generalize allowsR ⟨next, lb, l, mark⟩ seq time = res at *
  have Hq := hide hq
  have Hha := hide hha
  clear hq hha
  by_cases hq0 : q = 0
  · have hne : (q != 0) = false := by simp [hq0]
    have hq0' := hide hq0
    clear hq0
    cases ha
    all_goals
      have hgo := hgoal.out
      simp only [reduceCtorEq, if_true, hq0'.out, ne_eq, not_true_eq_false, if_false] at hgo
      clear hgoal
      have hgoal := hide hgo
      clear hgo
      go_enter Try.func18, Try.ntmps18
      go_wp2_with fail
      refine (rpuCheck_any ⟨next, lb, l, mark⟩ S _ _ ⟨_, _, rfl, HB.out.below (by go_grown), HP.out.below (by go_grown)⟩).mono ?_
      rintro e w1 ⟨rfl, hb1⟩
      rw [Hq.out]
      have hw1 : Below w.heap.size w w1 := Below.next (by go_grown) hb1
      have ht0 := cell_later (a := ⟨w.heap.size, 0, none⟩) (v := .int .i64 next) hb1 (by simp)
      have ht1 := cell_later (a := ⟨w.heap.size, 1, none⟩) (v := .slice Ab lb.length cb) hb1 (by simp)
      have ht2 := cell_later (a := ⟨w.heap.size, 2, none⟩) (v := .slice A l.length c) hb1 (by simp)
      have ht3 := cell_later (a := ⟨w.heap.size, 3, none⟩) (v := .int .i64 mark) hb1 (by simp)
      clear hb1
      go_wp2_with (go_at_call 52; refine (rcontains_any ⟨next, lb, l, mark⟩ seq S _ _ ⟨_, _, rfl, HB.out.below hw1, HP.out.below hw1⟩ hl1).mono ?_; rintro e w2 ⟨rfl, hb2⟩; rw [Hha.out]; have hw2 := Below.next hw1 hb2; have ht2' := cell_later hb2 ht2; have ht3' := cell_later hb2 ht3)
      all_goals first
        | (go_ret2
           refine ⟨?_, by first | assumption | exact hw2 | exact hw1⟩
           rw [hgoal.out]
           repeat (first | rw [if_pos (by omega)] | rw [if_neg (by omega)])
           try rfl)
        | skip
    clear ht0 ht1 ht2 ht3 ht3'
    go_loopw [9] (fun i wr => ∃ k : Nat, k ≤ l.length ∧ i = .int .i64 k ∧ Hid (hits (l.drop k) seq time = hits l seq time) ∧ Below w.heap.size w wr ∧ wr.cell? ⟨w.heap.size, 2, none⟩ = some (.slice A l.length c)) (fun i _ => l.length - (intOf i).toNat)
    case atStart => exact ⟨0, Nat.zero_le _, rfl, rfl, hw2, ht2'⟩
    case round =>
      clear ht2'
      obtain ⟨k, hk, rfl, hs, hb, ht2⟩ := hrel
      by_cases hlt : k < l.length
      · obtain ⟨b, off, rfl, hbl, hx0, hx1⟩ := H.out k hlt
        have hx0 := cell_later hb hx0
        have hx1 := cell_later hb hx1
        have hd := hide (hits_drop l seq time k hlt)
        generalize l[k] = x at *
        obtain ⟨x0, x1⟩ := x
        go_wp2
        all_goals first
          | (go_ret2
             refine ⟨?_, hb⟩
             rw [hgoal.out, if_neg (by omega), if_neg (by omega), ← hs.out, hd.out, decide_eq_true (p := x0 ≤ seq) (by omega), decide_eq_true (p := time ≤ x1) (by omega)]
             rfl)
          | skip
        all_goals
          have hnx : Hid (hits (l.drop (k + 1)) seq time = hits l seq time) := by
            unfold Hid
            rw [← hs.out, hd.out]
            first
              | (rw [decide_eq_false (p := x0 ≤ seq) (by omega)]; rfl)
              | (rw [decide_eq_false (p := time ≤ x1) (by omega)]; simp)
          first
            | exact ⟨⟨k + 1, by omega, by go_num, hnx, hb, ht2⟩, by simp [intOf]; omega⟩
            | (go_roundw
               case rel => exact ⟨k + 1, by omega, by go_num, hnx, hb, ht2⟩
               case measure => simp [intOf]; omega)
      · go_wp2
        go_ret2
        refine ⟨?_, hb⟩
        rw [hgoal.out, if_neg (by omega), if_neg (by omega), ← hs.out, List.drop_eq_nil_of_le (by omega)]
        rfl
  · have hne : (q != 0) = true := by simp [hq0]
    have hr := hide (hgoal.out.trans (if_pos hq0))
    clear hgoal hq0
    go_enter Try.func18, Try.ntmps18
    go_wp2_with fail
    refine (rpuCheck_any ⟨next, lb, l, mark⟩ S _ _ ⟨_, _, rfl, HB.out.below (by go_grown), HP.out.below (by go_grown)⟩).mono ?_
    rintro e w1 ⟨rfl, hb1⟩
    rw [Hq.out]
    go_wp2
    go_ret2
    exact ⟨by rw [hr.out]; rfl, Below.next (by go_grown) hb1⟩

end Go.Proofs.Ythhnhajldhnfmaa
