/- The walks of layers 34 and 35, first part: what each function returns, whatever the memory. -/
import Derived.Test.YthhnhajldhnfmaaProg
import Derived.Test.YthhnhajldhnfmaaSpec34
set_option linter.unusedVariables false
set_option linter.unusedSimpArgs false
namespace Go.Proofs.Ythhnhajldhnfmaa
open Go.RowKit

theorem ret_int {k : IntKind} {a b : Int} (h : a = b) : Ending.returned (.int k a) = .returned (.int k b) := by rw [h]
theorem ret_bool {a b : Bool} (h : a = b) : Ending.returned (.bool a) = .returned (.bool b) := by rw [h]

set_option maxHeartbeats 400000 in
theorem few_any (t : Trk) (S : Nat → Prop) (v : Value) (w : World) (h : TrkV w S v t) :
    Calls Try.prog 15 #[v] w fun e w' => e = .returned (.bool (decide (t.beyond.length ≤ 300) && decide (t.points.length ≤ 300))) ∧ Below w.heap.size w w' := by
  obtain ⟨vb, vp, rfl, hB, hP⟩ := h
  obtain ⟨A, c, rfl, hc, hcell⟩ := ints_form hB
  obtain ⟨A', c', rfl, hc', hcell'⟩ := pts_form hP
  clear hB hP hcell hcell'
  go_enter Try.func15, Try.ntmps15
  go_wp2
  all_goals (go_ret; exact ⟨ret_bool (by rw [Bool.eq_iff_iff]; simp only [Bool.and_eq_true, decide_eq_true_eq, Bool.false_eq_true, false_iff, true_iff]; omega), by go_grown⟩)

set_option maxHeartbeats 400000 in
theorem valid_any (s t : Int) (w : World) :
    Calls Try.prog 55 #[.agg #[.int .i64 s, .int .i64 t]] w fun e w' => e = .returned (.bool (ptValid ⟨s, t⟩)) ∧ Below w.heap.size w w' := by
  go_enter Try.func55, Try.ntmps55
  go_wp2
  all_goals (go_ret; exact ⟨ret_bool (by rw [Bool.eq_iff_iff]; simp only [ptValid, Bool.and_eq_true, decide_eq_true_eq, Bool.false_eq_true, false_iff, true_iff]; omega), by go_grown⟩)

set_option maxHeartbeats 400000 in
theorem rvalid_any (s t : Int) (w : World) :
    Calls Try.prog 64 #[.agg #[.int .i64 s, .int .i64 t]] w fun e w' => e = .returned (.bool (ptValid ⟨s, t⟩)) ∧ Below w.heap.size w w' := by
  go_enter Try.func64, Try.ntmps64
  go_wp2
  all_goals (go_ret; exact ⟨ret_bool (by rw [Bool.eq_iff_iff]; simp only [ptValid, Bool.and_eq_true, decide_eq_true_eq, Bool.false_eq_true, false_iff, true_iff]; omega), by go_grown⟩)

set_option maxHeartbeats 400000 in
theorem implies_any (s t s' t' : Int) (w : World) :
    Calls Try.prog 21 #[.agg #[.int .i64 s, .int .i64 t], .agg #[.int .i64 s', .int .i64 t']] w fun e w' => e = .returned (.bool (implies ⟨s, t⟩ ⟨s', t'⟩)) ∧ Below w.heap.size w w' := by
  go_enter Try.func21, Try.ntmps21
  go_wp2
  all_goals (go_ret; exact ⟨ret_bool (by rw [Bool.eq_iff_iff]; simp only [implies, Bool.and_eq_true, decide_eq_true_eq, Bool.false_eq_true, false_iff, true_iff]; omega), by go_grown⟩)

set_option maxHeartbeats 400000 in
theorem rimplies_any (s t s' t' : Int) (w : World) :
    Calls Try.prog 22 #[.agg #[.int .i64 s, .int .i64 t], .agg #[.int .i64 s', .int .i64 t']] w fun e w' => e = .returned (.bool (implies ⟨s, t⟩ ⟨s', t'⟩)) ∧ Below w.heap.size w w' := by
  go_enter Try.func22, Try.ntmps22
  go_wp2
  all_goals (go_ret; exact ⟨ret_bool (by rw [Bool.eq_iff_iff]; simp only [implies, Bool.and_eq_true, decide_eq_true_eq, Bool.false_eq_true, false_iff, true_iff]; omega), by go_grown⟩)

set_option maxHeartbeats 400000 in
theorem sqCheck_any (t : Trk) (S : Nat → Prop) (v : Value) (w : World) (h : TrkV w S v t) :
    Calls Try.prog 83 #[v] w fun e w' => e = .returned (.int .i64 (sqCheck t)) ∧ Below w.heap.size w w' := by
  obtain ⟨vb, vp, rfl, hB, hP⟩ := h
  obtain ⟨A, c, rfl, hc, hcell⟩ := ints_form hB
  obtain ⟨next, l, pts, mark⟩ := t
  dsimp only at *
  have hc' := hide hcell; clear hcell
  have hgoal : Hid (sqCheck ⟨next, l, pts, mark⟩ = if next < 0 ∨ 1099511627777 < next then 2 else if 256 < l.length then 5 else sqLoop next l) := rfl
  go_enter Try.func83, Try.ntmps83
  go_wp2
  all_goals first
    | (go_ret; refine ⟨ret_int ?_, by go_grown⟩; rw [hgoal.out]; repeat (first | rw [if_pos (by omega)] | rw [if_neg (by omega)]))
    | skip
  go_loopw [3, 25] (fun last i wr => ∃ (k : Nat) (a : Int), k ≤ l.length ∧ i = .int .i64 k ∧ last = .int .i64 a ∧ Hid (sqLoop a (l.drop k) = sqLoop next l) ∧ Below w.heap.size w wr) (fun _ i _ => l.length - (intOf i).toNat)
  case atStart => exact ⟨0, _, Nat.zero_le _, rfl, rfl, rfl, by go_grown⟩
  case round =>
      obtain ⟨k, a, hk, rfl, rfl, hs, hb⟩ := hrel
      by_cases hlt : k < l.length
      · obtain ⟨b, off, rfl, hbl, hx⟩ := hc'.out k hlt
        have hx := cell_later hb hx
        have hs1 := hide (drop_cons l k hlt)
        generalize l[k] = n at *
        go_wp2
        all_goals first
          | (go_ret; refine ⟨ret_int ?_, hb⟩; rw [hgoal.out, if_neg (by omega), if_neg (by omega), ← hs.out, hs1.out, sqLoop]; repeat (first | rw [if_pos (by omega)] | rw [if_neg (by omega)]))
          | skip
        go_roundw
        case rel => exact ⟨k + 1, _, by omega, by go_num, rfl, by unfold Hid; rw [← hs.out, hs1.out, sqLoop, if_neg (by omega), if_neg (by omega)], hb⟩
        case measure => simp [intOf]; omega
      · go_wp2
        go_ret
        refine ⟨ret_int ?_, hb⟩
        rw [hgoal.out, if_neg (by omega), if_neg (by omega), ← hs.out, List.drop_eq_nil_of_le (by omega), sqLoop]

set_option maxHeartbeats 400000 in
theorem rsqCheck_any (t : Trk) (S : Nat → Prop) (v : Value) (w : World) (h : TrkV w S v t) :
    Calls Try.prog 84 #[v] w fun e w' => e = .returned (.int .i64 (sqCheck t)) ∧ Below w.heap.size w w' := by
  obtain ⟨vb, vp, rfl, hB, hP⟩ := h
  obtain ⟨A, c, rfl, hc, hcell⟩ := ints_form hB
  obtain ⟨next, l, pts, mark⟩ := t
  dsimp only at *
  have hc' := hide hcell; clear hcell
  have hgoal : Hid (sqCheck ⟨next, l, pts, mark⟩ = if next < 0 ∨ 1099511627777 < next then 2 else if 256 < l.length then 5 else sqLoop next l) := rfl
  go_enter Try.func84, Try.ntmps84
  go_wp2
  all_goals first
    | (go_ret; refine ⟨ret_int ?_, by go_grown⟩; rw [hgoal.out]; repeat (first | rw [if_pos (by omega)] | rw [if_neg (by omega)]))
    | skip
  go_loopw [3, 4] (fun last i wr => ∃ (k : Nat) (a : Int), k ≤ l.length ∧ i = .int .i64 k ∧ last = .int .i64 a ∧ Hid (sqLoop a (l.drop k) = sqLoop next l) ∧ Below w.heap.size w wr ∧ wr.cell? ⟨w.heap.size, 1, none⟩ = some (.slice A l.length c)) (fun _ i _ => l.length - (intOf i).toNat)
  case atStart => exact ⟨0, _, Nat.zero_le _, rfl, rfl, rfl, by go_grown, by go_cell⟩
  case round =>
      obtain ⟨k, a, hk, rfl, rfl, hs, hb, hbox⟩ := hrel
      by_cases hlt : k < l.length
      · obtain ⟨b, off, rfl, hbl, hx⟩ := hc'.out k hlt
        have hx := cell_later hb hx
        have hs1 := hide (drop_cons l k hlt)
        generalize l[k] = n at *
        go_wp2
        all_goals first
          | (go_ret; refine ⟨ret_int ?_, hb⟩; rw [hgoal.out, if_neg (by omega), if_neg (by omega), ← hs.out, hs1.out, sqLoop]; repeat (first | rw [if_pos (by omega)] | rw [if_neg (by omega)]))
          | skip
        go_roundw
        case rel => exact ⟨k + 1, _, by omega, by go_num, rfl, by unfold Hid; rw [← hs.out, hs1.out, sqLoop, if_neg (by omega), if_neg (by omega)], hb, hbox⟩
        case measure => simp [intOf]; omega
      · go_wp2
        go_ret
        refine ⟨ret_int ?_, hb⟩
        rw [hgoal.out, if_neg (by omega), if_neg (by omega), ← hs.out, List.drop_eq_nil_of_le (by omega), sqLoop]

end Go.Proofs.Ythhnhajldhnfmaa
