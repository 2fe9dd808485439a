/- The walks of layers 34 and 35, third part: the checks. -/
import Derived.Test.YthhnhajldhnfmaaSeqB
set_option linter.unusedVariables false
set_option linter.unusedSimpArgs false
namespace Go.Proofs.Ythhnhajldhnfmaa
open Go.RowKit

set_option maxHeartbeats 400000 in
theorem rcontains_any (t : Trk) (seq : Int) (S : Nat → Prop) (v : Value) (w : World) (h : TrkV w S v t) (hl : t.beyond.length ≤ 1000000000) :
    Calls Try.prog 52 #[v, .int .i64 seq] w fun e w' => e = .returned (.bool (hasB t seq)) ∧ Below w.heap.size w w' := by
  obtain ⟨vb, vp, rfl, hB, hP⟩ := h
  obtain ⟨A, c, rfl, hc, hcell⟩ := ints_form hB
  obtain ⟨next, l, pts, mark⟩ := t
  dsimp only at *
  have H := hide hcell
  clear hcell hB hP
  have hgoal : Hid (hasB ⟨next, l, pts, mark⟩ seq = if seq < next then decide (0 ≤ seq) else l.contains seq) := rfl
  generalize hasB ⟨next, l, pts, mark⟩ seq = r at *
  by_cases hn : seq < next
  · have hr := hide (hgoal.out.trans (if_pos hn))
    clear hgoal
    go_enter Try.func52, Try.ntmps52
    go_wp2
    go_ret
    exact ⟨ret_bool hr.out.symm, by go_grown⟩
  · go_enter Try.func52, Try.ntmps52
    go_wp2
    go_loopw [5] (fun i wr => ∃ k : Nat, k ≤ l.length ∧ i = .int .i64 k ∧ Hid ((l.drop k).contains seq = r) ∧ Below w.heap.size w wr ∧ wr.cell? ⟨w.heap.size, 1, none⟩ = some (.slice A l.length c)) (fun i _ => l.length - (intOf i).toNat)
    case atStart => exact ⟨0, Nat.zero_le _, rfl, by unfold Hid; rw [hgoal.out, if_neg (by omega)]; rfl, by go_grown, by simp⟩
    case round =>
      obtain ⟨k, hk, rfl, hs, hb, hbox⟩ := hrel
      by_cases hlt : k < l.length
      · obtain ⟨b, off, rfl, hbl, hx⟩ := H.out k hlt
        have hx := cell_later hb hx
        have hd := hide (drop_cons l k hlt)
        generalize l[k] = y at *
        by_cases hxy : y = seq
        · have hne : (y == seq) = true := by simp [hxy]
          have hxy' := hide hxy; clear hxy
          go_wp2
          go_ret
          exact ⟨ret_bool (by rw [← hs.out, hd.out]; simp [hxy'.out]), hb⟩
        · have hne : (y == seq) = false := by simp [hxy]
          have hxy' := hide hxy; clear hxy
          go_wp2
          go_roundw
          case rel => exact ⟨k + 1, by omega, by go_num, by unfold Hid; rw [← hs.out, hd.out]; simp [Ne.symm hxy'.out], hb, hbox⟩
          case measure => simp [intOf]; omega
      · go_wp2
        go_ret
        exact ⟨ret_bool (by rw [← hs.out, List.drop_eq_nil_of_le (by omega)]; simp), hb⟩

set_option maxHeartbeats 800000 in
theorem asc_any (t : Trk) (a : Pt) (S : Nat → Prop) (v : Value) (w : World) (h : TrkV w S v t) :
    Calls Try.prog 53 #[v, .agg #[.int .i64 a.seq, .int .i64 a.time]] w fun e w' => e = .returned (.int .i64 (asc t a)) ∧ Below w.heap.size w w' := by
  obtain ⟨vb, vp, rfl, hB, hP⟩ := h
  obtain ⟨A, c, rfl, hc, hcell⟩ := pts_form hP
  obtain ⟨Ab, cb, rfl, _, _⟩ := ints_form hB
  have H := hide hcell
  have HB := hide hB
  have HP := hide hP
  clear hcell hB hP
  obtain ⟨next, lb, l, mark⟩ := t
  obtain ⟨a0, a1⟩ := a
  dsimp only at *
  have hgoal : Hid (asc ⟨next, lb, l, mark⟩ ⟨a0, a1⟩ = if sqCheck ⟨next, lb, l, mark⟩ ≠ 0 then sqCheck ⟨next, lb, l, mark⟩ else if mark < -1 ∨ 1099511627776 < mark then 2 else if 256 < l.length then 5 else ascLoop ⟨a0, a1⟩ l) := rfl
  generalize hq : sqCheck ⟨next, lb, l, mark⟩ = q at *
  have Hq := hide hq
  clear hq
  by_cases hq0 : q = 0
  · have hne : (q != 0) = false := by simp [hq0]
    have hq0' := hide hq0
    clear hq0
    go_enter Try.func53, Try.ntmps53
    go_wp2_with fail
    refine (sqCheck_any ⟨next, lb, l, mark⟩ S _ _ ⟨_, _, rfl, HB.out.below (by go_grown), HP.out.below (by go_grown)⟩).mono ?_
    rintro e w1 ⟨rfl, hb1⟩
    rw [Hq.out]
    have hw1 : Below w.heap.size w w1 := Below.next (by go_grown) hb1
    have ht2 := cell_later (a := ⟨w.heap.size, 2, none⟩) (v := .slice A l.length c) hb1 (by simp)
    have ht3 := cell_later (a := ⟨w.heap.size, 3, none⟩) (v := .int .i64 mark) hb1 (by simp)
    have hL : Hid (Blk w1 (w.heap.size + 1) 27 #[.int .i64 a0, .int .i64 a1]) := Blk.below (by simpa using Blk.new (w.alloc _) 27 #[.int .i64 a0, .int .i64 a1]) hb1
    clear hb1
    go_wp2
    all_goals first
      | (go_ret; refine ⟨ret_int ?_, by go_grown⟩; rw [hgoal.out, if_neg (by simp [hq0'.out])]; repeat (first | rw [if_pos (by omega)] | rw [if_neg (by omega)]))
      | skip
    go_loopw [30] (fun i wr => ∃ (k : Nat) (b0 b1 : Int), k ≤ l.length ∧ i = .int .i64 k ∧ Hid (ascLoop ⟨b0, b1⟩ (l.drop k) = ascLoop ⟨a0, a1⟩ l) ∧ Hid (Blk wr (w.heap.size + 1) 27 #[.int .i64 b0, .int .i64 b1]) ∧ Below w.heap.size w wr) (fun i _ => l.length - (intOf i).toNat)
    case atStart => exact ⟨0, _, _, Nat.zero_le _, rfl, rfl, hL, hw1⟩
    case round =>
      clear hL ht2 ht3
      obtain ⟨k, b0, b1, hk, rfl, hs, hL, hb⟩ := hrel
      by_cases hlt : k < l.length
      · obtain ⟨b, off, rfl, hbl, hx0, hx1⟩ := H.out k hlt
        have hx0 := cell_later hb hx0
        have hx1 := cell_later hb hx1
        have hd := hide (drop_cons l k hlt)
        generalize l[k] = x at *
        obtain ⟨x0, x1⟩ := x
        cases hv : ptValid ⟨x0, x1⟩ with
        | false =>
          have hv' := hide hv
          clear hv
          go_wp2_with (go_at_call 55; refine (valid_any x0 x1 _).mono ?_; rintro e w2 ⟨rfl, hb2⟩; rw [hv'.out])
          go_ret
          exact ⟨ret_int (by rw [hgoal.out, if_neg (by simp [hq0'.out]), if_neg (by omega), if_neg (by omega), ← hs.out, hd.out, ascLoop, if_pos hv'.out]), Below.next (hb.alloc hb.size _) hb2⟩
        | true =>
          have hv' := hide hv
          clear hv
          go_wp2_with fail
          refine (valid_any x0 x1 _).mono ?_
          rintro e w2 ⟨rfl, hb2⟩
          rw [hv'.out]
          have hw2 : Below w.heap.size w w2 := Below.next (hb.alloc hb.size _) hb2
          have hp0 := cell_later (a := ⟨wr.heap.size, 0, none⟩) (v := .int .i64 x0) hb2 (by simp)
          have hp1 := cell_later (a := ⟨wr.heap.size, 1, none⟩) (v := .int .i64 x1) hb2 (by simp)
          have hL2 : Hid (Blk w2 (w.heap.size + 1) 27 #[.int .i64 b0, .int .i64 b1]) := (hL.out.alloc _).below hb2
          have hl0 := hL2.out.cell_some 0 rfl
          have hl1 := hL2.out.cell_some 1 rfl
          have hf0 := hL2.out.frozen 0
          have hf1 := hL2.out.frozen 1
          clear hb2
          go_wp2
          all_goals first
            | (go_ret; exact ⟨ret_int (by rw [hgoal.out, if_neg (by simp [hq0'.out]), if_neg (by omega), if_neg (by omega), ← hs.out, hd.out, ascLoop, if_neg (by simp [hv'.out]), if_pos (by simp only; omega)]), hw2⟩)
            | skip
          go_roundw
          case rel => exact ⟨k + 1, x0, x1, by omega, by go_num, by unfold Hid; rw [← hs.out, hd.out, ascLoop, if_neg (by simp [hv'.out]), if_neg (by simp only; omega)], (hL2.out.set 0 _).set 1 _, (hw2.setCell (by simp) _).setCell (by simp) _⟩
          case measure => simp [intOf]; omega
      · go_wp2
        go_ret
        exact ⟨ret_int (by rw [hgoal.out, if_neg (by simp [hq0'.out]), if_neg (by omega), if_neg (by omega), ← hs.out, List.drop_eq_nil_of_le (by omega), ascLoop]), hb⟩
  · have hne : (q != 0) = true := by simp [hq0]
    have hr := hide (hgoal.out.trans (if_pos hq0))
    clear hgoal hq0
    go_enter Try.func53, Try.ntmps53
    go_wp2_with fail
    refine (sqCheck_any ⟨next, lb, l, mark⟩ S _ _ ⟨_, _, rfl, HB.out.below (by go_grown), HP.out.below (by go_grown)⟩).mono ?_
    rintro e w1 ⟨rfl, hb1⟩
    rw [Hq.out]
    go_wp2
    go_ret
    exact ⟨ret_int hr.out.symm, Below.next (by go_grown) hb1⟩

set_option maxHeartbeats 400000 in
theorem puCheck_any (t : Trk) (S : Nat → Prop) (v : Value) (w : World) (h : TrkV w S v t) :
    Calls Try.prog 19 #[v] w fun e w' => e = .returned (.int .i64 (puCheck t)) ∧ Below w.heap.size w w' := by
  obtain ⟨vb, vp, rfl, hB, hP⟩ := h
  obtain ⟨A, c, rfl, _, _⟩ := pts_form hP
  obtain ⟨Ab, cb, rfl, _, _⟩ := ints_form hB
  have HB := hide hB
  have HP := hide hP
  clear hB hP
  obtain ⟨next, lb, l, mark⟩ := t
  dsimp only at *
  have hr : Hid (asc ⟨next, lb, l, mark⟩ ⟨next, mark⟩ = puCheck ⟨next, lb, l, mark⟩) := rfl
  generalize puCheck ⟨next, lb, l, mark⟩ = r at *
  go_enter Try.func19, Try.ntmps19
  go_wp2_with fail
  refine (asc_any ⟨next, lb, l, mark⟩ ⟨next, mark⟩ S _ _ ⟨_, _, rfl, HB.out.below (by go_grown), HP.out.below (by go_grown)⟩).mono ?_
  rintro e w1 ⟨rfl, hb1⟩
  rw [hr.out]
  go_wp2
  go_ret
  exact ⟨rfl, Below.next (by go_grown) hb1⟩

end Go.Proofs.Ythhnhajldhnfmaa
