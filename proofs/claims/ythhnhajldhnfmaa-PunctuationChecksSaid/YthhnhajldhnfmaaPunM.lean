/- Laws of layer 35: PunctuationChecks. -/
import Derived.Test.YthhnhajldhnfmaaPunL
import Derived.Deep.RegionHeld3
set_option linter.unusedVariables false
set_option linter.unusedSimpArgs false
namespace Go.Proofs.Ythhnhajldhnfmaa
open Go.RowKit


set_option maxHeartbeats 1600000 in
theorem checks_any (t : Trk) (a0 a1 b0 b1 p0 p1 : Int) (S : Nat → Prop) (v : Value) (w : World) (h : TrkV w S v t) :
    Calls Try.prog 3 #[v, .agg #[.int .i64 a0, .int .i64 a1, .int .i64 b0, .int .i64 b1], .agg #[.int .i64 p0, .int .i64 p1]] w fun e w' => e = .returned (.bool true) ∧ Below w.heap.size w w' := by
  obtain ⟨vb, vp, rfl, hB, hP⟩ := h
  obtain ⟨A, c, rfl, hc, hcell⟩ := pts_form hP
  obtain ⟨Ab, cb, rfl, _, _⟩ := ints_form hB
  have HB := hide hB
  have HP := hide hP
  clear hcell hB hP
  obtain ⟨next, lb, l, mark⟩ := t
  dsimp only at *
  go_enter Try.func3, Try.ntmps3
  go_wp2_with fail
  refine (few_any ⟨next, lb, l, mark⟩ S _ _ ⟨_, _, rfl, HB.out.below (by go_grown), HP.out.below (by go_grown)⟩).mono ?_
  rintro e w1 ⟨rfl, hb1⟩
  dsimp only
  have hw1 : Hid (Below w.heap.size w w1) := Below.next (by go_grown) hb1
  have hT1 : Hid (Blk w1 w.heap.size 25 #[.int .i64 next, .slice Ab lb.length cb, .slice A l.length c, .int .i64 mark]) := Blk.below (Blk.alloc (Blk.alloc (Blk.new w _ _) _) _) hb1
  have hA1 : Hid (Blk w1 (w.heap.size + 1) 28 #[.int .i64 a0, .int .i64 a1, .int .i64 b0, .int .i64 b1]) := Blk.below (Blk.alloc (blk_new_at (w.alloc _) _ _ (by simp)) _) hb1
  have hP1 : Hid (Blk w1 (w.heap.size + 2) 27 #[.int .i64 p0, .int .i64 p1]) := Blk.below (blk_new_at ((w.alloc _).alloc _) _ _ (by simp)) hb1
  clear hb1
  cases hf : (decide (lb.length ≤ 300) && decide (l.length ≤ 300)) with
  | false =>
    go_wp2_with fail
    refine (awake_any _).mono ?_
    rintro e w2 ⟨rfl, hb2⟩
    have hw2 := hide (Below.next hw1.out hb2)
    go_wp2
    exact bodyPost_ret (v := .bool true) (by simp [results, Try.results3, go_sem]) rfl ⟨rfl, hw2.out⟩
  | true =>
    have hl : lb.length ≤ 300 ∧ l.length ≤ 300 := by simpa using hf
    have hl1 : lb.length ≤ 1000000000 := by omega
    have hl2 : l.length ≤ 1000000000 := by omega
    clear hf hl
    generalize hal : allowsT ⟨next, lb, l, mark⟩ p0 p1 = al
    have Hal := hide hal
    have Har := hide ((allows_eq ⟨next, lb, l, mark⟩ p0 p1).trans hal)
    clear hal
    obtain ⟨al1, al2⟩ := al
    have t0 := hT1.out.cell_some 0 rfl
    have t1 := hT1.out.cell_some 1 rfl
    have t2 := hT1.out.cell_some 2 rfl
    have t3 := hT1.out.cell_some 3 rfl
    have q0 := hP1.out.cell_some 0 rfl
    have q1 := hP1.out.cell_some 1 rfl
    go_wp2_with fail
    refine (allows_any ⟨next, lb, l, mark⟩ p0 p1 S _ _ ⟨_, _, rfl, HB.out.below hw1.out, HP.out.below hw1.out⟩ hl1 hl2).mono ?_
    rw [Hal.out]
    rintro e w2 ⟨rfl, hb2⟩
    have hw2 := hide (Below.next hw1.out hb2)
    have hT2 := hide (hT1.out.below hb2)
    have hA2 := hide (hA1.out.below hb2)
    have hP2 := hide (hP1.out.below hb2)
    clear t0 t1 t2 t3 q0 q1 hw1 hT1 hA1 hP1 hb2
    have t0 := hT2.out.cell_some 0 rfl
    have t1 := hT2.out.cell_some 1 rfl
    have t2 := hT2.out.cell_some 2 rfl
    have t3 := hT2.out.cell_some 3 rfl
    have q0 := hP2.out.cell_some 0 rfl
    have q1 := hP2.out.cell_some 1 rfl
    go_wp2_with fail
    refine (rallows_any ⟨next, lb, l, mark⟩ p0 p1 S _ _ ⟨_, _, rfl, HB.out.below hw2.out, HP.out.below hw2.out⟩ hl1 hl2).mono ?_
    rw [Har.out]
    rintro e w3 ⟨rfl, hb3⟩
    have hw3 := hide (Below.next hw2.out hb3)
    have hT3 := hide (hT2.out.below hb3)
    have hA3 := hide (hA2.out.below hb3)
    have hP3 := hide (hP2.out.below hb3)
    clear t0 t1 t2 t3 q0 q1 hw2 hT2 hA2 hP2 hb3
    have t0 := hT3.out.cell_some 0 rfl
    have t1 := hT3.out.cell_some 1 rfl
    have t2 := hT3.out.cell_some 2 rfl
    have t3 := hT3.out.cell_some 3 rfl
    have r0 := hA3.out.cell_some 0 rfl
    have r1 := hA3.out.cell_some 1 rfl
    have r2 := hA3.out.cell_some 2 rfl
    have r3 := hA3.out.cell_some 3 rfl
    have s0 : Hid (Ints w3 S (.slice Ab lb.length cb) lb) := HB.out.below hw3.out
    have s1 : Hid (Pts w3 S (.slice A l.length c) l) := HP.out.below hw3.out
    generalize hpc : puCheck ⟨next, lb, l, mark⟩ = pc
    have Hpc := hide hpc
    generalize him : implies ⟨a0, a1⟩ ⟨b0, b1⟩ = im
    have Him := hide him
    clear hpc him HB HP hT3 hA3 hP3
    go_upto_region 5 with (fail)
    have hz : Below w3.heap.size w3 w3 := Below.refl _ _
    go_region_held3 (fun w' => Below w3.heap.size w3 w' ∧ w'.cell? ⟨w.heap.size, 0, none⟩ = some (.int .i64 next) ∧ w'.cell? ⟨w.heap.size, 1, none⟩ = some (.slice Ab lb.length cb) ∧ w'.cell? ⟨w.heap.size, 2, none⟩ = some (.slice A l.length c) ∧ w'.cell? ⟨w.heap.size, 3, none⟩ = some (.int .i64 mark) ∧
        w'.cell? ⟨w.heap.size + 1, 0, none⟩ = some (.int .i64 a0) ∧ w'.cell? ⟨w.heap.size + 1, 1, none⟩ = some (.int .i64 a1) ∧ w'.cell? ⟨w.heap.size + 1, 2, none⟩ = some (.int .i64 b0) ∧ w'.cell? ⟨w.heap.size + 1, 3, none⟩ = some (.int .i64 b1))
      (first | exact ⟨hz, t0, t1, t2, t3, r0, r1, r2, r3⟩ | exact ⟨hz.drew, t0, t1, t2, t3, r0, r1, r2, r3⟩ | exact ⟨Below.next (by (first | assumption | (go_split_ands; assumption))) hb9, cell_later hb9 (by (first | assumption | (go_split_ands; assumption))), cell_later hb9 (by (first | assumption | (go_split_ands; assumption))), cell_later hb9 (by (first | assumption | (go_split_ands; assumption))), cell_later hb9 (by (first | assumption | (go_split_ands; assumption))), cell_later hb9 (by (first | assumption | (go_split_ands; assumption))), cell_later hb9 (by (first | assumption | (go_split_ands; assumption))), cell_later hb9 (by (first | assumption | (go_split_ands; assumption))), cell_later hb9 (by (first | assumption | (go_split_ands; assumption)))⟩)
      (first
        | (go_at_call 16; refine (awake_any _).mono ?_; rintro e w9 ⟨rfl, hb9⟩)
        | (go_at_call 19; refine (puCheck_any ⟨next, lb, l, mark⟩ S _ _ ⟨_, _, rfl, s0.out.below (by (first | assumption | (go_split_ands; assumption))), s1.out.below (by (first | assumption | (go_split_ands; assumption)))⟩).mono ?_; rw [Hpc.out]; rintro e w9 ⟨rfl, hb9⟩)
        | (go_at_call 20; refine (rpuCheck_any ⟨next, lb, l, mark⟩ S _ _ ⟨_, _, rfl, s0.out.below (by (first | assumption | (go_split_ands; assumption))), s1.out.below (by (first | assumption | (go_split_ands; assumption)))⟩).mono ?_; rw [Hpc.out]; rintro e w9 ⟨rfl, hb9⟩)
        | (go_at_call 21; refine (implies_any a0 a1 b0 b1 _).mono ?_; rw [Him.out]; rintro e w9 ⟨rfl, hb9⟩)
        | (go_at_call 22; refine (rimplies_any a0 a1 b0 b1 _).mono ?_; rw [Him.out]; rintro e w9 ⟨rfl, hb9⟩))
    all_goals
      go_wp2
      exact bodyPost_ret (v := .bool true) (by simp [results, Try.results3, go_sem]) rfl ⟨rfl, Below.next (b := w3) hw3.out (by (first | assumption | (go_split_ands; assumption)))⟩
end Go.Proofs.Ythhnhajldhnfmaa
