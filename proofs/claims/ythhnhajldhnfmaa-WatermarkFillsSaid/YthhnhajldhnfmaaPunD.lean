/- The walks of layers 34 and 35, sixth part: own copies. -/
import Derived.Test.YthhnhajldhnfmaaPunC
set_option linter.unusedVariables false
set_option linter.unusedSimpArgs false
namespace Go.Proofs.Ythhnhajldhnfmaa
open Go.RowKit

/-- The call hands back a tracker whose lists are the call's own. -/
def RetTrk (t : Trk) (w0 : World) (r : Ending) (w' : World) : Prop :=
  ∃ A c A' c', r = .returned (.agg #[.int .i64 t.next, .slice A t.beyond.length c, .slice A' t.points.length c', .int .i64 t.mark]) ∧
    Own w' w0.heap.size 3 1 encI (.slice A t.beyond.length c) t.beyond ∧ Own w' w0.heap.size 27 2 encP (.slice A' t.points.length c') t.points ∧ Below w0.heap.size w0 w'

set_option maxHeartbeats 1600000 in
theorem own_any (t : Trk) (S : Nat → Prop) (v : Value) (w : World) (h : TrkV w S v t) (hl1 : t.beyond.length ≤ 1000000000) (hl2 : t.points.length ≤ 1000000000) :
    Calls Try.prog 56 #[v] w (RetTrk t w) := by
  obtain ⟨vb, vp, rfl, hB, hP⟩ := h
  obtain ⟨next, lb, l, mark⟩ := t
  dsimp only at *
  obtain ⟨A, c, rfl, hc, hcell⟩ := pts_form hP
  obtain ⟨Ab, cb, rfl, hcb, _⟩ := ints_form hB
  have HB := hide hB
  have HP := hide hP
  clear hcell hB hP
  go_enter Try.func56, Try.ntmps56
  go_wp2_with fail
  have hT0 : Hid (Blk (((w.alloc (.cells #[.int .i64 next, .slice Ab lb.length cb, .slice A l.length c, .int .i64 mark] 25)).alloc (.cells #[.int .i64 0, .slice none 0 0, .slice none 0 0, .int .i64 0] 25)).drew) w.heap.size 25 #[.int .i64 next, .slice Ab lb.length cb, .slice A l.length c, .int .i64 mark]) := Blk.alloc (Blk.new w _ _) _
  have hR0 : Hid (Blk (((w.alloc (.cells #[.int .i64 next, .slice Ab lb.length cb, .slice A l.length c, .int .i64 mark] 25)).alloc (.cells #[.int .i64 0, .slice none 0 0, .slice none 0 0, .int .i64 0] 25)).drew) (w.heap.size + 1) 25 #[.int .i64 0, .slice none 0 0, .slice none 0 0, .int .i64 0]) := by
    have := Blk.new (w.alloc (.cells #[.int .i64 next, .slice Ab lb.length cb, .slice A l.length c, .int .i64 mark] 25)) 25 #[.int .i64 0, .slice none 0 0, .slice none 0 0, .int .i64 0]
    rw [World.size_alloc] at this
    exact this
  go_region_with (first
    | (go_at_call 69; refine (cloneI_any lb S _ _ (HB.out.below ?_) hl1).mono ?_; go_grown; rintro e w1 ⟨A1, c1, rfl, ho1, hb1⟩; have hw1 : Below w.heap.size w w1 := Below.next (by go_grown) hb1; have hT1 : Hid (Blk w1 w.heap.size 25 #[.int .i64 next, .slice Ab lb.length cb, .slice A l.length c, .int .i64 mark]) := Blk.below (by first | exact hT1.out | exact hT2.out | exact hT0.out) hb1; have hR1 : Hid (Blk w1 (w.heap.size + 1) 25 #[.int .i64 0, .slice none 0 0, .slice none 0 0, .int .i64 0]) := Blk.below (by first | exact hR1.out | exact hR2.out | exact hR0.out) hb1; have t10 := hT1.out.cell_some 0 rfl; have t11 := hT1.out.cell_some 1 rfl; have t12 := hT1.out.cell_some 2 rfl; have t13 := hT1.out.cell_some 3 rfl; have tf11 := hT1.out.frozen 1; have tf12 := hT1.out.frozen 2)
    | (go_at_call 70; refine (cloneP_any l S _ _ (HP.out.below ?_) hl2).mono ?_; go_grown; rintro e w2 ⟨A2, c2, rfl, ho2, hb2⟩; have hw2 : Below w.heap.size w w2 := Below.next (by go_grown) hb2; have hT2 : Hid (Blk w2 w.heap.size 25 #[.int .i64 next, .slice Ab lb.length cb, .slice A l.length c, .int .i64 mark]) := Blk.below (by first | exact hT1.out | exact hT2.out | exact hT0.out) hb2; have hR2 : Hid (Blk w2 (w.heap.size + 1) 25 #[.int .i64 0, .slice none 0 0, .slice none 0 0, .int .i64 0]) := Blk.below (by first | exact hR1.out | exact hR2.out | exact hR0.out) hb2; have t20 := hT2.out.cell_some 0 rfl; have t21 := hT2.out.cell_some 1 rfl; have t22 := hT2.out.cell_some 2 rfl; have t23 := hT2.out.cell_some 3 rfl; have tf21 := hT2.out.frozen 1; have tf22 := hT2.out.frozen 2))
  all_goals
    have l1 := hR1.out.lt
    have l2 := hR2.out.lt
    have r10 := hR1.out.cell_some 0 rfl
    have r11 := hR1.out.cell_some 1 rfl
    have r12 := hR1.out.cell_some 2 rfl
    have r13 := hR1.out.cell_some 3 rfl
    have r20 := hR2.out.cell_some 0 rfl
    have r21 := hR2.out.cell_some 1 rfl
    have r22 := hR2.out.cell_some 2 rfl
    have r23 := hR2.out.cell_some 3 rfl
    have f10 := hR1.out.frozen 0
    have f11 := hR1.out.frozen 1
    have f12 := hR1.out.frozen 2
    have f13 := hR1.out.frozen 3
    have f20 := hR2.out.frozen 0
    have f21 := hR2.out.frozen 1
    have f22 := hR2.out.frozen 2
    have f23 := hR2.out.frozen 3
    go_wp2
    refine bodyPost_ret (v := .agg #[.int .i64 next, .slice A1 lb.length c1, .slice A2 l.length c2, .int .i64 mark]) (by simp [results, Try.results56, go_sem, r10, r11, r12, r13, r20, r21, r22, r23]) rfl ⟨A1, c1, A2, c2, rfl, ?_, ?_, ?_⟩
    · refine Own.le (base := w.heap.size + 2) ?_ (by omega)
      iterate 6 (refine Own.setCell_lt ?_ (by simp <;> omega) _)
      first
        | exact (ho1.below hb2).le (by first | omega | (simp; done) | (simp; omega))
        | exact ho1.le (by first | omega | (simp; done) | (simp; omega))
    · refine Own.le (base := w.heap.size + 2) ?_ (by omega)
      iterate 6 (refine Own.setCell_lt ?_ (by simp <;> omega) _)
      first
        | exact (ho2.below hb1).le (by first | omega | (simp; done) | (simp; omega))
        | exact ho2.le (by first | omega | (simp; done) | (simp; omega))
    · iterate 6 (refine Below.setCell ?_ (by simp <;> omega) _)
      assumption

end Go.Proofs.Ythhnhajldhnfmaa
