/- The walks of layers 34 and 35, ninth part: Settle. -/
import Derived.Test.YthhnhajldhnfmaaPunD
import Derived.Test.YthhnhajldhnfmaaPunA
import Derived.Test.YthhnhajldhnfmaaSpec35
set_option linter.unusedVariables false
set_option linter.unusedSimpArgs false
namespace Go.Proofs.Ythhnhajldhnfmaa
open Go.RowKit

/-- The call hands back a tracker whose lists are the call's own, and an error number. -/
def RetTE (x : Trk × Int) (w0 : World) (r : Ending) (w' : World) : Prop :=
  ∃ A c A' c', r = .returned (.tuple #[.agg #[.int .i64 x.1.next, .slice A x.1.beyond.length c, .slice A' x.1.points.length c', .int .i64 x.1.mark], .int .i64 x.2]) ∧
    Own w' w0.heap.size 3 1 encI (.slice A x.1.beyond.length c) x.1.beyond ∧ Own w' w0.heap.size 27 2 encP (.slice A' x.1.points.length c') x.1.points ∧ Below w0.heap.size w0 w'
theorem RetTE.trkV {x : Trk × Int} {w0 w' : World} {A A' : Option Addr} {c c' : Nat} (h1 : Own w' w0.heap.size 3 1 encI (.slice A x.1.beyond.length c) x.1.beyond) (h2 : Own w' w0.heap.size 27 2 encP (.slice A' x.1.points.length c') x.1.points) :
    TrkV w' (fun b => w0.heap.size ≤ b) (.agg #[.int .i64 x.1.next, .slice A x.1.beyond.length c, .slice A' x.1.points.length c', .int .i64 x.1.mark]) x.1 :=
  ⟨_, _, rfl, h1.sl eok_int (fun _ h => h), h2.sl eok_pts (fun _ h => h)⟩

set_option maxHeartbeats 1600000 in
theorem settle_any (t : Trk) (S : Nat → Prop) (v : Value) (w : World) (h : TrkV w S v t) (hl1 : t.beyond.length ≤ 1000000000) (hl2 : t.points.length ≤ 1000000000) :
    Calls Try.prog 49 #[v] w (RetTE (settleT t) w) := by
  obtain ⟨vb, vp, rfl, hB, hP⟩ := h
  obtain ⟨A, c, rfl, hc, hcell⟩ := pts_form hP
  obtain ⟨Ab, cb, rfl, _, _⟩ := ints_form hB
  have HB := hide hB
  have HP := hide hP
  clear hcell hB hP
  obtain ⟨next, lb, l, mark⟩ := t
  dsimp only at *
  have hgoal : Hid (settleT ⟨next, lb, l, mark⟩ = if asc ⟨next, lb, l, mark⟩ ⟨-1, -1⟩ ≠ 0 then (zeroT, asc ⟨next, lb, l, mark⟩ ⟨-1, -1⟩) else (⟨next, lb, l.filter fun p => decide (next < p.seq) && decide (latest mark l next < p.time), latest mark l next⟩, 0)) := rfl
  generalize hq : asc ⟨next, lb, l, mark⟩ ⟨-1, -1⟩ = q at *
  generalize hla : latest mark l next = la at *
  generalize settleT ⟨next, lb, l, mark⟩ = res at *
  have Hq := hide hq
  have Hla := hide hla
  clear hq hla
  by_cases hq0 : q = 0
  · have hne : (q != 0) = false := by simp [hq0]
    have hr := hide (hgoal.out.trans (if_neg (by simp [hq0])))
    clear hgoal hq0
    rw [hr.out]
    have eg := enters_of (P := Try.prog) Try.func80 (by kernel_rfl) rfl
    go_enter Try.func49, Try.ntmps49
    go_wp2_with fail
    refine (asc_any ⟨next, lb, l, mark⟩ ⟨-1, -1⟩ S _ _ ⟨_, _, rfl, HB.out.below (by go_grown), HP.out.below (by go_grown)⟩).mono ?_
    rintro e w1 ⟨rfl, hb1⟩
    rw [Hq.out]
    have hw1 : Below w.heap.size w w1 := Below.next (by go_grown) hb1
    have hT1 : Hid (Blk w1 w.heap.size 25 #[.int .i64 next, .slice Ab lb.length cb, .slice A l.length c, .int .i64 mark]) := Blk.below (Blk.alloc (Blk.new w _ _) _) hb1
    have hR1 : Hid (Blk w1 (w.heap.size + 1) 25 #[.int .i64 0, .slice none 0 0, .slice none 0 0, .int .i64 0]) := Blk.below (by simpa using Blk.new (w.alloc _) _ _) hb1
    have t0 := hT1.out.cell_some 0 rfl
    have t1 := hT1.out.cell_some 1 rfl
    have t2 := hT1.out.cell_some 2 rfl
    have t3 := hT1.out.cell_some 3 rfl
    clear hb1
    go_wp2_with fail
    refine (own_any ⟨next, lb, l, mark⟩ S _ _ ⟨_, _, rfl, HB.out.below hw1, HP.out.below hw1⟩ hl1 hl2).mono ?_
    rintro e w2 ⟨A1, c1, A2, c2, rfl, ho1, ho2, hb2⟩
    clear t0 t1 t2 t3
    have hT2 := hide (hT1.out.below hb2)
    have hR2 := hide (hR1.out.below hb2)
    have hw2 := hide (Below.next hw1 hb2)
    have hw1z := hide (hR1.out.lt)
    have Ho1 := hide ho1
    have Hb2 := hide hb2
    have t0 := cell_later (hb2) (hT1.out.cell_some 0 rfl)
    have t2 := cell_later (hb2) (hT1.out.cell_some 2 rfl)
    have t3 := cell_later (hb2) (hT1.out.cell_some 3 rfl)
    have lt0 := hT2.out.lt
    clear ho1 ho2 hb2 hT1 hR1 hw1
    dsimp only
    go_wp2_with fail
    refine (latest_any mark l next S _ _ (HP.out.below (hw2.out.alloc hw2.out.size _)) hl2).mono ?_
    rintro e w3 ⟨rfl, hb3⟩
    rw [Hla.out]
    have hO3 : Hid (Blk w3 w2.heap.size 25 #[.int .i64 next, .slice A1 lb.length c1, .slice A2 l.length c2, .int .i64 mark]) := Blk.below (Blk.new w2 _ _) hb3
    have hT3 := hide ((hT2.out.alloc (.cells #[.int .i64 next, .slice A1 lb.length c1, .slice A2 l.length c2, .int .i64 mark] 25)).below hb3)
    have hR3 := hide ((hR2.out.alloc (.cells #[.int .i64 next, .slice A1 lb.length c1, .slice A2 l.length c2, .int .i64 mark] 25)).below hb3)
    have hw3 := hide (Below.next (hw2.out.alloc hw2.out.size _) hb3)
    have Hb3 := hide hb3
    clear t0 t2 t3 hb3
    have t2 := hT3.out.cell_some 2 rfl
    have o3 := hO3.out.cell_some 3 rfl
    have f3 := hO3.out.frozen 3
    have hle2 : w.heap.size ≤ w2.heap.size := hw2.out.size
    have hne0 : ¬ (w2.heap.size = w.heap.size) := by have := hT2.out.lt; omega
    have hne0' : ¬ (w.heap.size = w2.heap.size) := by omega
    go_wp2_with fail
    have hw3' : Below w.heap.size w (w3.setCell ⟨w2.heap.size, 3, none⟩ (.int .i64 la)) := hw3.out.setCell hle2 _
    refine (filteredP_any l (fun p => decide (next < p.seq) && decide (la < p.time)) 80 _ eg S _ _ (HP.out.below hw3') (settle1_pred next la w.heap.size w2.heap.size _ ((hT3.out.far hne0' _).cell_some 0 rfl) ((hO3.out.set 3 _).cell_some 3 rfl)) hl2).mono ?_
    rintro e w4 ⟨A3, c3, rfl, ho3, hb4⟩
    have hO4 : Hid (Blk w4 w2.heap.size 25 #[.int .i64 next, .slice A1 lb.length c1, .slice A2 l.length c2, .int .i64 la]) := (hO3.out.set 3 _).below hb4
    have hR4 := hide ((hR3.out.far (p := ⟨w2.heap.size, 3, none⟩) (by have := hR2.out.lt; simp; omega) (.int .i64 la)).below hb4)
    have hw4 := hide (Below.next hw3' hb4)
    have Ho3 := hide ho3
    have Hb4 := hide hb4
    clear t2 o3 f3 ho3 hb4 hw3'
    have o0 := hO4.out.cell_some 0 rfl
    have o1 := hO4.out.cell_some 1 rfl
    have o2 := hO4.out.cell_some 2 rfl
    have o3 := hO4.out.cell_some 3 rfl
    have p2 := hO4.out.frozen 2
    have r0 := hR4.out.cell_some 0 rfl
    have r1 := hR4.out.cell_some 1 rfl
    have r2 := hR4.out.cell_some 2 rfl
    have r3 := hR4.out.cell_some 3 rfl
    have f0 := hR4.out.frozen 0
    have f1 := hR4.out.frozen 1
    have f2 := hR4.out.frozen 2
    have f3 := hR4.out.frozen 3
    have hne1 : ¬ (w2.heap.size = w.heap.size + 1) := by have := hR2.out.lt; omega
    have hne1' : ¬ (w.heap.size + 1 = w2.heap.size) := by omega
    go_wp2
    refine bodyPost_ret (v := .tuple #[.agg #[.int .i64 next, .slice A1 lb.length c1, .slice A3 (l.filter fun p => decide (next < p.seq) && decide (la < p.time)).length c3, .int .i64 la], .int .i64 0]) (by simp [results, Try.results49, go_sem, r0, r1, r2, r3, hne1, hne1']) rfl ⟨A1, c1, A3, c3, rfl, ?_, ?_, ?_⟩
    · have hnb : (Value.slice A1 lb.length c1).ownBlock ≠ some w2.heap.size := fun e => by have := (Ho1.out.lt _ e).2; omega
      refine Own.le (base := w1.heap.size) ?_ (by have := hw1z.out; omega)
      iterate 4 (refine Own.setCell_lt ?_ (by have := hw1z.out; simp <;> omega) _)
      refine Own.setCell_ne ?_ hnb _
      exact (Own.setCell_ne (((Ho1.out.below ((Below.refl _ _).alloc (Nat.le_refl _) _))).below Hb3.out) hnb _).below Hb4.out
    · have hlt := hO3.out.lt
      have hsz : (w3.setCell ⟨w2.heap.size, 3, none⟩ (.int .i64 la)).heap.size = w3.heap.size := by simp [World.setCell]
      refine Own.le (base := w3.heap.size) ?_ (by omega)
      iterate 5 (refine Own.setCell_lt ?_ (by have := hw1z.out; simp <;> omega) _)
      exact Ho3.out.le (by omega)
    · iterate 5 (refine Below.setCell ?_ (by simp <;> omega) _)
      exact hw4.out
  · have hne : (q != 0) = true := by simp [hq0]
    have hr := hide (hgoal.out.trans (if_pos hq0))
    clear hgoal hq0
    rw [hr.out]
    go_enter Try.func49, Try.ntmps49
    go_wp2_with fail
    refine (asc_any ⟨next, lb, l, mark⟩ ⟨-1, -1⟩ S _ _ ⟨_, _, rfl, HB.out.below (by go_grown), HP.out.below (by go_grown)⟩).mono ?_
    rintro e w1 ⟨rfl, hb1⟩
    rw [Hq.out]
    have hw1 : Below w.heap.size w w1 := Below.next (by go_grown) hb1
    have hR1 : Hid (Blk w1 (w.heap.size + 1) 25 #[.int .i64 0, .slice none 0 0, .slice none 0 0, .int .i64 0]) := Blk.below (by simpa using Blk.new (w.alloc _) _ _) hb1
    have r0 := hR1.out.cell_some 0 rfl
    have r1 := hR1.out.cell_some 1 rfl
    have r2 := hR1.out.cell_some 2 rfl
    have r3 := hR1.out.cell_some 3 rfl
    have f0 := hR1.out.frozen 0
    have f1 := hR1.out.frozen 1
    have f2 := hR1.out.frozen 2
    have f3 := hR1.out.frozen 3
    clear hb1
    go_wp2
    refine bodyPost_ret (v := .tuple #[.agg #[.int .i64 0, .slice none 0 0, .slice none 0 0, .int .i64 0], .int .i64 q]) (by simp [results, Try.results49, go_sem, r0, r1, r2, r3]) rfl ⟨none, 0, none, 0, rfl, Own.nil_, Own.nil_, ?_⟩
    iterate 4 (refine Below.setCell ?_ (by simp <;> omega) _)
    exact hw1

end Go.Proofs.Ythhnhajldhnfmaa
