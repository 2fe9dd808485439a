/- The walks of layers 34 and 35, fifth part: closures, the latest time, own copies. -/
import Derived.Test.YthhnhajldhnfmaaLibA
set_option linter.unusedVariables false
set_option linter.unusedSimpArgs false
namespace Go.Proofs.Ythhnhajldhnfmaa
open Go.RowKit

/-- The closures of layer 35: each answers by the cells that it captured. -/
theorem latest1_pred (seq : Int) (g : Nat) (w : World) (hc : w.cell? ⟨g, 0, none⟩ = some (.int .i64 seq)) :
    PredB Try.prog 82 #[.pointer (some ⟨g, 0, none⟩)] (fun x => .agg (encP x).toArray) (fun p => decide (p.seq ≤ seq)) w := by
  intro W x hb
  have hc' := cell_later hb hc
  obtain ⟨x0, x1⟩ := x
  have hlt : g < W.heap.size := Nat.lt_of_lt_of_le (World.block_lt_of_cell? w _ hc) hb.size
  show Calls Try.prog 82 #[.agg #[.int .i64 x0, .int .i64 x1], .pointer (some ⟨g, 0, none⟩)] W _
  go_enter Try.func82, Try.ntmps82
  go_wp2
  go_ret
  exact ⟨rfl, by go_grown⟩

theorem add1_pred (q : Pt) (g : Nat) (w : World) (hc0 : w.cell? ⟨g, 0, none⟩ = some (.int .i64 q.seq)) (hc1 : w.cell? ⟨g, 1, none⟩ = some (.int .i64 q.time)) :
    PredB Try.prog 58 #[.pointer (some ⟨g, 0, none⟩)] (fun x => .agg (encP x).toArray) (fun x => implies x q) w := by
  intro W x hb
  have hc0' := cell_later hb hc0
  have hc1' := cell_later hb hc1
  obtain ⟨x0, x1⟩ := x
  obtain ⟨y0, y1⟩ := q
  have hlt : g < W.heap.size := Nat.lt_of_lt_of_le (World.block_lt_of_cell? w _ hc0) hb.size
  show Calls Try.prog 58 #[.agg #[.int .i64 x0, .int .i64 x1], .pointer (some ⟨g, 0, none⟩)] W fun e w' => e = .returned (.bool (implies ⟨x0, x1⟩ ⟨y0, y1⟩)) ∧ Below W.heap.size W w'
  generalize hr : implies ⟨x0, x1⟩ ⟨y0, y1⟩ = r
  have Hr := hide hr
  clear hr
  go_enter Try.func58, Try.ntmps58
  go_wp2_with fail
  refine (implies_any x0 x1 y0 y1 _).mono ?_
  rintro e w1 ⟨rfl, hb1⟩
  rw [Hr.out]
  go_wp2
  go_ret
  exact ⟨rfl, Below.next (by go_grown) hb1⟩

theorem add2_pred (q : Pt) (g : Nat) (w : World) (hc0 : w.cell? ⟨g, 0, none⟩ = some (.int .i64 q.seq)) (hc1 : w.cell? ⟨g, 1, none⟩ = some (.int .i64 q.time)) :
    PredB Try.prog 60 #[.pointer (some ⟨g, 0, none⟩)] (fun x => .agg (encP x).toArray) (fun x => !implies q x) w := by
  intro W x hb
  have hc0' := cell_later hb hc0
  have hc1' := cell_later hb hc1
  obtain ⟨x0, x1⟩ := x
  obtain ⟨y0, y1⟩ := q
  have hlt : g < W.heap.size := Nat.lt_of_lt_of_le (World.block_lt_of_cell? w _ hc0) hb.size
  show Calls Try.prog 60 #[.agg #[.int .i64 x0, .int .i64 x1], .pointer (some ⟨g, 0, none⟩)] W fun e w' => e = .returned (.bool (!implies ⟨y0, y1⟩ ⟨x0, x1⟩)) ∧ Below W.heap.size W w'
  generalize hr : implies ⟨y0, y1⟩ ⟨x0, x1⟩ = r
  have Hr := hide hr
  clear hr
  go_enter Try.func60, Try.ntmps60
  go_wp2_with fail
  refine (implies_any y0 y1 x0 x1 _).mono ?_
  rintro e w1 ⟨rfl, hb1⟩
  rw [Hr.out]
  go_wp2
  go_ret
  exact ⟨rfl, Below.next (by go_grown) hb1⟩

theorem add3_cmp (tgt : Pt) (w : World) :
    CmpB Try.prog 62 #[] (fun x => .agg (encP x).toArray) (.agg (encP tgt).toArray) (fun x => wrap64 (x.seq - tgt.seq)) w := by
  intro W x hb
  obtain ⟨x0, x1⟩ := x
  obtain ⟨y0, y1⟩ := tgt
  show Calls Try.prog 62 #[.agg #[.int .i64 x0, .int .i64 x1], .agg #[.int .i64 y0, .int .i64 y1]] W _
  go_enter Try.func62, Try.ntmps62
  go_wp2
  go_ret
  exact ⟨rfl, by go_grown⟩

theorem settle1_pred (next mark : Int) (g g' : Nat) (w : World) (hc0 : w.cell? ⟨g, 0, none⟩ = some (.int .i64 next)) (hc1 : w.cell? ⟨g', 3, none⟩ = some (.int .i64 mark)) :
    PredB Try.prog 80 #[.pointer (some ⟨g, 0, none⟩), .pointer (some ⟨g', 0, none⟩)] (fun x => .agg (encP x).toArray) (fun x => decide (next < x.seq) && decide (mark < x.time)) w := by
  intro W x hb
  have hc0' := cell_later hb hc0
  have hc1' := cell_later hb hc1
  obtain ⟨x0, x1⟩ := x
  have hlt : g < W.heap.size := Nat.lt_of_lt_of_le (World.block_lt_of_cell? w _ hc0) hb.size
  have hlt' : g' < W.heap.size := Nat.lt_of_lt_of_le (World.block_lt_of_cell? w _ hc1) hb.size
  show Calls Try.prog 80 #[.agg #[.int .i64 x0, .int .i64 x1], .pointer (some ⟨g, 0, none⟩), .pointer (some ⟨g', 0, none⟩)] W _
  go_enter Try.func80, Try.ntmps80
  go_wp2
  all_goals (go_ret; exact ⟨ret_bool (by simp <;> omega), by go_grown⟩)

set_option maxHeartbeats 800000 in
theorem latest_any (mark : Int) (l : List Pt) (seq : Int) (S : Nat → Prop) (v : Value) (w : World) (h : Pts w S v l) (hl : l.length ≤ 1000000000) :
    Calls Try.prog 51 #[.int .i64 mark, v, .int .i64 seq] w fun e w' => e = .returned (.int .i64 (latest mark l seq)) ∧ Below w.heap.size w w' := by
  obtain ⟨A, c, rfl, hc, _⟩ := pts_form h
  have H := hide h
  clear h
  have hgoal : Hid (latest mark l seq = (l.filter fun p => decide (p.seq ≤ seq)).foldl (fun m p => max m p.time) mark) := rfl
  generalize latest mark l seq = r at *
  have eg := enters_of (P := Try.prog) Try.func82 (by kernel_rfl) rfl
  have hfl : Hid ((l.filter fun p => decide (p.seq ≤ seq)).length ≤ 1000000000) := Nat.le_trans (List.length_filter_le _ _) hl
  go_enter Try.func51, Try.ntmps51
  go_wp2_with fail
  refine (filteredP_any l (fun p => decide (p.seq ≤ seq)) 82 _ eg S _ _ (H.out.below (by go_grown)) (latest1_pred seq w.heap.size _ (by simp)) hl).mono ?_
  rintro e w1 ⟨A1, c1, rfl, ho, hb1⟩
  generalize (l.filter fun p => decide (p.seq ≤ seq)) = m at *
  obtain ⟨A2, c2, he, hc2, hcell⟩ := pts_form (ho.sl (S := fun _ => True) eok_pts (fun _ _ => trivial))
  injection he with hA hn hc'
  subst hA; subst hc'
  have HM := hide hcell
  have hw1 : Below w.heap.size w w1 := Below.next (by go_grown) hb1
  have hml := hfl.out
  clear hcell ho hb1
  go_wp2
  go_loopw [0, 13] (fun vm i wr => ∃ (k : Nat) (a : Int), k ≤ m.length ∧ i = .int .i64 k ∧ vm = .int .i64 a ∧ Hid ((m.drop k).foldl (fun m p => max m p.time) a = r) ∧ Below w1.heap.size w1 wr) (fun _ i _ => m.length - (intOf i).toNat)
  case atStart => exact ⟨0, mark, Nat.zero_le _, rfl, rfl, hgoal.out.symm, Below.refl _ _⟩
  case round =>
    obtain ⟨k, a, hk, rfl, rfl, hs, hb⟩ := hrel
    by_cases hlt : k < m.length
    · obtain ⟨b, off, rfl, hbl, hx0, hx1⟩ := HM.out k hlt
      have hx0 := cell_later hb hx0
      have hx1 := cell_later hb hx1
      have hd := hide (drop_cons m k hlt)
      generalize m[k] = x at *
      obtain ⟨x0, x1⟩ := x
      go_wp2
      refine ⟨⟨k + 1, _, by omega, by go_num, rfl, ?_, ?_⟩, by simp [intOf]; omega⟩
      · unfold Hid
        have e : (if a < x1 then x1 else a) = max a x1 := by rw [Int.max_def]; split <;> split <;> omega
        first
          | rw [e, ← hs.out, hd.out, List.foldl_cons]
          | rw [← hs.out, hd.out, List.foldl_cons]
      · exact hb.alloc hb.size _
    · go_wp2
      go_ret
      exact ⟨ret_int (by rw [← hs.out, List.drop_eq_nil_of_le (by omega)]; rfl), Below.next hw1 hb⟩

end Go.Proofs.Ythhnhajldhnfmaa
