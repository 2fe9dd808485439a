/- The walks of layers 34 and 35, third part: the checks. The walks of layers 34 and 35, ninth part: Settle. Go's library, walked: searches. Go's library, walked: what the slices functions that the layers use hand back. Printed by gen_lib.py. Plain laws of layer 35: checked trackers are sorted; where a punctuation is put. The walks of layers 34 and 35, eleventh part: Add. The walks of layers 34 and 35, fourth part: the reference's checks, equality, closures, the latest time. The walks of layers 34 and 35, seventh part: Allows, Same. The walks of layers 34 and 35, eighth part: equality of trackers. Contracts of layers 34 and 35 that were walked by hand, as contracts of the abstract walk. -/
import Derived.Test.YtcbdhigllelmcaaGreatK07
set_option linter.unusedVariables false
set_option linter.unusedSimpArgs false
namespace Go.Proofs.YtcbdhigllelmcaaGreat
open Go.RowKit

set_option maxHeartbeats 400000 in
theorem rcontains_any (t : Trk) (seq : Int) (S : Nat → Prop) (v : Value) (w : World) (h : TrkV w S v t) (hl : t.beyond.length ≤ 1000000000) :
    Calls Tryz.prog 84 #[v, .int .i64 seq] w fun e w' => e = .returned (.bool (hasB t seq)) ∧ Below w.heap.size w w' := by
  obtain ⟨vb, vp, rfl, hB, hP⟩ := h
  obtain ⟨A, c, rfl, hc, hcell⟩ := ints_form hB
  obtain ⟨next, l, pts, mark⟩ := t
  dsimp only at *
  have H := hide hcell
  clear hcell hB hP
  have hgoal : Hid (hasB ⟨next, l, pts, mark⟩ seq = if seq < next then decide (0 ≤ seq) else l.contains seq) := rfl
  generalize hasB ⟨next, l, pts, mark⟩ seq = r at *
  by_cases hn : seq < next
  · have hr := hide (hgoal.out.trans (if_pos hn))
    clear hgoal
    go_enter Tryz.func84, Tryz.ntmps84
    go_wp2
    go_ret
    exact ⟨ret_bool hr.out.symm, by go_grown⟩
  · go_enter Tryz.func84, Tryz.ntmps84
    go_wp2
    go_loopw [5] (fun i wr => ∃ k : Nat, k ≤ l.length ∧ i = .int .i64 k ∧ Hid ((l.drop k).contains seq = r) ∧ Below w.heap.size w wr ∧ wr.cell? ⟨w.heap.size, 1, none⟩ = some (.slice A l.length c)) (fun i _ => l.length - (intOf i).toNat)
    case atStart => exact ⟨0, Nat.zero_le _, rfl, by unfold Hid; rw [hgoal.out, if_neg (by omega)]; rfl, by go_grown, by simp⟩
    case round =>
      obtain ⟨k, hk, rfl, hs, hb, hbox⟩ := hrel
      by_cases hlt : k < l.length
      · obtain ⟨b, off, rfl, hbl, hx⟩ := H.out k hlt
        have hx := cell_later hb hx
        have hd := hide (drop_cons l k hlt)
        generalize l[k] = y at *
        by_cases hxy : y = seq
        · have hne : (y == seq) = true := by simp [hxy]
          have hxy' := hide hxy; clear hxy
          go_wp2
          go_ret
          exact ⟨ret_bool (by rw [← hs.out, hd.out]; simp [hxy'.out]), hb⟩
        · have hne : (y == seq) = false := by simp [hxy]
          have hxy' := hide hxy; clear hxy
          go_wp2
          go_roundw
          case rel => exact ⟨k + 1, by omega, by go_num, by unfold Hid; rw [← hs.out, hd.out]; simp [Ne.symm hxy'.out], hb, hbox⟩
          case measure => simp [intOf]; omega
      · go_wp2
        go_ret
        exact ⟨ret_bool (by rw [← hs.out, List.drop_eq_nil_of_le (by omega)]; simp), hb⟩

set_option maxHeartbeats 800000 in
theorem asc_any (t : Trk) (a : Pt) (S : Nat → Prop) (v : Value) (w : World) (h : TrkV w S v t) :
    Calls Tryz.prog 75 #[v, .agg #[.int .i64 a.seq, .int .i64 a.time]] w fun e w' => e = .returned (.int .i64 (asc t a)) ∧ Below w.heap.size w w' := by
  obtain ⟨vb, vp, rfl, hB, hP⟩ := h
  obtain ⟨A, c, rfl, hc, hcell⟩ := pts_form hP
  obtain ⟨Ab, cb, rfl, _, _⟩ := ints_form hB
  have H := hide hcell
  have HB := hide hB
  have HP := hide hP
  clear hcell hB hP
  obtain ⟨next, lb, l, mark⟩ := t
  obtain ⟨a0, a1⟩ := a
  dsimp only at *
  have hgoal : Hid (asc ⟨next, lb, l, mark⟩ ⟨a0, a1⟩ = if sqCheck ⟨next, lb, l, mark⟩ ≠ 0 then sqCheck ⟨next, lb, l, mark⟩ else if mark < -1 ∨ 1099511627776 < mark then 2 else if 256 < l.length then 5 else ascLoop ⟨a0, a1⟩ l) := rfl
  generalize hq : sqCheck ⟨next, lb, l, mark⟩ = q at *
  have Hq := hide hq
  clear hq
  by_cases hq0 : q = 0
  · have hne : (q != 0) = false := by simp [hq0]
    have hq0' := hide hq0
    clear hq0
    go_enter Tryz.func75, Tryz.ntmps75
    go_wp2_with fail
    refine (sqCheck_any ⟨next, lb, l, mark⟩ S _ _ ⟨_, _, rfl, HB.out.below (by go_grown), HP.out.below (by go_grown)⟩).mono ?_
    rintro e w1 ⟨rfl, hb1⟩
    rw [Hq.out]
    have hw1 : Below w.heap.size w w1 := Below.next (by go_grown) hb1
    have ht2 := cell_later (a := ⟨w.heap.size, 2, none⟩) (v := .slice A l.length c) hb1 (by simp)
    have ht3 := cell_later (a := ⟨w.heap.size, 3, none⟩) (v := .int .i64 mark) hb1 (by simp)
    have hL : Hid (Blk w1 (w.heap.size + 1) 116 #[.int .i64 a0, .int .i64 a1]) := Blk.below (by simpa using Blk.new (w.alloc _) 116 #[.int .i64 a0, .int .i64 a1]) hb1
    clear hb1
    go_wp2
    all_goals first
      | (go_ret; refine ⟨ret_int ?_, by go_grown⟩; rw [hgoal.out, if_neg (by simp [hq0'.out])]; repeat (first | rw [if_pos (by omega)] | rw [if_neg (by omega)]))
      | skip
    go_loopw [30] (fun i wr => ∃ (k : Nat) (b0 b1 : Int), k ≤ l.length ∧ i = .int .i64 k ∧ Hid (ascLoop ⟨b0, b1⟩ (l.drop k) = ascLoop ⟨a0, a1⟩ l) ∧ Hid (Blk wr (w.heap.size + 1) 116 #[.int .i64 b0, .int .i64 b1]) ∧ Below w.heap.size w wr) (fun i _ => l.length - (intOf i).toNat)
    case atStart => exact ⟨0, _, _, Nat.zero_le _, rfl, rfl, hL, hw1⟩
    case round =>
      clear hL ht2 ht3
      obtain ⟨k, b0, b1, hk, rfl, hs, hL, hb⟩ := hrel
      by_cases hlt : k < l.length
      · obtain ⟨b, off, rfl, hbl, hx0, hx1⟩ := H.out k hlt
        have hx0 := cell_later hb hx0
        have hx1 := cell_later hb hx1
        have hd := hide (drop_cons l k hlt)
        generalize l[k] = x at *
        obtain ⟨x0, x1⟩ := x
        cases hv : ptValid ⟨x0, x1⟩ with
        | false =>
          have hv' := hide hv
          clear hv
          go_wp2_with (go_at_call 98; refine (valid_any x0 x1 _).mono ?_; rintro e w2 ⟨rfl, hb2⟩; rw [hv'.out])
          go_ret
          exact ⟨ret_int (by rw [hgoal.out, if_neg (by simp [hq0'.out]), if_neg (by omega), if_neg (by omega), ← hs.out, hd.out, ascLoop, if_pos hv'.out]), Below.next (hb.alloc hb.size _) hb2⟩
        | true =>
          have hv' := hide hv
          clear hv
          go_wp2_with fail
          refine (valid_any x0 x1 _).mono ?_
          rintro e w2 ⟨rfl, hb2⟩
          rw [hv'.out]
          have hw2 : Below w.heap.size w w2 := Below.next (hb.alloc hb.size _) hb2
          have hp0 := cell_later (a := ⟨wr.heap.size, 0, none⟩) (v := .int .i64 x0) hb2 (by simp)
          have hp1 := cell_later (a := ⟨wr.heap.size, 1, none⟩) (v := .int .i64 x1) hb2 (by simp)
          have hL2 : Hid (Blk w2 (w.heap.size + 1) 116 #[.int .i64 b0, .int .i64 b1]) := (hL.out.alloc _).below hb2
          have hl0 := hL2.out.cell_some 0 rfl
          have hl1 := hL2.out.cell_some 1 rfl
          have hf0 := hL2.out.frozen 0
          have hf1 := hL2.out.frozen 1
          clear hb2
          go_wp2
          all_goals first
            | (go_ret; exact ⟨ret_int (by rw [hgoal.out, if_neg (by simp [hq0'.out]), if_neg (by omega), if_neg (by omega), ← hs.out, hd.out, ascLoop, if_neg (by simp [hv'.out]), if_pos (by simp only; omega)]), hw2⟩)
            | skip
          go_roundw
          case rel => exact ⟨k + 1, x0, x1, by omega, by go_num, by unfold Hid; rw [← hs.out, hd.out, ascLoop, if_neg (by simp [hv'.out]), if_neg (by simp only; omega)], (hL2.out.set 0 _).set 1 _, (hw2.setCell (by simp) _).setCell (by simp) _⟩
          case measure => simp [intOf]; omega
      · go_wp2
        go_ret
        exact ⟨ret_int (by rw [hgoal.out, if_neg (by simp [hq0'.out]), if_neg (by omega), if_neg (by omega), ← hs.out, List.drop_eq_nil_of_le (by omega), ascLoop]), hb⟩
  · have hne : (q != 0) = true := by simp [hq0]
    have hr := hide (hgoal.out.trans (if_pos hq0))
    clear hgoal hq0
    go_enter Tryz.func75, Tryz.ntmps75
    go_wp2_with fail
    refine (sqCheck_any ⟨next, lb, l, mark⟩ S _ _ ⟨_, _, rfl, HB.out.below (by go_grown), HP.out.below (by go_grown)⟩).mono ?_
    rintro e w1 ⟨rfl, hb1⟩
    rw [Hq.out]
    go_wp2
    go_ret
    exact ⟨ret_int hr.out.symm, Below.next (by go_grown) hb1⟩

set_option maxHeartbeats 400000 in
theorem puCheck_any (t : Trk) (S : Nat → Prop) (v : Value) (w : World) (h : TrkV w S v t) :
    Calls Tryz.prog 52 #[v] w fun e w' => e = .returned (.int .i64 (puCheck t)) ∧ Below w.heap.size w w' := by
  obtain ⟨vb, vp, rfl, hB, hP⟩ := h
  obtain ⟨A, c, rfl, _, _⟩ := pts_form hP
  obtain ⟨Ab, cb, rfl, _, _⟩ := ints_form hB
  have HB := hide hB
  have HP := hide hP
  clear hB hP
  obtain ⟨next, lb, l, mark⟩ := t
  dsimp only at *
  have hr : Hid (asc ⟨next, lb, l, mark⟩ ⟨next, mark⟩ = puCheck ⟨next, lb, l, mark⟩) := rfl
  generalize puCheck ⟨next, lb, l, mark⟩ = r at *
  go_enter Tryz.func52, Tryz.ntmps52
  go_wp2_with fail
  refine (asc_any ⟨next, lb, l, mark⟩ ⟨next, mark⟩ S _ _ ⟨_, _, rfl, HB.out.below (by go_grown), HP.out.below (by go_grown)⟩).mono ?_
  rintro e w1 ⟨rfl, hb1⟩
  rw [hr.out]
  go_wp2
  go_ret
  exact ⟨rfl, Below.next (by go_grown) hb1⟩

end Go.Proofs.YtcbdhigllelmcaaGreat
namespace Go.Proofs.YtcbdhigllelmcaaGreat
open Go.RowKit

def RetTE (x : Trk × Int) (w0 : World) (r : Ending) (w' : World) : Prop :=
  ∃ A c A' c', r = .returned (.tuple #[.agg #[.int .i64 x.1.next, .slice A x.1.beyond.length c, .slice A' x.1.points.length c', .int .i64 x.1.mark], .int .i64 x.2]) ∧
    Own w' w0.heap.size 3 1 encI (.slice A x.1.beyond.length c) x.1.beyond ∧ Own w' w0.heap.size 116 2 encP (.slice A' x.1.points.length c') x.1.points ∧ Below w0.heap.size w0 w'
theorem RetTE.trkV {x : Trk × Int} {w0 w' : World} {A A' : Option Addr} {c c' : Nat} (h1 : Own w' w0.heap.size 3 1 encI (.slice A x.1.beyond.length c) x.1.beyond) (h2 : Own w' w0.heap.size 116 2 encP (.slice A' x.1.points.length c') x.1.points) :
    TrkV w' (fun b => w0.heap.size ≤ b) (.agg #[.int .i64 x.1.next, .slice A x.1.beyond.length c, .slice A' x.1.points.length c', .int .i64 x.1.mark]) x.1 :=
  ⟨_, _, rfl, h1.sl eok_int (fun _ h => h), h2.sl eok_pts (fun _ h => h)⟩

set_option maxHeartbeats 1600000 in
theorem settle_any (t : Trk) (S : Nat → Prop) (v : Value) (w : World) (h : TrkV w S v t) (hl1 : t.beyond.length ≤ 1000000000) (hl2 : t.points.length ≤ 1000000000) :
    Calls Tryz.prog 124 #[v] w (RetTE (settleT t) w) := by
  obtain ⟨vb, vp, rfl, hB, hP⟩ := h
  obtain ⟨A, c, rfl, hc, hcell⟩ := pts_form hP
  obtain ⟨Ab, cb, rfl, _, _⟩ := ints_form hB
  have HB := hide hB
  have HP := hide hP
  clear hcell hB hP
  obtain ⟨next, lb, l, mark⟩ := t
  dsimp only at *
  have hgoal : Hid (settleT ⟨next, lb, l, mark⟩ = if asc ⟨next, lb, l, mark⟩ ⟨-1, -1⟩ ≠ 0 then (zeroT, asc ⟨next, lb, l, mark⟩ ⟨-1, -1⟩) else (⟨next, lb, l.filter fun p => decide (next < p.seq) && decide (latest mark l next < p.time), latest mark l next⟩, 0)) := rfl
  generalize hq : asc ⟨next, lb, l, mark⟩ ⟨-1, -1⟩ = q at *
  generalize hla : latest mark l next = la at *
  generalize settleT ⟨next, lb, l, mark⟩ = res at *
  have Hq := hide hq
  have Hla := hide hla
  clear hq hla
  by_cases hq0 : q = 0
  · have hne : (q != 0) = false := by simp [hq0]
    have hr := hide (hgoal.out.trans (if_neg (by simp [hq0])))
    clear hgoal hq0
    rw [hr.out]
    have eg := Go.Proofs.enters_of (P := Tryz.prog) Tryz.func133 (by kernel_rfl) rfl
    go_enter Tryz.func124, Tryz.ntmps124
    go_wp2_with fail
    refine (asc_any ⟨next, lb, l, mark⟩ ⟨-1, -1⟩ S _ _ ⟨_, _, rfl, HB.out.below (by go_grown), HP.out.below (by go_grown)⟩).mono ?_
    rintro e w1 ⟨rfl, hb1⟩
    rw [Hq.out]
    have hw1 : Below w.heap.size w w1 := Below.next (by go_grown) hb1
    have hT1 : Hid (Blk w1 w.heap.size 26 #[.int .i64 next, .slice Ab lb.length cb, .slice A l.length c, .int .i64 mark]) := Blk.below (Blk.alloc (Blk.new w _ _) _) hb1
    have hR1 : Hid (Blk w1 (w.heap.size + 1) 26 #[.int .i64 0, .slice none 0 0, .slice none 0 0, .int .i64 0]) := Blk.below (by simpa using Blk.new (w.alloc _) _ _) hb1
    have t0 := hT1.out.cell_some 0 rfl
    have t1 := hT1.out.cell_some 1 rfl
    have t2 := hT1.out.cell_some 2 rfl
    have t3 := hT1.out.cell_some 3 rfl
    clear hb1
    go_wp2_with fail
    refine (own_any ⟨next, lb, l, mark⟩ S _ _ ⟨_, _, rfl, HB.out.below hw1, HP.out.below hw1⟩ hl1 hl2).mono ?_
    rintro e w2 ⟨A1, c1, A2, c2, rfl, ho1, ho2, hb2⟩
    clear t0 t1 t2 t3
    have hT2 := hide (hT1.out.below hb2)
    have hR2 := hide (hR1.out.below hb2)
    have hw2 := hide (Below.next hw1 hb2)
    have hw1z := hide (hR1.out.lt)
    have Ho1 := hide ho1
    have Hb2 := hide hb2
    have t0 := cell_later (hb2) (hT1.out.cell_some 0 rfl)
    have t2 := cell_later (hb2) (hT1.out.cell_some 2 rfl)
    have t3 := cell_later (hb2) (hT1.out.cell_some 3 rfl)
    have lt0 := hT2.out.lt
    clear ho1 ho2 hb2 hT1 hR1 hw1
    dsimp only
    go_wp2_with fail
    refine (latest_any mark l next S _ _ (HP.out.below (hw2.out.alloc hw2.out.size _)) hl2).mono ?_
    rintro e w3 ⟨rfl, hb3⟩
    rw [Hla.out]
    have hO3 : Hid (Blk w3 w2.heap.size 26 #[.int .i64 next, .slice A1 lb.length c1, .slice A2 l.length c2, .int .i64 mark]) := Blk.below (Blk.new w2 _ _) hb3
    have hT3 := hide ((hT2.out.alloc (.cells #[.int .i64 next, .slice A1 lb.length c1, .slice A2 l.length c2, .int .i64 mark] 26)).below hb3)
    have hR3 := hide ((hR2.out.alloc (.cells #[.int .i64 next, .slice A1 lb.length c1, .slice A2 l.length c2, .int .i64 mark] 26)).below hb3)
    have hw3 := hide (Below.next (hw2.out.alloc hw2.out.size _) hb3)
    have Hb3 := hide hb3
    clear t0 t2 t3 hb3
    have t2 := hT3.out.cell_some 2 rfl
    have o3 := hO3.out.cell_some 3 rfl
    have f3 := hO3.out.frozen 3
    have hle2 : w.heap.size ≤ w2.heap.size := hw2.out.size
    have hne0 : ¬ (w2.heap.size = w.heap.size) := by have := hT2.out.lt; omega
    have hne0' : ¬ (w.heap.size = w2.heap.size) := by omega
    go_wp2_with fail
    have hw3' : Below w.heap.size w (w3.setCell ⟨w2.heap.size, 3, none⟩ (.int .i64 la)) := hw3.out.setCell hle2 _
    refine (filteredP_any l (fun p => decide (next < p.seq) && decide (la < p.time)) 133 _ eg S _ _ (HP.out.below hw3') (settle1_pred next la w.heap.size w2.heap.size _ ((hT3.out.far hne0' _).cell_some 0 rfl) ((hO3.out.set 3 _).cell_some 3 rfl)) hl2).mono ?_
    rintro e w4 ⟨A3, c3, rfl, ho3, hb4⟩
    have hO4 : Hid (Blk w4 w2.heap.size 26 #[.int .i64 next, .slice A1 lb.length c1, .slice A2 l.length c2, .int .i64 la]) := (hO3.out.set 3 _).below hb4
    have hR4 := hide ((hR3.out.far (p := ⟨w2.heap.size, 3, none⟩) (by have := hR2.out.lt; simp; omega) (.int .i64 la)).below hb4)
    have hw4 := hide (Below.next hw3' hb4)
    have Ho3 := hide ho3
    have Hb4 := hide hb4
    clear t2 o3 f3 ho3 hb4 hw3'
    have o0 := hO4.out.cell_some 0 rfl
    have o1 := hO4.out.cell_some 1 rfl
    have o2 := hO4.out.cell_some 2 rfl
    have o3 := hO4.out.cell_some 3 rfl
    have p2 := hO4.out.frozen 2
    have r0 := hR4.out.cell_some 0 rfl
    have r1 := hR4.out.cell_some 1 rfl
    have r2 := hR4.out.cell_some 2 rfl
    have r3 := hR4.out.cell_some 3 rfl
    have f0 := hR4.out.frozen 0
    have f1 := hR4.out.frozen 1
    have f2 := hR4.out.frozen 2
    have f3 := hR4.out.frozen 3
    have hne1 : ¬ (w2.heap.size = w.heap.size + 1) := by have := hR2.out.lt; omega
    have hne1' : ¬ (w.heap.size + 1 = w2.heap.size) := by omega
    go_wp2
    refine bodyPost_ret (v := .tuple #[.agg #[.int .i64 next, .slice A1 lb.length c1, .slice A3 (l.filter fun p => decide (next < p.seq) && decide (la < p.time)).length c3, .int .i64 la], .int .i64 0]) (by simp [results, Tryz.results124, go_sem, r0, r1, r2, r3, hne1, hne1']) rfl ⟨A1, c1, A3, c3, rfl, ?_, ?_, ?_⟩
    · have hnb : (Value.slice A1 lb.length c1).ownBlock ≠ some w2.heap.size := fun e => by have := (Ho1.out.lt _ e).2; omega
      refine Own.le (base := w1.heap.size) ?_ (by have := hw1z.out; omega)
      iterate 4 (refine Own.setCell_lt ?_ (by have := hw1z.out; simp <;> omega) _)
      refine Own.setCell_ne ?_ hnb _
      exact (Own.setCell_ne (((Ho1.out.below ((Below.refl _ _).alloc (Nat.le_refl _) _))).below Hb3.out) hnb _).below Hb4.out
    · have hlt := hO3.out.lt
      have hsz : (w3.setCell ⟨w2.heap.size, 3, none⟩ (.int .i64 la)).heap.size = w3.heap.size := by simp [World.setCell]
      refine Own.le (base := w3.heap.size) ?_ (by omega)
      iterate 5 (refine Own.setCell_lt ?_ (by have := hw1z.out; simp <;> omega) _)
      exact Ho3.out.le (by omega)
    · iterate 5 (refine Below.setCell ?_ (by simp <;> omega) _)
      exact hw4.out
  · have hne : (q != 0) = true := by simp [hq0]
    have hr := hide (hgoal.out.trans (if_pos hq0))
    clear hgoal hq0
    rw [hr.out]
    go_enter Tryz.func124, Tryz.ntmps124
    go_wp2_with fail
    refine (asc_any ⟨next, lb, l, mark⟩ ⟨-1, -1⟩ S _ _ ⟨_, _, rfl, HB.out.below (by go_grown), HP.out.below (by go_grown)⟩).mono ?_
    rintro e w1 ⟨rfl, hb1⟩
    rw [Hq.out]
    have hw1 : Below w.heap.size w w1 := Below.next (by go_grown) hb1
    have hR1 : Hid (Blk w1 (w.heap.size + 1) 26 #[.int .i64 0, .slice none 0 0, .slice none 0 0, .int .i64 0]) := Blk.below (by simpa using Blk.new (w.alloc _) _ _) hb1
    have r0 := hR1.out.cell_some 0 rfl
    have r1 := hR1.out.cell_some 1 rfl
    have r2 := hR1.out.cell_some 2 rfl
    have r3 := hR1.out.cell_some 3 rfl
    have f0 := hR1.out.frozen 0
    have f1 := hR1.out.frozen 1
    have f2 := hR1.out.frozen 2
    have f3 := hR1.out.frozen 3
    clear hb1
    go_wp2
    refine bodyPost_ret (v := .tuple #[.agg #[.int .i64 0, .slice none 0 0, .slice none 0 0, .int .i64 0], .int .i64 q]) (by simp [results, Tryz.results124, go_sem, r0, r1, r2, r3]) rfl ⟨none, 0, none, 0, rfl, Own.nil_, Own.nil_, ?_⟩
    iterate 4 (refine Below.setCell ?_ (by simp <;> omega) _)
    exact hw1

end Go.Proofs.YtcbdhigllelmcaaGreat
namespace Go.Proofs.YtcbdhigllelmcaaGreat
open Go.RowKit

set_option maxHeartbeats 400000 in
theorem indexI_any (l : List Int) (x : Int) (S : Nat → Prop) (v : Value) (w : World) (h : Ints w S v l) (hl : l.length ≤ 1000000000) :
    Calls Tryz.prog 142 #[v, .int .i64 x] w fun e w' => e = .returned (.int .i64 (idxFrom (fun y => decide (x = y)) l 0)) ∧ Below w.heap.size w w' := by
  obtain ⟨A, c, rfl, hc, hcell⟩ := ints_form h
  have H := hide hcell
  clear hcell h
  go_enter Tryz.func142, Tryz.ntmps142
  go_wp2
  go_loopw [8] (fun i wr => ∃ k : Nat, k ≤ l.length ∧ i = .int .i64 k ∧ Hid (idxFrom (fun y => decide (x = y)) (l.drop k) k = idxFrom (fun y => decide (x = y)) l 0) ∧ Below w.heap.size w wr) (fun i _ => l.length - (intOf i).toNat)
  case atStart => exact ⟨0, Nat.zero_le _, rfl, rfl, by go_grown⟩
  case round =>
    obtain ⟨k, hk, rfl, hs, hb⟩ := hrel
    by_cases hlt : k < l.length
    · obtain ⟨b, off, rfl, hbl, hx⟩ := H.out k hlt
      have hx := cell_later hb hx
      have hd := hide (drop_cons l k hlt)
      generalize l[k] = y at *
      by_cases hxy : x = y
      · have hne : (x == y) = true := by simp [hxy]
        have hxy' := hide hxy; clear hxy
        go_wp2
        go_ret
        exact ⟨ret_int (by rw [← hs.out, hd.out]; simp [idxFrom, hxy'.out]), hb⟩
      · have hne : (x == y) = false := by simp [hxy]
        have hxy' := hide hxy; clear hxy
        go_wp2
        go_roundw
        case rel => exact ⟨k + 1, by omega, by go_num, by unfold Hid; rw [← hs.out, hd.out]; simp [idxFrom, hxy'.out], hb⟩
        case measure => simp [intOf]; omega
    · go_wp2
      go_ret
      exact ⟨ret_int (by rw [← hs.out, List.drop_eq_nil_of_le (by omega)]; simp [idxFrom]), hb⟩

set_option maxHeartbeats 400000 in
theorem containsI_any (l : List Int) (x : Int) (S : Nat → Prop) (v : Value) (w : World) (h : Ints w S v l) (hl : l.length ≤ 1000000000) :
    Calls Tryz.prog 128 #[v, .int .i64 x] w fun e w' => e = .returned (.bool (l.contains x)) ∧ Below w.heap.size w w' := by
  have hany := hide (idxFrom_any (fun y => decide (x = y)) l 0 (by omega))
  obtain ⟨A, c, rfl, hc, _⟩ := ints_form h
  have H := hide h
  clear h
  generalize hi : idxFrom (fun y => decide (x = y)) l 0 = i at *
  have Hi := hide hi
  clear hi
  have hfin : Hid (decide (0 ≤ i) = l.contains x) := by unfold Hid; rw [hany.out, List.contains_eq_any_beq]; congr
  clear hany
  generalize l.contains x = r at *
  go_enter Tryz.func128, Tryz.ntmps128
  go_wp2_with fail
  refine (indexI_any l x S _ _ H.out hl).mono ?_
  rintro e w1 ⟨rfl, hb1⟩
  rw [Hi.out]
  go_wp2
  all_goals (go_ret; exact ⟨ret_bool (by first | exact hfin.out | (rw [← hfin.out]; simp; omega)), hb1⟩)

set_option maxHeartbeats 400000 in
theorem indexFuncP_any (l : List Pt) (p : Pt → Bool) (g : Nat) (lb : Array Value) (eg : ∀ args w, (callFunc g args).run Tryz.prog w = .ok (.enter g args) w)
    (S : Nat → Prop) (v : Value) (w : World) (h : Pts w S v l) (hp : PredB Tryz.prog g lb (fun x => .agg (encP x).toArray) p w) (hl : l.length ≤ 1000000000) :
    Calls Tryz.prog 145 #[v, .func (.func g) #[] lb] w fun e w' => e = .returned (.int .i64 (idxFrom p l 0)) ∧ Below w.heap.size w w' := by
  obtain ⟨A, c, rfl, hc, hcell⟩ := pts_form h
  have H := hide hcell
  have HP := hide hp
  clear hcell hp h
  go_enter Tryz.func145, Tryz.ntmps145
  go_wp2
  go_loopw [8] (fun i wr => ∃ k : Nat, k ≤ l.length ∧ i = .int .i64 k ∧ Hid (idxFrom p (l.drop k) k = idxFrom p l 0) ∧ Below w.heap.size w wr) (fun i _ => l.length - (intOf i).toNat)
  case atStart => exact ⟨0, Nat.zero_le _, rfl, rfl, by go_grown⟩
  case round =>
    obtain ⟨k, hk, rfl, hs, hb⟩ := hrel
    by_cases hlt : k < l.length
    · obtain ⟨b, off, rfl, hbl, hx0, hx1⟩ := H.out k hlt
      have hx0 := cell_later hb hx0
      have hx1 := cell_later hb hx1
      have hd := hide (drop_cons l k hlt)
      generalize l[k] = x at *
      obtain ⟨x0, x1⟩ := x
      cases hq : p ⟨x0, x1⟩ with
      | true =>
        have hq' := hide hq
        clear hq
        go_wp2_with (go_at_fn g; refine (HP.out _ ⟨x0, x1⟩ hb).mono ?_; rintro e w1 ⟨rfl, hb1⟩; rw [hq'.out])
        go_ret
        exact ⟨ret_int (by rw [← hs.out, hd.out]; simp [idxFrom, hq'.out]), Below.next hb hb1⟩
      | false =>
        have hq' := hide hq
        clear hq
        go_wp2_with (go_at_fn g; refine (HP.out _ ⟨x0, x1⟩ hb).mono ?_; rintro e w1 ⟨rfl, hb1⟩; rw [hq'.out])
        go_roundw
        case rel => exact ⟨k + 1, by omega, by go_num, by unfold Hid; rw [← hs.out, hd.out]; simp [idxFrom, hq'.out], Below.next hb hb1⟩
        case measure => simp [intOf]; omega
    · go_wp2
      go_ret
      exact ⟨ret_int (by rw [← hs.out, List.drop_eq_nil_of_le (by omega)]; simp [idxFrom]), hb⟩

set_option maxHeartbeats 400000 in
theorem containsFuncP_any (l : List Pt) (p : Pt → Bool) (g : Nat) (lb : Array Value) (eg : ∀ args w, (callFunc g args).run Tryz.prog w = .ok (.enter g args) w)
    (S : Nat → Prop) (v : Value) (w : World) (h : Pts w S v l) (hp : PredB Tryz.prog g lb (fun x => .agg (encP x).toArray) p w) (hl : l.length ≤ 1000000000) :
    Calls Tryz.prog 134 #[v, .func (.func g) #[] lb] w fun e w' => e = .returned (.bool (l.any p)) ∧ Below w.heap.size w w' := by
  have hfin := hide (idxFrom_any p l 0 (by omega))
  obtain ⟨A, c, rfl, hc, _⟩ := pts_form h
  have H := hide h
  have HP := hide hp
  clear h hp
  generalize hi : idxFrom p l 0 = i at *
  have Hi := hide hi
  clear hi
  generalize l.any p = r at *
  go_enter Tryz.func134, Tryz.ntmps134
  go_wp2_with fail
  refine (indexFuncP_any l p g lb eg S _ _ H.out HP.out hl).mono ?_
  rintro e w1 ⟨rfl, hb1⟩
  rw [Hi.out]
  go_wp2
  all_goals (go_ret; exact ⟨ret_bool (by first | exact hfin.out | (rw [← hfin.out]; simp; omega)), hb1⟩)

set_option maxHeartbeats 400000 in
theorem bsearchP_any (l : List Pt) (tgt : Pt) (cf : Pt → Int) (m : Nat) (found : Bool) (g : Nat) (lb : Array Value) (eg : ∀ args w, (callFunc g args).run Tryz.prog w = .ok (.enter g args) w)
    (S : Nat → Prop) (v : Value) (w : World) (h : Pts w S v l) (hp : CmpB Tryz.prog g lb (fun x => .agg (encP x).toArray) (.agg (encP tgt).toArray) cf w) (hl : l.length ≤ 1000000000)
    (hm : m ≤ l.length) (hmono : ∀ k (hk : k < l.length), cf l[k] < 0 ↔ k < m) (hfound : found = if h : m < l.length then decide (cf l[m] = 0) else false) :
    Calls Tryz.prog 138 #[v, .agg (encP tgt).toArray, .func (.func g) #[] lb] w fun e w' => e = .returned (.tuple #[.int .i64 m, .bool found]) ∧ Below w.heap.size w w' := by
  obtain ⟨A, c, rfl, hc, hcell⟩ := pts_form h
  have H := hide hcell
  have HP := hide hp
  have HM := hide hmono
  have HF := hide hfound
  clear hcell hp h hmono hfound
  obtain ⟨y0, y1⟩ := tgt
  simp only [encP] at HP ⊢
  go_enter Tryz.func138, Tryz.ntmps138
  go_wp2
  go_loopw [9, 10] (fun vi vj wr => ∃ (i j : Nat), i ≤ m ∧ m ≤ j ∧ j ≤ l.length ∧ vi = .int .i64 i ∧ vj = .int .i64 j ∧ Below w.heap.size w wr ∧ wr.cell? ⟨w.heap.size, 0, none⟩ = some (.int .i64 y0) ∧ wr.cell? ⟨w.heap.size, 1, none⟩ = some (.int .i64 y1)) (fun vi vj _ => (intOf vj - intOf vi).toNat)
  case atStart => exact ⟨0, l.length, Nat.zero_le _, hm, Nat.le_refl _, rfl, rfl, by go_grown, by simp, by simp⟩
  case round =>
    obtain ⟨i, j, hi, hj, hjl, rfl, rfl, hb, hy0, hy1⟩ := hrel
    by_cases hij : i < j
    · obtain ⟨hh, eh⟩ : ∃ hh : Nat, hh = (i + j) / 2 := ⟨_, rfl⟩
      have eh2 : Hid (((i : Int) + (j : Int)) / 2 = (hh : Int)) := by unfold Hid; omega
      have hih : i ≤ hh := by omega
      have hhj : hh < j := by omega
      have hhl : (hh : Int) < (l.length : Int) := by omega
      have hh0 : (0 : Int) ≤ (hh : Int) := by omega
      clear eh
      obtain ⟨b, off, rfl, hbl, hx0, hx1⟩ := H.out hh (by omega)
      have hx0 := cell_later hb hx0
      have hx1 := cell_later hb hx1
      have hmn := hide (HM.out hh (by omega))
      generalize l[hh] = x at *
      obtain ⟨x0, x1⟩ := x
      go_wp2
      rw [eh2.out]
      go_region_held3 (fun w' => w'.cell? ⟨b, off + hh * 2, none⟩ = some (.int .i64 x0) ∧ w'.cell? ⟨b, off + hh * 2 + 1, none⟩ = some (.int .i64 x1) ∧ w'.cell? ⟨w.heap.size, 0, none⟩ = some (.int .i64 y0) ∧ w'.cell? ⟨w.heap.size, 1, none⟩ = some (.int .i64 y1) ∧ Below w.heap.size w w')
        (first | exact ⟨hx0, hx1, hy0, hy1, hb.drew⟩ | exact ⟨cell_later hb1 hx0, cell_later hb1 hx1, cell_later hb1 hy0, cell_later hb1 hy1, Below.next hb.drew hb1⟩)
        (first | (go_at_fn g; refine (HP.out _ ⟨x0, x1⟩ hb.drew).mono ?_; rintro e w1 ⟨rfl, hb1⟩))
      by_cases hc0 : cf ⟨x0, x1⟩ < 0
      · have hcm : hh < m := hmn.out.1 hc0
        go_wp2
        go_roundw
        case rel => exact ⟨hh + 1, j, by omega, hj, hjl, by go_num, rfl, Below.next hb.drew hb1, cell_later hb1 hy0, cell_later hb1 hy1⟩
        case measure => simp [intOf]; omega
      · have hcm : ¬ hh < m := fun hx => hc0 (hmn.out.2 hx)
        go_wp2
        go_roundw
        case rel => exact ⟨i, hh, hi, by omega, by omega, rfl, rfl, Below.next hb.drew hb1, cell_later hb1 hy0, cell_later hb1 hy1⟩
        case measure => simp [intOf]; omega
    · have him : i = m := by omega
      have hjm : j = m := by omega
      subst him
      subst hjm
      have hij : (j : Int) ≤ (j : Int) := by omega
      by_cases hml : j < l.length
      · have hfo := HF.out
        rw [dif_pos hml] at hfo
        obtain ⟨b, off, rfl, hbl, hx0, hx1⟩ := H.out j hml
        have hx0 := cell_later hb hx0
        have hx1 := cell_later hb hx1
        generalize l[j] = x at *
        obtain ⟨x0, x1⟩ := x
        have hfo' := hide hfo
        clear hfo
        have hml' : (j : Int) < (l.length : Int) := by omega
        have hi0 : (0 : Int) ≤ (j : Int) := by omega
        go_wp2
        go_region_held3 (fun w' => w'.cell? ⟨b, off + j * 2, none⟩ = some (.int .i64 x0) ∧ w'.cell? ⟨b, off + j * 2 + 1, none⟩ = some (.int .i64 x1) ∧ w'.cell? ⟨w.heap.size, 0, none⟩ = some (.int .i64 y0) ∧ w'.cell? ⟨w.heap.size, 1, none⟩ = some (.int .i64 y1) ∧ Below w.heap.size w w')
          (first | exact ⟨hx0, hx1, hy0, hy1, hb.drew⟩ | exact ⟨cell_later hb1 hx0, cell_later hb1 hx1, cell_later hb1 hy0, cell_later hb1 hy1, Below.next hb.drew hb1⟩)
          (first | (go_at_fn g; refine (HP.out _ ⟨x0, x1⟩ hb.drew).mono ?_; rintro e w1 ⟨rfl, hb1⟩))
        go_wp2
        go_ret2
        exact ⟨by rw [hfo'.out]; rfl, Below.next hb.drew hb1⟩
      · have hfo := HF.out
        rw [dif_neg hml] at hfo
        have hfo' := hide hfo
        clear hfo
        have hml' : decide ((j : Int) < (l.length : Int)) = false := by simp; omega
        go_wp2
        go_quiet (fail)
        go_wp2
        go_ret2
        exact ⟨by rw [hfo'.out]; rfl, below_drewN hb _⟩

end Go.Proofs.YtcbdhigllelmcaaGreat
namespace Go.Proofs.YtcbdhigllelmcaaGreat
open Go.RowKit

set_option maxRecDepth 100000 in
set_option maxHeartbeats 1600000 in
theorem insertP_any (l : List Pt) (x : Pt) (i : Nat) (base : Nat) (A : Option Addr) (c g : Nat) (w : World) (ho : Own w base 116 2 encP (.slice A l.length c) l)
    (hx : Blk w g 116 (encP x).toArray) (hne : (Value.slice A l.length c).ownBlock ≠ some g) (hi : i ≤ l.length) (hl : l.length ≤ 1000000000) (hbase : base ≤ w.heap.size) :
    Calls Tryz.prog 140 #[.slice A l.length c, .int .i64 i, .slice (some ⟨g, 0, none⟩) 1 1] w (RetIns 116 2 encP base (.slice A l.length c) (l.take i ++ x :: l.drop i) w) := by
  have hlen : (l.take i ++ x :: l.drop i).length = l.length + 1 := by simp; omega
  have hxl : (encP x).length = 2 := rfl
  by_cases hin : i = l.length
  · subst hin
    have hsl : Hid (Sl w (fun _ => True) 2 encP (.slice (some ⟨g, 0, none⟩) 1 1) [x]) := Sl.one_ (Nat.le_refl _) hx.lt trivial (fun j u hu => by rw [hx.cell]; simpa using hu)
    have H := hide ho
    have hll : Hid (l.take l.length ++ x :: l.drop l.length = l ++ [x]) := by simp [Hid]
    have hc : l.length ≤ c := by obtain ⟨_, _, he, h1, _⟩ := ho.val; injection he with _ _ hc; omega
    rw [hll.out]
    clear ho hx hne hlen
    go_enter Tryz.func140, Tryz.ntmps140
    go_wp2_with (at_builtin; refine wpList_append_sl (v := .slice A l.length c) rfl _ _ rfl eok_pts rfl H.out rfl hsl.out (by simp; omega) (by omega) hbase ?_; intro A2 c2 w2 ho2 hg2 _)
    all_goals (go_ret; exact ⟨A2, c2, by simp, ho2, by cases A <;> exact hg2⟩)
  · rcases ho.2 with ⟨hv, h0⟩ | ⟨g', cap, cur, hv, hbg, hh, hnc, hcm, hcs, htake⟩
    · omega
    injection hv with hA _ hcc
    subst hA
    subst hcc
    have hgg : g' ≠ g := fun e => hne (by simp [Value.ownBlock, e])
    have hlt : i < l.length := by omega
    have hF1 : ((l.take i).flatMap encP).length = i * 2 := by rw [flatMap_len (sz := 2) (fun _ => rfl)]; simp; omega
    have hF2 : ((l.drop i).flatMap encP).length = (l.length - i) * 2 := by rw [flatMap_len (sz := 2) (fun _ => rfl)]; simp
    have hF12 : (l.take i).flatMap encP ++ (l.drop i).flatMap encP = l.flatMap encP := by rw [← List.flatMap_append, List.take_append_drop]
    have hres : (l.take i ++ x :: l.drop i).flatMap encP = (l.take i).flatMap encP ++ encP x ++ (l.drop i).flatMap encP := by simp [List.flatMap_append, List.flatMap_cons]
    have h2 := flatMap_one eok_pts.one (l.drop i)
    have hX1 := eok_pts.one x
    have hcur : cur.toList = (l.take i).flatMap encP ++ (l.drop i).flatMap encP ++ cur.toList.drop (l.length * 2) := by rw [hF12, ← htake, List.take_append_drop]
    generalize hf1 : (l.take i).flatMap encP = F1 at *
    generalize hf2 : (l.drop i).flatMap encP = F2 at *
    generalize hX : encP x = X at *
    have hRl : (cur.toList.drop (l.length * 2)).length = c * 2 - l.length * 2 := by simp [hcs]
    generalize cur.toList.drop (l.length * 2) = R at *
    obtain ⟨cur⟩ := cur
    simp only at hcur
    subst hcur
    generalize hn : l.length = n at *
    by_cases hroom : n + 1 ≤ c
    · have hhi : (i : Int) < (n : Int) := by omega
      have hB0 : Blk w g' 116 (F1 ++ F2 ++ R).toArray := hh
      have hov : ∀ lb cb, (callFunc 146 #[.slice (some ⟨g, 0, none⟩) 1 1, .slice (some ⟨g', (i + 1) * 2, none⟩) lb cb]).run Tryz.prog w = .ok (.value (.bool false)) w := fun lb cb => by
        rw [run_callFunc_extern Tryz.func146 (by kernel_rfl) (by kernel_rfl) (by kernel_rfl) (e := Extern.SlicesOverlaps.overlaps #[24, 24] #[4]) (by kernel_rfl),
          Lib.run_overlaps_apart w 24 4 116 Tryz.underlying24 2 (fun _ => by kernel_rfl) ⟨g, 0, none⟩ ⟨g', (i + 1) * 2, none⟩ 1 1 lb cb (fun e => hgg e.symm) 116 116 X.toArray.size (F1 ++ F2 ++ R).toArray.size (hx.shape) (hB0.shape) (by rw [List.size_toArray, List.length_append, List.length_append]; omega) (hx.frozen _) (hx.frozen _)]
        rfl
      have hBH := hide hB0
      have hxH := hide hx
      have hdl : Hid (F2.length = Nat.min (n + 1 - i) (n - i) * 2) := by unfold Hid; rw [show Nat.min (n + 1 - i) (n - i) = n - i from Nat.min_eq_right (by omega)]; exact hF2
      have hsrc : Hid (∀ (W : World), W.heap = w.heap → ∀ j u, F2[j]? = some u → W.cell? ((⟨g', i * 2, none⟩ : Addr).add j) = some u) := fun W hW j u hu => by
        have e : Blk W g' 116 (F1 ++ F2 ++ R).toArray := by unfold Blk; rw [hW]; exact hB0
        rw [Addr.add_lit, e.cell]
        have hj := (List.getElem?_eq_some_iff.1 hu).1
        simp only [List.getElem?_toArray]
        rw [List.append_assoc, List.getElem?_append_right (by omega), List.getElem?_append_left (by omega), show i * 2 + j - F1.length = j by omega]
        exact hu
      have hHx := hide h2
      have HL := hide (And.intro hlen (And.intro hres (And.intro hbg hcs)))
      have hxl := hide hxl
      clear hx hB0 hh htake hne hF12 hcs ho h2 hlen hres
      go_enter Tryz.func140, Tryz.ntmps140
      go_wp2_with fail
      have hw1 : IntKind.i64.wrap ((i : Int) + 1) = (i : Int) + 1 := by rw [IntKind.wrap_i64]; omega
      have hb1 : (0 : Int) ≤ (i : Int) + 1 := by omega
      have hii : i ≤ n := by omega
      have htn : ((i : Int) + 1).toNat = i + 1 := by omega
      have hb2 : ¬ (c = i + 1) := by omega
      have hb3 : (i : Int) ≤ (n : Int) + 1 := by omega
      have hb4 : ¬ (c = i) := by omega
      go_region_law (refine step_copy_blk rfl _ _ 24 24 rfl 116 2 Tryz.underlying24 (by kernel_rfl) g' ((i + 1) * 2) (n - i) (c - (i + 1)) (n + 1 - i) (c - i) ⟨g', i * 2, none⟩ (by simp [Act.eval, Act.put]) (by simp [Act.eval, Act.put]) 116 (F1 ++ F2 ++ R) hBH.out F2 hdl.out (hsrc.out _ rfl) (by simp; omega) hHx.out ?_; intro w1 hB1 hg1)
      clear hw1 hb1 htn hb2
      have hB1' : Hid (Blk w1 g' 116 ((F1 ++ F2 ++ R).take (i * 2 + 2) ++ F2 ++ (F1 ++ F2 ++ R).drop (i * 2 + 2 + F2.length)).toArray) := by
        have e : (i + 1) * 2 = i * 2 + 2 := by omega
        rw [e] at hB1
        exact hB1
      have hX2 : Hid (∀ j u, X[j]? = some u → w1.cell? ((⟨g, 0, none⟩ : Addr).add j) = some u) := fun j u hu => by
        have e : Blk w1 g 116 X.toArray := Blk.grown (w := w.drew) hxH.out hg1 (by simp; omega)
        rw [Addr.add_lit, e.cell]
        simpa using hu
      have hg1' := hide (grownBy_drew_then hg1)
      have hX1' := hide hX1
      clear hB1 hg1 hX1
      go_wp2_with (refine wpList_copy_blk rfl (.tmp 80) (.tmp 81) 24 24 rfl 116 2 Tryz.underlying24 (by kernel_rfl) g' (i * 2) (n + 1 - i) (c - i) 1 1 ⟨g, 0, none⟩ rfl rfl 116 _ hB1'.out X (by rw [show Nat.min 1 (n + 1 - i) = 1 from Nat.min_eq_left (by omega)]; exact hxl.out) hX2.out (by have := hxl.out; have := hRl; simp; omega) hX1'.out ?_; intro w2 hB2 hg2)
      go_ret
      have hfin := HL.out
      refine ⟨some ⟨g', 0, none⟩, c, by show Ending.returned (.slice (some ⟨g', 0, none⟩) (n + 1) c) = _; rw [hfin.1], Own.of_blk hB2 hfin.2.2.1 (by rw [hfin.1]; exact hroom) hcm (by have := hxl.out; have := hRl; simp; omega) ?_ (fun _ => rfl), grownBy_trans hg1'.out hg2⟩
      rw [hfin.1, hfin.2.1, ← insert_in_place F1 F2 R X (i * 2) 2 ((n - i) * 2) hF1 hF2 hxl.out (by omega)]
      congr 1
      omega
    · have hB0 : Blk w g' 116 (F1 ++ F2 ++ R).toArray := hh
      obtain ⟨i0, z, hi0, hz0, hzs, hzb, hzc⟩ := eok_pts.inf
      have hik : i + (n + 1 - i) = n + 1 := by omega
      have hkk : (n : Int) + 1 - (i : Int) = ((n + 1 - i : Nat) : Int) := by omega
      have hgw : g' < w.heap.size := hB0.lt
      have hgx : g < w.heap.size := hx.lt
      have hold : (Builtin.firstCells i0.size i (.slice (some ⟨g', 0, none⟩) i c)).run Tryz.prog w.drew = .ok F1.toArray w.drew := by
        rw [hzs]
        refine run_firstCells_some w.drew 2 i ⟨g', 0, none⟩ i c F1 hF1 (fun j v hj => ?_)
        have hjl := (List.getElem?_eq_some_iff.1 hj).1
        rw [Addr.add_lit]
        refine (hB0.cell _).trans ?_
        simp only [List.getElem?_toArray, Nat.zero_add]
        rw [List.append_assoc, List.getElem?_append_left (by omega)]
        exact hj
      have hrz := fun ty => Lib.run_append_grow_zeros w 24 3 ty 116 i0 z .i64 .i64 eok_pts.und Tryz.underlying3 hi0 hz0 (some ⟨g', 0, none⟩) i c F1 hold (n + 1 - i) (by omega) (by omega) (by omega) (by omega) (by rw [hzb]; omega) (by rw [hzb, hik]; exact growslice_fits (by omega) (by omega))
      rw [hik] at hrz
      obtain ⟨G, hG⟩ : ∃ G, G = grownCap w (n + 1) c 116 := ⟨_, rfl⟩
      rw [← hG] at hrz
      have hGn : n + 1 ≤ G := by rw [hG]; exact grownCap_ge w _ _ _
      have hG63 : G ≤ maxLen := by rw [hG]; exact grownCap_le_maxLen w (n + 1) c 116 (by unfold maxLen; omega)
      obtain ⟨Z, hZ, hZl⟩ : ∃ Z : List Value, F1.toArray ++ Builtin.zeroCells z.cells (n + 1 - i) ++ Builtin.zeroCells z.cells (G - (n + 1)) = (F1 ++ Z).toArray ∧ Z.length = (G - i) * 2 :=
        ⟨(Builtin.zeroCells z.cells (n + 1 - i)).toList ++ (Builtin.zeroCells z.cells (G - (n + 1))).toList, by simp [Array.append_assoc], by simp [size_zeroCells, hzc]; omega⟩
      rw [hZ] at hrz
      obtain ⟨W1, hW1⟩ : ∃ W1, W1 = w.drew.alloc (.cells (F1 ++ Z).toArray 116) := ⟨_, rfl⟩
      have hBN : Hid (Blk W1 w.heap.size 116 (F1 ++ Z).toArray) := by rw [hW1]; exact Blk.new w.drew _ _
      have hxN : Hid (Blk W1 g 116 X.toArray) := by rw [hW1]; exact Blk.alloc (w := w.drew) hx _
      have hB1 : Hid (Blk W1 g' 116 (F1 ++ F2 ++ R).toArray) := by rw [hW1]; exact Blk.alloc (w := w.drew) hB0 _
      have hgW : Hid (∀ b, W1.grownBy b (some w.heap.size) → ∀ row, w.grownBy b row) := fun b hb row => by
        rw [hW1] at hb
        exact grownBy_drew_then (grownBy_alloc_then hb row)
      have hrz' : Hid (∀ ty, (Builtin.append_ #[24, 3] ty #[.slice (some ⟨g', 0, none⟩) i c, .int .i64 ((n : Int) + 1 - (i : Int))]).run Tryz.prog w = .ok (.slice (some ⟨w.heap.size, 0, none⟩) (n + 1) G) W1) := fun ty => by
        rw [hkk, hW1]
        exact hrz ty
      have hX2 : Hid (∀ j u, X[j]? = some u → W1.cell? ((⟨g, 0, none⟩ : Addr).add j) = some u) := fun j u hu => by
        rw [Addr.add_lit, hxN.out.cell]
        simpa using hu
      have HL := hide (And.intro hlen (And.intro hres (And.intro hbg hcs)))
      have hxl := hide hxl
      have hX1' := hide hX1
      have h2' := hide h2
      have hF2' : Hid (F2.length = Nat.min (n - i) (n - i) * 2) := by unfold Hid; rw [show Nat.min (n - i) (n - i) = n - i from Nat.min_self _]; exact hF2
      have hhi : (i : Int) < (n : Int) := by omega
      have hhc : (c : Int) < (n : Int) + 1 := by omega
      have hii : i ≤ n := by omega
      have hci : ¬ (c = i) := by omega
      have hGi : ¬ (G = i) := by omega
      have hGi1 : ¬ (G = i + 1) := by omega
      have hGl : G ≤ 9223372036854775807 := by unfold maxLen at hG63; omega
      clear hx hB0 hh htake hne hF12 hcs ho h2 hlen hres hX1 hrz hold hW1 hZ hG hkk hzs hzb hzc hz0 hi0 hcm
      go_enter Tryz.func140, Tryz.ntmps140
      go_wp2_with (first | (at_builtin; refine Lib.wpList_append_run _ rfl _ _ _ _ rfl _ _ rfl rfl _ _ (hrz'.out _) ?_) | (refine wpList_copy_blk rfl (.tmp 43) (.tmp 44) 24 24 rfl 116 2 Tryz.underlying24 (by kernel_rfl) w.heap.size (i * 2) (n + 1 - i) (G - i) 1 1 ⟨g, 0, none⟩ rfl rfl 116 _ hBN.out X (by rw [show Nat.min 1 (n + 1 - i) = 1 from Nat.min_eq_left (by omega)]; exact hxl.out) hX2.out (by have := hxl.out; simp; omega) hX1'.out ?_; intro w2 hB2 hg2))
      have hgN : g' ≠ w.heap.size := by omega
      have hsrc : Hid (∀ j u, F2[j]? = some u → w2.cell? ((⟨g', i * 2, none⟩ : Addr).add j) = some u) := fun j u hu => by
        have e : Blk w2 g' 116 (F1 ++ F2 ++ R).toArray := hB1.out.grown hg2 (by simp; omega)
        rw [Addr.add_lit, e.cell]
        have hj := (List.getElem?_eq_some_iff.1 hu).1
        simp only [List.getElem?_toArray]
        rw [List.append_assoc, List.getElem?_append_right (by omega), List.getElem?_append_left (by omega), show i * 2 + j - F1.length = j by omega]
        exact hu
      have hg2' := hide hg2
      have hB2' := hide hB2
      have hw1 : IntKind.i64.wrap ((i : Int) + 1) = (i : Int) + 1 := by rw [IntKind.wrap_i64]; omega
      have hb1 : (0 : Int) ≤ (i : Int) + 1 := by omega
      have htn : ((i : Int) + 1).toNat = i + 1 := by omega
      have hb3 : (i : Int) ≤ (n : Int) := by omega
      have hb5 : (i : Int) + 1 ≤ (n : Int) + 1 := by omega
      clear hg2 hB2
      go_region_law (refine step_copy_blk rfl _ _ 24 24 rfl 116 2 Tryz.underlying24 (by kernel_rfl) w.heap.size ((i + 1) * 2) (n - i) (G - (i + 1)) (n - i) (c - i) ⟨g', i * 2, none⟩ (by simp [Act.eval, Act.put]) (by simp [Act.eval, Act.put]) 116 _ hB2'.out F2 hF2'.out hsrc.out (by have := hxl.out; simp; omega) h2'.out ?_; intro w3 hB3 hg3)
      clear hw1 hb1 htn hb3 hb5
      have hB3' : Hid (Blk w3 w.heap.size 116 (((F1 ++ Z).take (i * 2) ++ X ++ (F1 ++ Z).drop (i * 2 + X.length)).take (i * 2 + 2) ++ F2 ++ ((F1 ++ Z).take (i * 2) ++ X ++ (F1 ++ Z).drop (i * 2 + X.length)).drop (i * 2 + 2 + F2.length)).toArray) := by
        have e : (i + 1) * 2 = i * 2 + 2 := by omega
        rw [e] at hB3
        exact hB3
      have hg3' := hide (grownBy_drew_then hg3)
      clear hB3 hg3
      go_wp2
      go_ret
      have hfin := HL.out
      have hx2 := hxl.out
      refine ⟨some ⟨w.heap.size, 0, none⟩, G, by show Ending.returned (.slice (some ⟨w.heap.size, 0, none⟩) (n + 1) G) = _; rw [hfin.1], Own.of_blk hB3'.out hbase (by rw [hfin.1]; exact hGn) hG63 (by simp; omega) ?_ (fun _ => rfl), hgW.out _ (grownBy_trans hg2'.out hg3'.out) _⟩
      rw [hfin.1, hfin.2.1, ← insert_grown F1 F2 Z X (i * 2) 2 ((n - i) * 2) hF1 hF2 hx2 (by omega)]
      congr 1
      omega

end Go.Proofs.YtcbdhigllelmcaaGreat
namespace Go.Proofs.YtcbdhigllelmcaaGreat
open Go.RowKit

def PtOk (p : Pt) : Prop := 0 ≤ p.seq ∧ p.seq ≤ 1099511627777 ∧ 0 ≤ p.time ∧ p.time ≤ 1099511627776
theorem ptValid_iff (p : Pt) : ptValid p = true ↔ PtOk p := by simp [ptValid, PtOk]
def Asc2 (a b : Pt) : Prop := a.seq < b.seq ∧ a.time < b.time

theorem ascLoop_zero (last : Pt) (l : List Pt) : ascLoop last l = 0 ↔ (∀ p ∈ l, PtOk p) ∧ (last :: l).Pairwise Asc2 := by
  induction l generalizing last with
  | nil => simp [ascLoop]
  | cons x r ih =>
    unfold ascLoop
    by_cases hv : ptValid x = true
    · rw [if_neg (by simp [hv])]
      by_cases ho : x.seq ≤ last.seq ∨ x.time ≤ last.time
      · rw [if_pos ho]
        constructor
        · intro h; omega
        · rintro ⟨_, h⟩
          have := (List.pairwise_cons.1 h).1 x (by simp)
          unfold Asc2 at this
          omega
      · rw [if_neg ho, ih]
        have hx := (ptValid_iff x).1 hv
        have hlx : Asc2 last x := by unfold Asc2; omega
        constructor
        · rintro ⟨h1, h2⟩
          refine ⟨fun p hp => ?_, ?_⟩
          · rcases List.mem_cons.1 hp with rfl | hp
            · exact hx
            · exact h1 p hp
          · refine List.pairwise_cons.2 ⟨fun p hp => ?_, h2⟩
            rcases List.mem_cons.1 hp with rfl | hp
            · exact hlx
            · have := (List.pairwise_cons.1 h2).1 p hp
              unfold Asc2 at *
              omega
        · rintro ⟨h1, h2⟩
          exact ⟨fun p hp => h1 p (by simp [hp]), (List.pairwise_cons.1 h2).2⟩
    · rw [if_pos (by simpa using hv)]
      constructor
      · intro h; omega
      · rintro ⟨h, _⟩
        exact absurd ((ptValid_iff x).2 (h x (by simp))) hv

structure TOk (t : Trk) : Prop where
  sq : sqCheck t = 0
  mark : -1 ≤ t.mark ∧ t.mark ≤ 1099511627776
  len : t.points.length ≤ 256
  ok : ∀ p ∈ t.points, PtOk p
  asc : (⟨t.next, t.mark⟩ :: t.points).Pairwise Asc2

theorem puCheck_zero (t : Trk) : puCheck t = 0 ↔ TOk t := by
  unfold puCheck Go.Proofs.YtcbdhigllelmcaaGreat.asc
  constructor
  · intro h
    split at h
    · contradiction
    · rename_i hs
      split at h
      · omega
      · split at h
        · omega
        · obtain ⟨h1, h2⟩ := (ascLoop_zero _ _).1 h
          exact ⟨by simpa using hs, by omega, by omega, h1, h2⟩
  · intro h
    rw [if_neg (by simp [h.sq]), if_neg (by have := h.mark; omega), if_neg (by have := h.len; omega)]
    exact (ascLoop_zero _ _).2 ⟨h.ok, h.asc⟩

theorem below_lt (l : List Pt) (s : Int) (h : l.Pairwise fun a b => a.seq < b.seq) : ∀ k (hk : k < l.length), l[k].seq < s ↔ k < below l s := by
  induction l with
  | nil => intro k hk; simp at hk
  | cons x r ih =>
    intro k hk
    have h' := List.pairwise_cons.1 h
    unfold below
    by_cases hx : x.seq < s
    · rw [List.filter_cons_of_pos (by simpa using hx), List.length_cons]
      cases k with
      | zero => simp [hx]
      | succ k => simpa [below] using ih h'.2 k (by simpa using hk)
    · rw [List.filter_cons_of_neg (by simpa using hx)]
      have hall : r.filter (fun p => decide (p.seq < s)) = [] := by
        rw [List.filter_eq_nil_iff]
        intro p hp
        have := h'.1 p hp
        simp; omega
      rw [hall]
      cases k with
      | zero => simp [hx]
      | succ k =>
        have hk' : k < r.length := by simpa using hk
        have := h'.1 r[k] (List.getElem_mem hk')
        simp; omega
theorem below_le (l : List Pt) (s : Int) : below l s ≤ l.length := List.length_filter_le _ _

theorem add_mono (t : Trk) (p : Pt) (q : Pt → Bool) (h : puCheck t = 0) (hp : ptValid p = true) : ∀ k (hk : k < (t.points.filter q).length), wrap64 ((t.points.filter q)[k].seq - p.seq) < 0 ↔ k < below (t.points.filter q) p.seq := by
  intro k hk
  have ht := (puCheck_zero t).1 h
  have hps := (ptValid_iff p).1 hp
  have hpw : (t.points.filter q).Pairwise fun a b => a.seq < b.seq := ((List.pairwise_cons.1 ht.asc).2.imp fun h => h.1).filter q
  have hmem := List.getElem_mem hk
  have hok := ht.ok _ (List.mem_filter.1 hmem).1
  rw [← below_lt _ _ hpw k hk]
  unfold PtOk at *
  have hw : wrap64 ((t.points.filter q)[k].seq - p.seq) = (t.points.filter q)[k].seq - p.seq := IntWalk.wrap64_in _ (by omega)
  rw [hw]
  omega

end Go.Proofs.YtcbdhigllelmcaaGreat
namespace Go.Proofs.YtcbdhigllelmcaaGreat
open Go.RowKit

theorem blk_new_at (w : World) (t : TypeId) (cs : Array Value) {n : Nat} (h : n = w.heap.size) : Blk (w.alloc (.cells cs t)) n t cs := by subst h; exact Blk.new w t cs

set_option maxHeartbeats 3200000 in
theorem add_any (t : Trk) (p : Pt) (S : Nat → Prop) (v : Value) (w : World) (h : TrkV w S v t) (hl1 : t.beyond.length ≤ 1000000) (hl2 : t.points.length ≤ 1000000) :
    Calls Tryz.prog 126 #[v, .agg #[.int .i64 p.seq, .int .i64 p.time]] w (RetTE (addT t p) w) := by
  obtain ⟨vb, vp, rfl, hB, hP⟩ := h
  obtain ⟨A, c, rfl, hc, hcell⟩ := pts_form hP
  obtain ⟨Ab, cb, rfl, _, _⟩ := ints_form hB
  have HB := hide hB
  have HP := hide hP
  clear hcell hB hP
  obtain ⟨next, lb, l, mark⟩ := t
  obtain ⟨p0, p1⟩ := p
  dsimp only at *
  have hgoal : Hid (addT ⟨next, lb, l, mark⟩ ⟨p0, p1⟩ =
    if puCheck ⟨next, lb, l, mark⟩ ≠ 0 then (zeroT, puCheck ⟨next, lb, l, mark⟩) else if ptValid ⟨p0, p1⟩ = false then (zeroT, 2) else
    if p1 ≤ mark ∨ (l.any fun x => implies x ⟨p0, p1⟩) = true then (⟨next, lb, l, mark⟩, 0) else
    if p0 ≤ next then (⟨next, lb, l.filter fun x => !implies ⟨p0, p1⟩ x, p1⟩, 0) else
    if 256 < ((l.filter fun x => !implies ⟨p0, p1⟩ x).length + 1) then (zeroT, 5) else
    (⟨next, lb, (l.filter fun x => !implies ⟨p0, p1⟩ x).take (below (l.filter fun x => !implies ⟨p0, p1⟩ x) p0) ++ ⟨p0, p1⟩ :: (l.filter fun x => !implies ⟨p0, p1⟩ x).drop (below (l.filter fun x => !implies ⟨p0, p1⟩ x) p0), mark⟩, 0)) := rfl
  have hmono := hide (add_mono ⟨next, lb, l, mark⟩ ⟨p0, p1⟩ (fun x => !implies ⟨p0, p1⟩ x))
  have hfl : Hid ((l.filter fun x => !implies ⟨p0, p1⟩ x).length ≤ 1000000) := Nat.le_trans (List.length_filter_le _ _) hl2
  dsimp only at hmono
  generalize hq : puCheck ⟨next, lb, l, mark⟩ = q at *
  generalize hv : ptValid ⟨p0, p1⟩ = pv at *
  generalize han : (l.any fun x => implies x ⟨p0, p1⟩) = an at *
  generalize hf : (l.filter fun x => !implies ⟨p0, p1⟩ x) = fl at *
  generalize addT ⟨next, lb, l, mark⟩ ⟨p0, p1⟩ = res at *
  have Hq := hide hq
  have Hv := hide hv
  have Han := hide han
  have Hf := hide hf
  clear hq hv han hf
  have eg1 := Go.Proofs.enters_of (P := Tryz.prog) Tryz.func135 (by kernel_rfl) rfl
  have eg2 := Go.Proofs.enters_of (P := Tryz.prog) Tryz.func137 (by kernel_rfl) rfl
  have eg3 := Go.Proofs.enters_of (P := Tryz.prog) Tryz.func139 (by kernel_rfl) rfl
  go_enter Tryz.func126, Tryz.ntmps126
  go_wp2_with fail
  refine (puCheck_any ⟨next, lb, l, mark⟩ S _ _ ⟨_, _, rfl, HB.out.below (by go_grown), HP.out.below (by go_grown)⟩).mono ?_
  rintro e w1 ⟨rfl, hb1⟩
  rw [Hq.out]
  have hw1 : Hid (Below w.heap.size w w1) := Below.next (by go_grown) hb1
  have hT1 : Hid (Blk w1 w.heap.size 26 #[.int .i64 next, .slice Ab lb.length cb, .slice A l.length c, .int .i64 mark]) := Blk.below (Blk.alloc (Blk.alloc (Blk.new w _ _) _) _) hb1
  have hP1 : Hid (Blk w1 (w.heap.size + 1) 116 #[.int .i64 p0, .int .i64 p1]) := Blk.below (Blk.alloc (blk_new_at (w.alloc _) _ _ (by simp)) _) hb1
  have hR1 : Hid (Blk w1 (w.heap.size + 2) 26 #[.int .i64 0, .slice none 0 0, .slice none 0 0, .int .i64 0]) := Blk.below (blk_new_at ((w.alloc _).alloc _) _ _ (by simp)) hb1
  clear hb1
  by_cases hq0 : q = 0
  · have hne : (q != 0) = false := by simp [hq0]
    have hg1 := hide (hgoal.out.trans (if_neg (by simp [hq0])))
    have hq0' := hide hq0
    clear hgoal hq0
    have q0 := hP1.out.cell_some 0 rfl
    have q1 := hP1.out.cell_some 1 rfl
    go_wp2_with fail
    refine (valid_any p0 p1 _).mono ?_
    rintro e w2 ⟨rfl, hb2⟩
    rw [Hv.out]
    have hw2 := hide (Below.next hw1.out hb2)
    have hT2 := hide (hT1.out.below hb2)
    have hP2 := hide (hP1.out.below hb2)
    have hR2 := hide (hR1.out.below hb2)
    clear q0 q1 hb2 hw1 hT1 hP1 hR1
    cases pv with
    | false =>
      have hr := hide (hg1.out.trans (if_pos rfl))
      clear hg1
      have r0 := hR2.out.cell_some 0 rfl
      have r1 := hR2.out.cell_some 1 rfl
      have r2 := hR2.out.cell_some 2 rfl
      have r3 := hR2.out.cell_some 3 rfl
      have f0 := hR2.out.frozen 0
      have f1 := hR2.out.frozen 1
      have f2 := hR2.out.frozen 2
      have f3 := hR2.out.frozen 3
      go_wp2
      refine bodyPost_ret (v := .tuple #[.agg #[.int .i64 0, .slice none 0 0, .slice none 0 0, .int .i64 0], .int .i64 2]) (by simp [results, Tryz.results126, go_sem, r0, r1, r2, r3]) rfl ?_
      rw [hr.out]
      refine ⟨none, 0, none, 0, rfl, Own.nil_, Own.nil_, ?_⟩
      iterate 4 (refine Below.setCell ?_ (by dsimp only; omega) _)
      exact hw2.out
    | true =>
      have hg2 := hide (hg1.out.trans (if_neg (by simp)))
      clear hg1
      have t0 := hT2.out.cell_some 0 rfl
      have t1 := hT2.out.cell_some 1 rfl
      have t2 := hT2.out.cell_some 2 rfl
      have t3 := hT2.out.cell_some 3 rfl
      go_wp2_with fail
      refine (own_any ⟨next, lb, l, mark⟩ S _ _ ⟨_, _, rfl, HB.out.below hw2.out, HP.out.below hw2.out⟩ (by dsimp only; omega) (by dsimp only; omega)).mono ?_
      rintro e w3 ⟨A1, c1, A2, c2, rfl, ho1, ho2, hb3⟩
      have hw3 := hide (Below.next hw2.out hb3)
      have hT3 := hide (hT2.out.below hb3)
      have hP3 := hide (hP2.out.below hb3)
      have hR3 := hide (hR2.out.below hb3)
      have Ho1 : Hid (Own w3 (w.heap.size + 3) 3 1 encI (.slice A1 lb.length c1) lb) := ho1.le hR2.out.lt
      have Ho2 : Hid (Own w3 (w.heap.size + 3) 116 2 encP (.slice A2 l.length c2) l) := ho2.le hR2.out.lt
      clear t0 t1 t2 t3 hw2 hT2 hP2 hR2 ho1 ho2 hb3
      dsimp only
      have hO4 := hide (Blk.new w3 26 #[.int .i64 next, .slice A1 lb.length c1, .slice A2 l.length c2, .int .i64 mark])
      have hT4 := hide (hT3.out.alloc (.cells #[.int .i64 next, .slice A1 lb.length c1, .slice A2 l.length c2, .int .i64 mark] 26))
      have hP4 := hide (hP3.out.alloc (.cells #[.int .i64 next, .slice A1 lb.length c1, .slice A2 l.length c2, .int .i64 mark] 26))
      have hR4 := hide (hR3.out.alloc (.cells #[.int .i64 next, .slice A1 lb.length c1, .slice A2 l.length c2, .int .i64 mark] 26))
      have hw4 := hide (hw3.out.alloc hw3.out.size (.cells #[.int .i64 next, .slice A1 lb.length c1, .slice A2 l.length c2, .int .i64 mark] 26))
      have Ho1' := hide (Ho1.out.below ((Below.refl _ _).alloc (Nat.le_refl _) (.cells #[.int .i64 next, .slice A1 lb.length c1, .slice A2 l.length c2, .int .i64 mark] 26)))
      have Ho2' := hide (Ho2.out.below ((Below.refl _ _).alloc (Nat.le_refl _) (.cells #[.int .i64 next, .slice A1 lb.length c1, .slice A2 l.length c2, .int .i64 mark] 26)))
      have hnb1 := hide (fun e => by have := (Ho1.out.lt _ e).2; omega : (Value.slice A1 lb.length c1).ownBlock ≠ some w3.heap.size)
      have hlt1 := hide (fun k hk => (Ho1.out.lt k hk).2 : ∀ k, (Value.slice A1 lb.length c1).ownBlock = some k → k < w3.heap.size)
      have hnb2 := hide (fun e => by have := (Ho2.out.lt _ e).2; omega : (Value.slice A2 l.length c2).ownBlock ≠ some w3.heap.size)
      have l0 := hT3.out.lt
      have l1 := hP3.out.lt
      have l2 := hR3.out.lt
      clear hw3 hT3 hP3 hR3 Ho1 Ho2
      go_upto_region 7 with (fail)
      generalize w3.alloc (.cells #[.int .i64 next, .slice A1 lb.length c1, .slice A2 l.length c2, .int .i64 mark] 26) = w4 at *
      have t0 := hT4.out.cell_some 0 rfl
      have t2 := hT4.out.cell_some 2 rfl
      have t3 := hT4.out.cell_some 3 rfl
      have q0 := hP4.out.cell_some 0 rfl
      have q1 := hP4.out.cell_some 1 rfl
      have oo0 := hO4.out.cell_some 0 rfl
      have oo1 := hO4.out.cell_some 1 rfl
      have oo2 := hO4.out.cell_some 2 rfl
      have oo3 := hO4.out.cell_some 3 rfl
      have n0 : ¬ (w3.heap.size = w.heap.size) := by omega
      have n0' : ¬ (w.heap.size = w3.heap.size) := by omega
      have n1 : ¬ (w3.heap.size = w.heap.size + 1) := by omega
      have n1' : ¬ (w.heap.size + 1 = w3.heap.size) := by omega
      have n2 : ¬ (w3.heap.size = w.heap.size + 2) := by omega
      have n2' : ¬ (w.heap.size + 2 = w3.heap.size) := by omega
      by_cases hm : p1 ≤ mark
      · have hr := hide (hg2.out.trans (if_pos (Or.inl hm)))
        clear hg2
        have r0 := hR4.out.cell_some 0 rfl
        have f0 := hR4.out.frozen 0
        have r1 := hR4.out.cell_some 1 rfl
        have f1 := hR4.out.frozen 1
        have r2 := hR4.out.cell_some 2 rfl
        have f2 := hR4.out.frozen 2
        have r3 := hR4.out.cell_some 3 rfl
        have f3 := hR4.out.frozen 3
        go_wp2
        refine bodyPost_ret (v := .tuple #[.agg #[.int .i64 next, .slice A1 lb.length c1, .slice A2 l.length c2, .int .i64 mark], .int .i64 0]) (by simp [results, Tryz.results126, go_sem, r0, r1, r2, r3, n2, n2']) rfl ?_
        rw [hr.out]
        refine ⟨A1, c1, A2, c2, rfl, ?_, ?_, ?_⟩
        · refine Own.le (base := w.heap.size + 3) ?_ (by omega)
          iterate 4 (refine Own.setCell_lt ?_ (by dsimp only; omega) _)
          exact Ho1'.out
        · refine Own.le (base := w.heap.size + 3) ?_ (by omega)
          iterate 4 (refine Own.setCell_lt ?_ (by dsimp only; omega) _)
          exact Ho2'.out
        · iterate 4 (refine Below.setCell ?_ (by dsimp only; omega) _)
          exact hw4.out
      · have hm' : mark < p1 := by omega
        have hg3 := hide hg2.out
        clear hg2
        go_wp2_with fail
        refine (containsFuncP_any l (fun x => implies x ⟨p0, p1⟩) 135 _ eg1 S _ _ (HP.out.below hw4.out) (add1_pred ⟨p0, p1⟩ (w.heap.size + 1) _ q0 q1) (by omega)).mono ?_
        rintro e w5 ⟨rfl, hb5⟩
        rw [Han.out]
        have hT5 := hide (hT4.out.below hb5)
        have hP5 := hide (hP4.out.below hb5)
        have hR5 := hide (hR4.out.below hb5)
        have hO5 := hide (hO4.out.below hb5)
        have hw5 := hide (Below.next hw4.out hb5)
        have Ho15 := hide (Ho1'.out.below hb5)
        have Ho25 := hide (Ho2'.out.below hb5)
        clear t0 t2 t3 q0 q1 oo0 oo1 oo2 oo3 hT4 hP4 hR4 hO4 hw4 Ho1' Ho2' hb5
        cases an with
        | true =>
          have hr := hide (hg3.out.trans (if_pos (Or.inr rfl)))
          clear hg3
          have o0 := hO5.out.cell_some 0 rfl
          have o1 := hO5.out.cell_some 1 rfl
          have o2 := hO5.out.cell_some 2 rfl
          have o3 := hO5.out.cell_some 3 rfl
          have r0 := hR5.out.cell_some 0 rfl
          have f0 := hR5.out.frozen 0
          have r1 := hR5.out.cell_some 1 rfl
          have f1 := hR5.out.frozen 1
          have r2 := hR5.out.cell_some 2 rfl
          have f2 := hR5.out.frozen 2
          have r3 := hR5.out.cell_some 3 rfl
          have f3 := hR5.out.frozen 3
          go_wp2
          refine bodyPost_ret (v := .tuple #[.agg #[.int .i64 next, .slice A1 lb.length c1, .slice A2 l.length c2, .int .i64 mark], .int .i64 0]) (by simp [results, Tryz.results126, go_sem, r0, r1, r2, r3, n2, n2']) rfl ?_
          rw [hr.out]
          refine ⟨A1, c1, A2, c2, rfl, ?_, ?_, ?_⟩
          · refine Own.le (base := w.heap.size + 3) ?_ (by omega)
            iterate 4 (refine Own.setCell_lt ?_ (by dsimp only; omega) _)
            exact Ho15.out
          · refine Own.le (base := w.heap.size + 3) ?_ (by omega)
            iterate 4 (refine Own.setCell_lt ?_ (by dsimp only; omega) _)
            exact Ho25.out
          · iterate 4 (refine Below.setCell ?_ (by dsimp only; omega) _)
            exact hw5.out
        | false =>
          have hg4 := hide (hg3.out.trans (if_neg (by simp; omega)))
          clear hg3
          have t2 := hT5.out.cell_some 2 rfl
          go_wp2_with fail
          refine (filteredP_any l (fun x => !implies ⟨p0, p1⟩ x) 137 _ eg2 S _ _ (HP.out.below hw5.out) (add2_pred ⟨p0, p1⟩ (w.heap.size + 1) _ (hP5.out.cell_some 0 rfl) (hP5.out.cell_some 1 rfl)) (by omega)).mono ?_
          rintro e w6 ⟨A3, c3, rfl, ho3, hb6⟩
          rw [Hf.out] at ho3 ⊢
          have hT6 := hide (hT5.out.below hb6)
          have hP6 := hide (hP5.out.below hb6)
          have hR6 := hide (hR5.out.below hb6)
          have hO6 := hide (hO5.out.below hb6)
          have hw6 := hide (Below.next hw5.out hb6)
          have Ho16 := hide (Ho15.out.below hb6)
          have Ho36 : Hid (Own w6 (w3.heap.size + 1) 116 2 encP (.slice A3 fl.length c3) fl) := ho3.le hO5.out.lt
          clear t2 hT5 hP5 hR5 hO5 hw5 Ho15 Ho25 hb6 ho3
          have hle3 : w.heap.size ≤ w3.heap.size := by omega
          by_cases hp : p0 ≤ next
          · have hr := hide (hg4.out.trans (if_pos hp))
            clear hg4
            have t0 := hT6.out.cell_some 0 rfl
            have q0 := hP6.out.cell_some 0 rfl
            have q1 := hP6.out.cell_some 1 rfl
            have o0 := hO6.out.cell_some 0 rfl
            have o1 := hO6.out.cell_some 1 rfl
            have o2 := hO6.out.cell_some 2 rfl
            have o3 := hO6.out.cell_some 3 rfl
            have g2 := hO6.out.frozen 2
            have g3 := hO6.out.frozen 3
            have r0 := hR6.out.cell_some 0 rfl
            have f0 := hR6.out.frozen 0
            have r1 := hR6.out.cell_some 1 rfl
            have f1 := hR6.out.frozen 1
            have r2 := hR6.out.cell_some 2 rfl
            have f2 := hR6.out.frozen 2
            have r3 := hR6.out.cell_some 3 rfl
            have f3 := hR6.out.frozen 3
            go_wp2
            refine bodyPost_ret (v := .tuple #[.agg #[.int .i64 next, .slice A1 lb.length c1, .slice A3 fl.length c3, .int .i64 p1], .int .i64 0]) (by simp [results, Tryz.results126, go_sem, r0, r1, r2, r3, n2, n2']) rfl ?_
            rw [hr.out]
            refine ⟨A1, c1, A3, c3, rfl, ?_, ?_, ?_⟩
            · refine Own.le (base := w.heap.size + 3) ?_ (by omega)
              iterate 4 (refine Own.setCell_lt ?_ (by dsimp only; omega) _)
              exact Own.setCell_ne (Own.setCell_ne Ho16.out hnb1.out _) hnb1.out _
            · refine Own.le (base := w3.heap.size + 1) ?_ (by omega)
              iterate 6 (refine Own.setCell_lt ?_ (by dsimp only; omega) _)
              exact Ho36.out
            · iterate 6 (refine Below.setCell ?_ (by dsimp only; omega) _)
              exact hw6.out
          · have hp' : next < p0 := by omega
            have hg5 := hide (hg4.out.trans (if_neg hp))
            clear hg4 hp
            have t0 := hT6.out.cell_some 0 rfl
            have q0 := hP6.out.cell_some 0 rfl
            have o2 := hO6.out.cell_some 2 rfl
            have g2 := hO6.out.frozen 2
            go_upto_region 13 with (fail)
            clear t0 q0 o2 g2
            have n3 : w3.heap.size ≠ w.heap.size + 1 := by omega
            have n4 : w3.heap.size ≠ w.heap.size + 2 := by omega
            have hO7 := hide (hO6.out.set 2 (.slice A3 fl.length c3))
            have hP7 := hide (hP6.out.far (p := ⟨w3.heap.size, 2, none⟩) (fun e => n3 e.symm) (.slice A3 fl.length c3))
            have hR7 := hide (hR6.out.far (p := ⟨w3.heap.size, 2, none⟩) (fun e => n4 e.symm) (.slice A3 fl.length c3))
            have hw7 := hide (hw6.out.setCell (p := ⟨w3.heap.size, 2, none⟩) hle3 (.slice A3 fl.length c3))
            have Ho17 := hide (Own.setCell_ne (p := ⟨w3.heap.size, 2, none⟩) Ho16.out hnb1.out (.slice A3 fl.length c3))
            have Ho37 := hide (Own.setCell_lt (p := ⟨w3.heap.size, 2, none⟩) Ho36.out (Nat.lt_succ_self _) (.slice A3 fl.length c3))
            clear hO6 hP6 hR6 hT6 hw6 Ho16 Ho36 n3 n4
            generalize w6.setCell ⟨w3.heap.size, 2, none⟩ (.slice A3 fl.length c3) = w7 at *
            have q0 := hP7.out.cell_some 0 rfl
            have q1 := hP7.out.cell_some 1 rfl
            have o2 := hO7.out.cell_some 2 rfl
            have hmo := hide (hmono.out hq0'.out trivial)
            clear hmono
            obtain ⟨found, hfound⟩ : ∃ found : Bool, found = if h : below fl p0 < fl.length then decide (wrap64 (fl[below fl p0].seq - p0) = 0) else false := ⟨_, rfl⟩
            have hfH := hide hfound
            clear hfound
            have hml := below_le fl p0
            generalize hmm : below fl p0 = m at *
            have Hmm := hide hmm
            clear hmm
            have hf1 := hfl.out
            go_wp2_with fail
            refine (bsearchP_any fl ⟨p0, p1⟩ (fun x => wrap64 (x.seq - p0)) m found 139 #[] eg3 (fun _ => True) _ _ (Ho37.out.sl eok_pts (fun _ _ => trivial)) (add3_cmp ⟨p0, p1⟩ _) (by omega) hml hmo.out hfH.out).mono ?_
            rintro e w8 ⟨rfl, hb8⟩
            have hO8 := hide (hO7.out.below hb8)
            have hP8 := hide (hP7.out.below hb8)
            have hR8 := hide (hR7.out.below hb8)
            have hw8 := hide (Below.next hw7.out hb8)
            have Ho18 := hide (Ho17.out.below hb8)
            have Ho38 := hide (Ho37.out.below hb8)
            clear q0 q1 o2 hO7 hP7 hR7 hw7 Ho17 Ho37 hb8 hfH hmo
            have q0 := hP8.out.cell_some 0 rfl
            have q1 := hP8.out.cell_some 1 rfl
            have o2 := hO8.out.cell_some 2 rfl
            go_wp2_with fail
            have Ho3a := hide (Ho38.out.below ((Below.refl _ _).alloc (Nat.le_refl _) (.cells #[.int .i64 p0, .int .i64 p1] 116)))
            have hnb3 := hide (fun e => by have := (Ho38.out.lt _ e).2; omega : (Value.slice A3 fl.length c3).ownBlock ≠ some w8.heap.size)
            have hlO8 := hO8.out.lt
            refine (insertP_any fl ⟨p0, p1⟩ m (w3.heap.size + 1) A3 c3 w8.heap.size _ Ho3a.out (Blk.new w8 _ _) hnb3.out hml (by omega) (by simp; omega)).mono ?_
            rintro e w9 ⟨A4, c4, rfl, ho4, hg4⟩
            have hlen4 : (fl.take m ++ ⟨p0, p1⟩ :: fl.drop m).length = fl.length + 1 := by simp; omega
            have hlenH := hide hlen4
            clear hlen4
            generalize (fl.take m ++ ⟨p0, p1⟩ :: fl.drop m) = L4 at *
            have hnbO := hide (fun e => by have := (Ho38.out.lt _ e.symm).1; omega : some w3.heap.size ≠ (Value.slice A3 fl.length c3).ownBlock)
            have hnbR := hide (fun e => by have := (Ho38.out.lt _ e.symm).1; omega : some (w.heap.size + 2) ≠ (Value.slice A3 fl.length c3).ownBlock)
            have hO9 := hide ((hO8.out.alloc (.cells #[.int .i64 p0, .int .i64 p1] 116)).grown hg4 hnbO.out)
            have hR9 := hide ((hR8.out.alloc (.cells #[.int .i64 p0, .int .i64 p1] 116)).grown hg4 hnbR.out)
            have Ho19 := hide (Own.kept (Ho18.out.below ((Below.refl _ _).alloc (Nat.le_refl _) (.cells #[.int .i64 p0, .int .i64 p1] 116))) hg4 (by
              cases h : (Value.slice A1 lb.length c1).ownBlock with
              | none => exact Or.inl rfl
              | some k =>
                right
                intro e
                have h1 := hlt1.out k h
                have h2 := (Ho38.out.lt k e.symm).1
                omega))
            have hw9 := hide (Ho3a.out.grown (hw8.out.alloc hw8.out.size _) (by omega) (by have := hw8.out.size; simp; omega) hg4)
            have Ho49 := hide ho4
            clear q0 q1 o2 ho4 hg4 hnbO hnbR hO8 hP8 hR8 hw8 Ho18 Ho38 Ho3a hnb3
            have o2 := hO9.out.cell_some 2 rfl
            have g2 := hO9.out.frozen 2
            go_upto_region 15 with (fail)
            clear o2 g2
            have hO10 := hide (hO9.out.set 2 (.slice A4 L4.length c4))
            have hR10 := hide (hR9.out.far (p := ⟨w3.heap.size, 2, none⟩) (by dsimp only; omega) (.slice A4 L4.length c4))
            have hw10 := hide (hw9.out.setCell (p := ⟨w3.heap.size, 2, none⟩) hle3 (.slice A4 L4.length c4))
            have Ho110 := hide (Own.setCell_ne (p := ⟨w3.heap.size, 2, none⟩) Ho19.out hnb1.out (.slice A4 L4.length c4))
            have Ho410 := hide (Own.setCell_lt (p := ⟨w3.heap.size, 2, none⟩) Ho49.out (Nat.lt_succ_self _) (.slice A4 L4.length c4))
            clear hO9 hR9 hw9 Ho19 Ho49
            generalize w9.setCell ⟨w3.heap.size, 2, none⟩ (.slice A4 L4.length c4) = w10 at *
            have o0 := hO10.out.cell_some 0 rfl
            have o1 := hO10.out.cell_some 1 rfl
            have o2 := hO10.out.cell_some 2 rfl
            have o3 := hO10.out.cell_some 3 rfl
            have r0 := hR10.out.cell_some 0 rfl
            have f0 := hR10.out.frozen 0
            have r1 := hR10.out.cell_some 1 rfl
            have f1 := hR10.out.frozen 1
            have r2 := hR10.out.cell_some 2 rfl
            have f2 := hR10.out.frozen 2
            have r3 := hR10.out.cell_some 3 rfl
            have f3 := hR10.out.frozen 3
            by_cases hbig : 256 < fl.length + 1
            · have hr := hide (hg5.out.trans (if_pos hbig))
              have hb' : (256 : Int) < (L4.length : Int) := by rw [hlenH.out]; omega
              clear hg5
              go_wp2
              refine bodyPost_ret (v := .tuple #[.agg #[.int .i64 0, .slice none 0 0, .slice none 0 0, .int .i64 0], .int .i64 5]) (by simp [results, Tryz.results126, go_sem, r0, r1, r2, r3, n2, n2']) rfl ?_
              rw [hr.out]
              refine ⟨none, 0, none, 0, rfl, Own.nil_, Own.nil_, ?_⟩
              iterate 4 (refine Below.setCell ?_ (by dsimp only; omega) _)
              exact hw10.out
            · have hr := hide (hg5.out.trans (if_neg hbig))
              have hb' : (L4.length : Int) ≤ (256 : Int) := by rw [hlenH.out]; omega
              clear hg5
              go_wp2
              refine bodyPost_ret (v := .tuple #[.agg #[.int .i64 next, .slice A1 lb.length c1, .slice A4 L4.length c4, .int .i64 mark], .int .i64 0]) (by simp [results, Tryz.results126, go_sem, r0, r1, r2, r3, n2, n2']) rfl ?_
              rw [hr.out]
              refine ⟨A1, c1, A4, c4, rfl, ?_, ?_, ?_⟩
              · refine Own.le (base := w.heap.size + 3) ?_ (by omega)
                iterate 4 (refine Own.setCell_lt ?_ (by dsimp only; omega) _)
                exact Ho110.out
              · refine Own.le (base := w3.heap.size + 1) ?_ (by omega)
                iterate 4 (refine Own.setCell_lt ?_ (by dsimp only; omega) _)
                exact Ho410.out
              · iterate 4 (refine Below.setCell ?_ (by dsimp only; omega) _)
                exact hw10.out
  · have hne : (q != 0) = true := by simp [hq0]
    have hr := hide (hgoal.out.trans (if_pos hq0))
    clear hgoal hq0
    have r0 := hR1.out.cell_some 0 rfl
    have r1 := hR1.out.cell_some 1 rfl
    have r2 := hR1.out.cell_some 2 rfl
    have r3 := hR1.out.cell_some 3 rfl
    have f0 := hR1.out.frozen 0
    have f1 := hR1.out.frozen 1
    have f2 := hR1.out.frozen 2
    have f3 := hR1.out.frozen 3
    go_wp2
    refine bodyPost_ret (v := .tuple #[.agg #[.int .i64 0, .slice none 0 0, .slice none 0 0, .int .i64 0], .int .i64 q]) (by simp [results, Tryz.results126, go_sem, r0, r1, r2, r3]) rfl ?_
    rw [hr.out]
    refine ⟨none, 0, none, 0, rfl, Own.nil_, Own.nil_, ?_⟩
    iterate 4 (refine Below.setCell ?_ (by dsimp only; omega) _)
    exact hw1.out

end Go.Proofs.YtcbdhigllelmcaaGreat
namespace Go.Proofs.YtcbdhigllelmcaaGreat
open Go.RowKit

set_option maxHeartbeats 800000 in
theorem loose_any (t : Trk) (a : Pt) (S : Nat → Prop) (v : Value) (w : World) (h : TrkV w S v t) :
    Calls Tryz.prog 76 #[v, .agg #[.int .i64 a.seq, .int .i64 a.time]] w fun e w' => e = .returned (.int .i64 (asc t a)) ∧ Below w.heap.size w w' := by
  obtain ⟨vb, vp, rfl, hB, hP⟩ := h
  obtain ⟨A, c, rfl, hc, hcell⟩ := pts_form hP
  obtain ⟨Ab, cb, rfl, _, _⟩ := ints_form hB
  have H := hide hcell
  have HB := hide hB
  have HP := hide hP
  clear hcell hB hP
  obtain ⟨next, lb, l, mark⟩ := t
  obtain ⟨a0, a1⟩ := a
  dsimp only at *
  have hgoal : Hid (asc ⟨next, lb, l, mark⟩ ⟨a0, a1⟩ = if sqCheck ⟨next, lb, l, mark⟩ ≠ 0 then sqCheck ⟨next, lb, l, mark⟩ else if mark < -1 ∨ 1099511627776 < mark then 2 else if 256 < l.length then 5 else ascLoop ⟨a0, a1⟩ l) := rfl
  generalize hq : sqCheck ⟨next, lb, l, mark⟩ = q at *
  have Hq := hide hq
  clear hq
  by_cases hq0 : q = 0
  · have hne : (q != 0) = false := by simp [hq0]
    have hq0' := hide hq0
    clear hq0
    go_enter Tryz.func76, Tryz.ntmps76
    go_wp2_with fail
    refine (rsqCheck_any ⟨next, lb, l, mark⟩ S _ _ ⟨_, _, rfl, HB.out.below (by go_grown), HP.out.below (by go_grown)⟩).mono ?_
    rintro e w1 ⟨rfl, hb1⟩
    rw [Hq.out]
    have hw1 : Below w.heap.size w w1 := Below.next (by go_grown) hb1
    have ht2 := cell_later (a := ⟨w.heap.size, 2, none⟩) (v := .slice A l.length c) hb1 (by simp)
    have ht3 := cell_later (a := ⟨w.heap.size, 3, none⟩) (v := .int .i64 mark) hb1 (by simp)
    have hl0 := cell_later (a := ⟨w.heap.size + 1, 0, none⟩) (v := .int .i64 a0) hb1 (by simp)
    have hl1 := cell_later (a := ⟨w.heap.size + 1, 1, none⟩) (v := .int .i64 a1) hb1 (by simp)
    have hz1 : w.heap.size + 1 < w1.heap.size := by have := hb1.size; simp at this; omega
    clear hb1
    go_wp2
    all_goals first
      | (go_ret; refine ⟨ret_int ?_, by go_grown⟩; rw [hgoal.out, if_neg (by simp [hq0'.out])]; repeat (first | rw [if_pos (by omega)] | rw [if_neg (by omega)]))
      | skip
    clear hl0 hl1
    go_loopw [7] (fun i wr => ∃ (k : Nat) (b0 b1 : Int), k ≤ l.length ∧ i = .int .i64 k ∧ Hid (ascLoop ⟨b0, b1⟩ (l.drop k) = ascLoop ⟨a0, a1⟩ l) ∧ Hid (Blk wr w1.heap.size 116 #[.int .i64 b0, .int .i64 b1]) ∧ Below w.heap.size w wr ∧ wr.cell? ⟨w.heap.size, 2, none⟩ = some (.slice A l.length c)) (fun i _ => l.length - (intOf i).toNat)
    case atStart => exact ⟨0, _, _, Nat.zero_le _, rfl, rfl, Blk.new w1 _ _, hw1.alloc hw1.size _, by rw [World.cell?_alloc_past _ _ _ (by omega)]; exact ht2⟩
    case round =>
      clear ht2 ht3
      have hz0 := hw1.size
      obtain ⟨k, b0, b1, hk, rfl, hs, hL, hb, ht2⟩ := hrel
      by_cases hlt : k < l.length
      · obtain ⟨b, off, rfl, hbl, hx0, hx1⟩ := H.out k hlt
        have hx0 := cell_later hb hx0
        have hx1 := cell_later hb hx1
        have hd := hide (drop_cons l k hlt)
        generalize l[k] = x at *
        obtain ⟨x0, x1⟩ := x
        cases hv : ptValid ⟨x0, x1⟩ with
        | false =>
          have hv' := hide hv
          clear hv
          go_wp2_with (go_at_call 82; refine (rvalid_any x0 x1 _).mono ?_; rintro e w2 ⟨rfl, hb2⟩; rw [hv'.out])
          go_ret
          exact ⟨ret_int (by rw [hgoal.out, if_neg (by simp [hq0'.out]), if_neg (by omega), if_neg (by omega), ← hs.out, hd.out, ascLoop, if_pos hv'.out]), Below.next (hb.alloc hb.size _) hb2⟩
        | true =>
          have hv' := hide hv
          clear hv
          go_wp2_with fail
          refine (rvalid_any x0 x1 _).mono ?_
          rintro e w2 ⟨rfl, hb2⟩
          rw [hv'.out]
          have hw2 : Below w.heap.size w w2 := Below.next (hb.alloc hb.size _) hb2
          have hp0 := cell_later (a := ⟨wr.heap.size, 0, none⟩) (v := .int .i64 x0) hb2 (by simp)
          have hp1 := cell_later (a := ⟨wr.heap.size, 1, none⟩) (v := .int .i64 x1) hb2 (by simp)
          have hL2 : Hid (Blk w2 w1.heap.size 116 #[.int .i64 b0, .int .i64 b1]) := (hL.out.alloc _).below hb2
          have ht2' := cell_later (a := ⟨w.heap.size, 2, none⟩) (v := .slice (some ⟨b, off, none⟩) l.length c) hb2 (by rw [World.cell?_alloc_past _ _ _ (by have := hb.size; have := hL.out.lt; omega)]; exact ht2)
          have hl0 := hL2.out.cell_some 0 rfl
          have hl1 := hL2.out.cell_some 1 rfl
          have hf0 := hL2.out.frozen 0
          have hf1 := hL2.out.frozen 1
          clear hb2
          go_wp2
          all_goals first
            | (go_ret; exact ⟨ret_int (by rw [hgoal.out, if_neg (by simp [hq0'.out]), if_neg (by omega), if_neg (by omega), ← hs.out, hd.out, ascLoop, if_neg (by simp [hv'.out]), if_pos (by simp only; omega)]), hw2⟩)
            | skip
          go_roundw
          case rel => exact ⟨k + 1, x0, x1, by omega, by go_num, by unfold Hid; rw [← hs.out, hd.out, ascLoop, if_neg (by simp [hv'.out]), if_neg (by simp only; omega)], (hL2.out.set 0 _).set 1 _, (hw2.setCell (by simp; omega) _).setCell (by simp; omega) _, by rw [World.cell?_setCell_other _ _ _ _ (by intro e; injection e; omega), World.cell?_setCell_other _ _ _ _ (by intro e; injection e; omega)]; exact ht2'⟩
          case measure => simp [intOf]; omega
      · go_wp2
        go_ret
        exact ⟨ret_int (by rw [hgoal.out, if_neg (by simp [hq0'.out]), if_neg (by omega), if_neg (by omega), ← hs.out, List.drop_eq_nil_of_le (by omega), ascLoop]), hb⟩
  · have hne : (q != 0) = true := by simp [hq0]
    have hr := hide (hgoal.out.trans (if_pos hq0))
    clear hgoal hq0
    go_enter Tryz.func76, Tryz.ntmps76
    go_wp2_with fail
    refine (rsqCheck_any ⟨next, lb, l, mark⟩ S _ _ ⟨_, _, rfl, HB.out.below (by go_grown), HP.out.below (by go_grown)⟩).mono ?_
    rintro e w1 ⟨rfl, hb1⟩
    rw [Hq.out]
    go_wp2
    go_ret
    exact ⟨ret_int hr.out.symm, Below.next (by go_grown) hb1⟩

set_option maxHeartbeats 400000 in
theorem rpuCheck_any (t : Trk) (S : Nat → Prop) (v : Value) (w : World) (h : TrkV w S v t) :
    Calls Tryz.prog 53 #[v] w fun e w' => e = .returned (.int .i64 (puCheck t)) ∧ Below w.heap.size w w' := by
  obtain ⟨vb, vp, rfl, hB, hP⟩ := h
  obtain ⟨A, c, rfl, _, _⟩ := pts_form hP
  obtain ⟨Ab, cb, rfl, _, _⟩ := ints_form hB
  have HB := hide hB
  have HP := hide hP
  clear hB hP
  obtain ⟨next, lb, l, mark⟩ := t
  dsimp only at *
  have hr : Hid (asc ⟨next, lb, l, mark⟩ ⟨next, mark⟩ = puCheck ⟨next, lb, l, mark⟩) := rfl
  generalize puCheck ⟨next, lb, l, mark⟩ = r at *
  go_enter Tryz.func53, Tryz.ntmps53
  go_wp2_with fail
  refine (loose_any ⟨next, lb, l, mark⟩ ⟨next, mark⟩ S _ _ ⟨_, _, rfl, HB.out.below (by go_grown), HP.out.below (by go_grown)⟩).mono ?_
  rintro e w1 ⟨rfl, hb1⟩
  rw [hr.out]
  go_wp2
  go_ret
  exact ⟨rfl, Below.next (by go_grown) hb1⟩

end Go.Proofs.YtcbdhigllelmcaaGreat
namespace Go.Proofs.YtcbdhigllelmcaaGreat
open Go.RowKit

set_option maxHeartbeats 800000 in
theorem allows_any (t : Trk) (seq time : Int) (S : Nat → Prop) (v : Value) (w : World) (h : TrkV w S v t) (hl1 : t.beyond.length ≤ 1000000000) (hl2 : t.points.length ≤ 1000000000) :
    Calls Tryz.prog 122 #[v, .int .i64 seq, .int .i64 time] w fun e w' => e = .returned (.tuple #[.bool (allowsT t seq time).1, .int .i64 (allowsT t seq time).2]) ∧ Below w.heap.size w w' := by
  obtain ⟨vb, vp, rfl, hB, hP⟩ := h
  obtain ⟨A, c, rfl, hc, hcell⟩ := pts_form hP
  obtain ⟨Ab, cb, rfl, _, _⟩ := ints_form hB
  have HB := hide hB
  have HP := hide hP
  clear hcell hB hP
  obtain ⟨next, lb, l, mark⟩ := t
  dsimp only at *
  have hgoal : Hid (allowsT ⟨next, lb, l, mark⟩ seq time = if puCheck ⟨next, lb, l, mark⟩ ≠ 0 then (false, puCheck ⟨next, lb, l, mark⟩) else if seq < 0 ∨ 1099511627776 < seq ∨ time < 0 ∨ 1099511627776 < time then (false, 2) else if seq < next ∨ lb.contains seq = true then (false, 7) else (decide (latest mark l seq < time), 0)) := rfl
  generalize hq : puCheck ⟨next, lb, l, mark⟩ = q at *
  generalize hla : latest mark l seq = la at *
  generalize allowsT ⟨next, lb, l, mark⟩ seq time = res at *
  have Hq := hide hq
  have Hla := hide hla
  clear hq hla
  by_cases hq0 : q = 0
  · have hne : (q != 0) = false := by simp [hq0]
    have hq0' := hide hq0
    clear hq0
    cases hr : lb.contains seq
    all_goals
      have Hr := hide hr
      have hgo := hgoal.out
      rw [hr] at hgo
      simp only [reduceCtorEq, or_false, or_true, if_true, hq0'.out, ne_eq, not_true_eq_false, if_false] at hgo
      clear hr hgoal
      have hgoal := hide hgo
      clear hgo
      go_enter Tryz.func122, Tryz.ntmps122
      go_wp2_with fail
      refine (puCheck_any ⟨next, lb, l, mark⟩ S _ _ ⟨_, _, rfl, HB.out.below (by go_grown), HP.out.below (by go_grown)⟩).mono ?_
      rintro e w1 ⟨rfl, hb1⟩
      rw [Hq.out]
      have hw1 : Below w.heap.size w w1 := Below.next (by go_grown) hb1
      have ht0 := cell_later (a := ⟨w.heap.size, 0, none⟩) (v := .int .i64 next) hb1 (by simp)
      have ht1 := cell_later (a := ⟨w.heap.size, 1, none⟩) (v := .slice Ab lb.length cb) hb1 (by simp)
      have ht2 := cell_later (a := ⟨w.heap.size, 2, none⟩) (v := .slice A l.length c) hb1 (by simp)
      have ht3 := cell_later (a := ⟨w.heap.size, 3, none⟩) (v := .int .i64 mark) hb1 (by simp)
      clear hb1
      go_wp2_with (first
        | (go_at_call 128; refine (containsI_any lb seq S _ _ (HB.out.below ?_) hl1).mono ?_; assumption; rintro e w2 ⟨rfl, hb2⟩; rw [Hr.out]; have hw2 := Below.next hw1 hb2; have ht2' := cell_later hb2 ht2; have ht3' := cell_later hb2 ht3)
        | (go_at_call 129; refine (latest_any mark l seq S _ _ (HP.out.below ?_) hl2).mono ?_; assumption; rintro e w3 ⟨rfl, hb3⟩; rw [Hla.out]; have hw3 := Below.next hw2 hb3))
      all_goals
        go_ret2
        refine ⟨?_, by first | assumption | exact hw3 | exact hw2 | exact hw1⟩
        rw [hgoal.out]
        repeat (first | rw [if_pos (by omega)] | rw [if_neg (by omega)])
        try rfl
  · have hne : (q != 0) = true := by simp [hq0]
    have hr := hide (hgoal.out.trans (if_pos hq0))
    clear hgoal hq0
    go_enter Tryz.func122, Tryz.ntmps122
    go_wp2_with fail
    refine (puCheck_any ⟨next, lb, l, mark⟩ S _ _ ⟨_, _, rfl, HB.out.below (by go_grown), HP.out.below (by go_grown)⟩).mono ?_
    rintro e w1 ⟨rfl, hb1⟩
    rw [Hq.out]
    go_wp2
    go_ret2
    exact ⟨by rw [hr.out]; rfl, Below.next (by go_grown) hb1⟩

theorem hits_drop (l : List Pt) (seq time : Int) (k : Nat) (h : k < l.length) : hits (l.drop k) seq time = (decide (l[k].seq ≤ seq) && decide (time ≤ l[k].time) || hits (l.drop (k + 1)) seq time) := by
  rw [drop_cons l k h]; rfl

set_option maxHeartbeats 800000 in
theorem rallows_any (t : Trk) (seq time : Int) (S : Nat → Prop) (v : Value) (w : World) (h : TrkV w S v t) (hl1 : t.beyond.length ≤ 1000000000) (hl2 : t.points.length ≤ 1000000000) :
    Calls Tryz.prog 85 #[v, .int .i64 seq, .int .i64 time] w fun e w' => e = .returned (.tuple #[.bool (allowsR t seq time).1, .int .i64 (allowsR t seq time).2]) ∧ Below w.heap.size w w' := by
  obtain ⟨vb, vp, rfl, hB, hP⟩ := h
  obtain ⟨A, c, rfl, hc, hcell⟩ := pts_form hP
  obtain ⟨Ab, cb, rfl, _, _⟩ := ints_form hB
  have H := hide hcell
  have HB := hide hB
  have HP := hide hP
  clear hcell hB hP
  obtain ⟨next, lb, l, mark⟩ := t
  dsimp only at *
  have hgoal : Hid (allowsR ⟨next, lb, l, mark⟩ seq time = if puCheck ⟨next, lb, l, mark⟩ ≠ 0 then (false, puCheck ⟨next, lb, l, mark⟩) else if seq < 0 ∨ 1099511627776 < seq ∨ time < 0 ∨ 1099511627776 < time then (false, 2) else if hasB ⟨next, lb, l, mark⟩ seq = true then (false, 7) else if time ≤ mark then (false, 0) else (!hits l seq time, 0)) := rfl
  generalize hq : puCheck ⟨next, lb, l, mark⟩ = q at *
  generalize hha : hasB ⟨next, lb, l, mark⟩ seq = ha at *
  generalize allowsR ⟨next, lb, l, mark⟩ seq time = res at *
  have Hq := hide hq
  have Hha := hide hha
  clear hq hha
  by_cases hq0 : q = 0
  · have hne : (q != 0) = false := by simp [hq0]
    have hq0' := hide hq0
    clear hq0
    cases ha
    all_goals
      have hgo := hgoal.out
      simp only [reduceCtorEq, if_true, hq0'.out, ne_eq, not_true_eq_false, if_false] at hgo
      clear hgoal
      have hgoal := hide hgo
      clear hgo
      go_enter Tryz.func85, Tryz.ntmps85
      go_wp2_with fail
      refine (rpuCheck_any ⟨next, lb, l, mark⟩ S _ _ ⟨_, _, rfl, HB.out.below (by go_grown), HP.out.below (by go_grown)⟩).mono ?_
      rintro e w1 ⟨rfl, hb1⟩
      rw [Hq.out]
      have hw1 : Below w.heap.size w w1 := Below.next (by go_grown) hb1
      have ht0 := cell_later (a := ⟨w.heap.size, 0, none⟩) (v := .int .i64 next) hb1 (by simp)
      have ht1 := cell_later (a := ⟨w.heap.size, 1, none⟩) (v := .slice Ab lb.length cb) hb1 (by simp)
      have ht2 := cell_later (a := ⟨w.heap.size, 2, none⟩) (v := .slice A l.length c) hb1 (by simp)
      have ht3 := cell_later (a := ⟨w.heap.size, 3, none⟩) (v := .int .i64 mark) hb1 (by simp)
      clear hb1
      go_wp2_with (go_at_call 84; refine (rcontains_any ⟨next, lb, l, mark⟩ seq S _ _ ⟨_, _, rfl, HB.out.below hw1, HP.out.below hw1⟩ hl1).mono ?_; rintro e w2 ⟨rfl, hb2⟩; rw [Hha.out]; have hw2 := Below.next hw1 hb2; have ht2' := cell_later hb2 ht2; have ht3' := cell_later hb2 ht3)
      all_goals first
        | (go_ret2
           refine ⟨?_, by first | assumption | exact hw2 | exact hw1⟩
           rw [hgoal.out]
           repeat (first | rw [if_pos (by omega)] | rw [if_neg (by omega)])
           try rfl)
        | skip
    clear ht0 ht1 ht2 ht3 ht3'
    go_loopw [9] (fun i wr => ∃ k : Nat, k ≤ l.length ∧ i = .int .i64 k ∧ Hid (hits (l.drop k) seq time = hits l seq time) ∧ Below w.heap.size w wr ∧ wr.cell? ⟨w.heap.size, 2, none⟩ = some (.slice A l.length c)) (fun i _ => l.length - (intOf i).toNat)
    case atStart => exact ⟨0, Nat.zero_le _, rfl, rfl, hw2, ht2'⟩
    case round =>
      clear ht2'
      obtain ⟨k, hk, rfl, hs, hb, ht2⟩ := hrel
      by_cases hlt : k < l.length
      · obtain ⟨b, off, rfl, hbl, hx0, hx1⟩ := H.out k hlt
        have hx0 := cell_later hb hx0
        have hx1 := cell_later hb hx1
        have hd := hide (hits_drop l seq time k hlt)
        generalize l[k] = x at *
        obtain ⟨x0, x1⟩ := x
        go_wp2
        all_goals first
          | (go_ret2
             refine ⟨?_, hb⟩
             rw [hgoal.out, if_neg (by omega), if_neg (by omega), ← hs.out, hd.out, decide_eq_true (p := x0 ≤ seq) (by omega), decide_eq_true (p := time ≤ x1) (by omega)]
             rfl)
          | skip
        all_goals
          have hnx : Hid (hits (l.drop (k + 1)) seq time = hits l seq time) := by
            unfold Hid
            rw [← hs.out, hd.out]
            first
              | (rw [decide_eq_false (p := x0 ≤ seq) (by omega)]; rfl)
              | (rw [decide_eq_false (p := time ≤ x1) (by omega)]; simp)
          first
            | exact ⟨⟨k + 1, by omega, by go_num, hnx, hb, ht2⟩, by simp [intOf]; omega⟩
            | (go_roundw
               case rel => exact ⟨k + 1, by omega, by go_num, hnx, hb, ht2⟩
               case measure => simp [intOf]; omega)
      · go_wp2
        go_ret2
        refine ⟨?_, hb⟩
        rw [hgoal.out, if_neg (by omega), if_neg (by omega), ← hs.out, List.drop_eq_nil_of_le (by omega)]
        rfl
  · have hne : (q != 0) = true := by simp [hq0]
    have hr := hide (hgoal.out.trans (if_pos hq0))
    clear hgoal hq0
    go_enter Tryz.func85, Tryz.ntmps85
    go_wp2_with fail
    refine (rpuCheck_any ⟨next, lb, l, mark⟩ S _ _ ⟨_, _, rfl, HB.out.below (by go_grown), HP.out.below (by go_grown)⟩).mono ?_
    rintro e w1 ⟨rfl, hb1⟩
    rw [Hq.out]
    go_wp2
    go_ret2
    exact ⟨by rw [hr.out]; rfl, Below.next (by go_grown) hb1⟩

end Go.Proofs.YtcbdhigllelmcaaGreat
namespace Go.Proofs.YtcbdhigllelmcaaGreat
open Go.RowKit

theorem neqPt (a b c d : Int) (w : World) : (binOp .neq 116 (.agg #[.int .i64 a, .int .i64 b]) (.agg #[.int .i64 c, .int .i64 d])).run Tryz.prog w = .ok (.bool (!decide ((⟨a, b⟩ : Pt) = ⟨c, d⟩))) w := by
  have u3 := Tryz.underlying3
  have a3 := Tryz.isAgg3
  have z3 := Tryz.sizeOf3
  have hS : Tryz.prog.underlying 116 = some (.struct (Tryz.prog.fieldsOf 116)) := by kernel_rfl
  have hp : Tryz.prog.stoodInHeld 116 = false := by kernel_rfl
  simp only [binOp]
  rw [show Op.equal 116 = Op.equalIn (9999+1) 116 from rfl]
  rw [Sem.run_bind, run_equalIn_agg w 9999 116 _ _ hS hp]
  simp only [Program.fieldsOf, Tryz.underlying116]
  go_simp
  by_cases h1 : a = c <;> by_cases h2 : b = d <;> simp [h1, h2]

theorem eqpts_drop (l m : List Pt) (k : Nat) (h1 : k < l.length) (h2 : k < m.length) : decide (l.drop k = m.drop k) = (decide (l[k] = m[k]) && decide (l.drop (k + 1) = m.drop (k + 1))) := by
  rw [drop_cons l k h1, drop_cons m k h2]; simp only [List.cons.injEq, Bool.decide_and]

set_option maxHeartbeats 800000 in
theorem same_any (t u : Trk) (S S' : Nat → Prop) (v v' : Value) (w : World) (h : TrkV w S v t) (h' : TrkV w S' v' u) (hl1 : t.beyond.length ≤ 1000000000) (hl2 : t.points.length ≤ 1000000000) :
    Calls Tryz.prog 39 #[v, v'] w fun e w' => e = .returned (.bool (decide (t = u))) ∧ Below w.heap.size w w' := by
  obtain ⟨vb, vp, rfl, hB, hP⟩ := h
  obtain ⟨ub, up, rfl, hB', hP'⟩ := h'
  obtain ⟨A, c, rfl, hc, hcell⟩ := pts_form hP
  obtain ⟨Ab, cb, rfl, _, _⟩ := ints_form hB
  obtain ⟨A', c', rfl, hc', hcell'⟩ := pts_form hP'
  obtain ⟨Ab', cb', rfl, _, _⟩ := ints_form hB'
  have H := hide hcell
  have H' := hide hcell'
  have HB := hide hB
  have HB' := hide hB'
  clear hcell hB hP hcell' hB' hP'
  obtain ⟨n1, lb, l, m1⟩ := t
  obtain ⟨n2, mb, m, m2⟩ := u
  dsimp only at *
  have hgoal : Hid (decide ((⟨n1, lb, l, m1⟩ : Trk) = ⟨n2, mb, m, m2⟩) = (decide (n1 = n2) && (decide (lb = mb) && (decide (l = m) && decide (m1 = m2))))) := by
    unfold Hid; rw [Bool.eq_iff_iff]; simp
  generalize hres : decide ((⟨n1, lb, l, m1⟩ : Trk) = ⟨n2, mb, m, m2⟩) = res at *
  clear hres
  have hpre : ∀ (b : Bool), (n1 != n2) = b → (b = true → res = false) := fun b hb ht => by
    rw [ht] at hb; rw [hgoal.out, decide_eq_false (by simpa using hb)]; rfl
  have hpre2 : ∀ (b : Bool), (m1 != m2) = b → (b = true → res = false) := fun b hb ht => by
    rw [ht] at hb; rw [hgoal.out, decide_eq_false (p := m1 = m2) (by simpa using hb)]; simp
  have hpre3 : ∀ (b : Bool), ((l.length : Int) != (m.length : Int)) = b → (b = true → res = false) := fun b hb ht => by
    rw [ht] at hb; rw [hgoal.out, decide_eq_false (p := l = m) (fun e => by subst e; simp at hb)]; simp
  have H1 := hide hpre
  have H2 := hide hpre2
  have H3 := hide hpre3
  clear hpre hpre2 hpre3
  cases e1 : (n1 != n2)
  · cases e2 : (m1 != m2)
    · cases e3 : ((l.length : Int) != (m.length : Int))
      · have q1 : n1 = n2 := by simpa using e1
        have q2 : m1 = m2 := by simpa using e2
        have q3' : (l.length : Int) = (m.length : Int) := by simpa using e3
        have q3 : l.length = m.length := by omega
        clear q3'
        cases hi : decide (lb = mb)
        all_goals
          have hgo := hgoal.out
          rw [hi, decide_eq_true q1, decide_eq_true q2] at hgo
          simp only [Bool.true_and, Bool.and_true, Bool.false_and] at hgo
          have Hi := hide hi
          have Hgo := hide hgo
          clear hi hgo hgoal
          have q3' := hide q3
          have q4 : l.length ≤ m.length := by omega
          have q5 : m.length ≤ l.length := by omega
          clear q1 q2 q3
          go_enter Tryz.func39, Tryz.ntmps39
          go_wp2_with fail
          refine (sameInts_any lb mb S S' _ _ _ (HB.out.below (by go_grown)) (HB'.out.below (by go_grown)) hl1).mono ?_
          rintro e w1 ⟨rfl, hb1⟩
          rw [Hi.out]
          have hw1 : Below w.heap.size w w1 := Below.next (by go_grown) hb1
          have ht2 := cell_later (a := ⟨w.heap.size, 2, none⟩) (v := .slice A l.length c) hb1 (by simp)
          have hu2 := cell_later (a := ⟨w.heap.size + 1, 2, none⟩) (v := .slice A' m.length c') hb1 (by simp)
          clear hb1
          go_wp2
        · go_ret
          exact ⟨ret_bool Hgo.out.symm, hw1⟩
        · clear e1 e2 e3
          go_loopw [5] (fun i wr => ∃ k : Nat, k ≤ l.length ∧ i = .int .i64 k ∧ Hid (decide (l.drop k = m.drop k) = decide (l = m)) ∧ Below w.heap.size w wr ∧ wr.cell? ⟨w.heap.size, 2, none⟩ = some (.slice A l.length c) ∧ wr.cell? ⟨w.heap.size + 1, 2, none⟩ = some (.slice A' m.length c')) (fun i _ => l.length - (intOf i).toNat)
          case atStart => exact ⟨0, Nat.zero_le _, rfl, rfl, hw1, ht2, hu2⟩
          case round =>
            clear ht2 hu2
            obtain ⟨k, hk, rfl, hs, hb, ht2, hu2⟩ := hrel
            by_cases hlt : k < l.length
            · obtain ⟨b, off, rfl, hbl, hx0, hx1⟩ := H.out k hlt
              obtain ⟨b', off', rfl, hbl', hy0, hy1⟩ := H'.out k (by omega)
              have hx0 := cell_later hb hx0
              have hx1 := cell_later hb hx1
              have hy0 := cell_later hb hy0
              have hy1 := cell_later hb hy1
              have hs1 := hide (eqpts_drop l m k hlt (by omega))
              generalize l[k] = x at *
              generalize m[k] = y at *
              obtain ⟨x0, x1⟩ := x
              obtain ⟨y0, y1⟩ := y
              have hkm : (k : Int) < (m.length : Int) := by omega
              have hkl : (k : Int) < (l.length : Int) := by omega
              have hk0 : (0 : Int) ≤ (k : Int) := by omega
              have hneq := fun W => neqPt x0 x1 y0 y1 W
              have hs2 := hs1.out
              generalize hd : decide ((⟨x0, x1⟩ : Pt) = ⟨y0, y1⟩) = d at *
              have Hd := hide hd
              clear hd
              cases d
              · have hs3 := hide hs2
                clear hs2
                simp only [Bool.not_false] at hneq
                go_wp2
                go_quiet (fail)
                have hb2 := below_drewN hb nq
                go_wp2
                go_ret
                exact ⟨ret_bool (by rw [Hgo.out, ← hs.out, hs3.out]; rfl), hb2⟩
              · have hs3 := hide hs2
                clear hs2
                simp only [Bool.not_true] at hneq
                go_wp2
                go_quiet (fail)
                have hb2 := below_drewN hb nq
                have hnx : Hid (decide (l.drop (k + 1) = m.drop (k + 1)) = decide (l = m)) := by
                  unfold Hid; rw [← hs.out, hs3.out]; rfl
                go_wp2
                first
                  | exact ⟨⟨k + 1, by omega, by go_num, hnx, hb2, ht2, hu2⟩, by simp [intOf]; omega⟩
                  | (go_roundw
                     case rel => exact ⟨k + 1, by omega, by go_num, hnx, hb2, ht2, hu2⟩
                     case measure => simp [intOf]; omega)
            · go_wp2
              go_ret
              exact ⟨ret_bool (by rw [Hgo.out, ← hs.out, List.drop_eq_nil_of_le (by omega), List.drop_eq_nil_of_le (by omega)]; rfl), hb⟩
      · have hr := hide (H3.out _ e3 rfl)
        go_enter Tryz.func39, Tryz.ntmps39
        go_wp2
        go_ret
        exact ⟨ret_bool hr.out.symm, by go_grown⟩
    · have hr := hide (H2.out _ e2 rfl)
      go_enter Tryz.func39, Tryz.ntmps39
      go_wp2
      go_ret
      exact ⟨ret_bool hr.out.symm, by go_grown⟩
  · have hr := hide (H1.out _ e1 rfl)
    go_enter Tryz.func39, Tryz.ntmps39
    go_wp2
    go_ret
    exact ⟨ret_bool hr.out.symm, by go_grown⟩

end Go.Proofs.YtcbdhigllelmcaaGreat
namespace Go.Proofs.YtcbdhigllelmcaaGreat
open Go.RowKit

theorem int_cell {w : World} {S : Nat → Prop} {n : Int} {j : Nat} (hj : j < (aI n).cells.length) {u : Value} (h : Rep w S G0 ((aI n).cells[j]) u) : (encI n)[j]? = some u := by
  have : j = 0 := by simpa [aI, AV.cells] using hj
  subst this
  have h : Rep w S G0 (aI n) u := h
  rw [h.int_inv]; rfl
theorem rep_ints {w : World} {S : Nat → Prop} {v : Value} {l : List Int} : Rep w S G0 (aInts l) v ↔ Ints w S v l := by
  constructor
  · intro h
    exact sl_of_rep h (fun x _ => rfl) (fun x _ j hj u hu => int_cell hj hu)
  · intro h
    refine rep_sl_of h (fun x _ => rfl) (fun x _ => rfl) (fun x _ u hu => ?_) (fun x _ j hj => ?_)
    · simp only [encI, List.mem_singleton] at hu; subst hu; rfl
    · have : j = 0 := by simpa [aI, AV.cells] using hj
      subst this
      exact .int _ _
theorem rep_pts {w : World} {S : Nat → Prop} {v : Value} {l : List Pt} : Rep w S G0 (aPts l) v ↔ Pts w S v l := by
  constructor
  · intro h
    refine sl_of_rep h (fun x _ => rfl) (fun x _ j hj u hu => ?_)
    have hj' : j < 2 := hj
    rcases j with _ | _ | j
    · have hu : Rep w S G0 (aI x.seq) u := hu
      rw [hu.int_inv]; rfl
    · have hu : Rep w S G0 (aI x.time) u := hu
      rw [hu.int_inv]; rfl
    · omega
  · intro h
    refine rep_sl_of h (fun x _ => rfl) (fun x _ => rfl) (fun x _ u hu => ?_) (fun x _ j hj => ?_)
    · simp only [encP, List.mem_cons, List.not_mem_nil, or_false] at hu; rcases hu with rfl | rfl <;> rfl
    · have hj' : j < 2 := hj
      rcases j with _ | _ | j
      · exact .int _ _
      · exact .int _ _
      · omega
theorem rep_trk {w : World} {S : Nat → Prop} {v : Value} {t : Trk} : Rep w S G0 (aTrk t) v ↔ TrkV w S v t := by
  constructor
  · intro h
    obtain ⟨vs, rfl, hl, hr, _⟩ := h.agg_inv
    have e := getD4 hl
    have h0 : Rep w S G0 (aI t.next) (vs.getD 0 undef) := hr 0 (by simp)
    have h1 : Rep w S G0 (aInts t.beyond) (vs.getD 1 undef) := hr 1 (by simp)
    have h2 : Rep w S G0 (aPts t.points) (vs.getD 2 undef) := hr 2 (by simp)
    have h3 : Rep w S G0 (aI t.mark) (vs.getD 3 undef) := hr 3 (by simp)
    refine ⟨vs.getD 1 undef, vs.getD 2 undef, ?_, rep_ints.1 h1, rep_pts.1 h2⟩
    rw [← h0.int_inv, ← h3.int_inv, ← e]
  · rintro ⟨vb, vp, rfl, hB, hP⟩
    have rB := rep_ints.2 hB
    have rP := rep_pts.2 hP
    refine .agg _ rfl (fun i hi => ?_) (fun i hi => ?_)
    · have hi' : i < 4 := hi
      rcases i with _ | _ | _ | _ | i
      · exact .int _ _
      · exact rB
      · exact rP
      · exact .int _ _
      · omega
    · have hi' : i < 4 := hi
      rcases i with _ | _ | _ | _ | i
      · rfl
      · obtain ⟨A, c, rfl, _⟩ := hB; rfl
      · obtain ⟨A, c, rfl, _⟩ := hP; rfl
      · rfl
      · omega
theorem rep_pt {w : World} {S : Nat → Prop} {γ : Gam} {v : Value} {p : Pt} (h : Rep w S γ (aPt p) v) : v = .agg #[.int .i64 p.seq, .int .i64 p.time] := by
  obtain ⟨vs, rfl, hl, hr, _⟩ := h.agg_inv
  have e := getD2 hl
  have h0 : Rep w S γ (aI p.seq) (vs.getD 0 undef) := hr 0 (by simp)
  have h1 : Rep w S γ (aI p.time) (vs.getD 1 undef) := hr 1 (by simp)
  rw [← h0.int_inv, ← h1.int_inv, ← e]

theorem puCheck_con (t : Trk) : Con E0 true 52 [aTrk t] (aI (puCheck t)) :=
  Con.of1 (enters_of Tryz.func52 rfl rfl) fun S w x hx => (puCheck_any t S x w (rep_trk.1 hx)).mono fun e w' ⟨h1, h2⟩ => ⟨_, h1, h2, .int _ _⟩
theorem rpuCheck_con (t : Trk) : Con E0 true 53 [aTrk t] (aI (puCheck t)) :=
  Con.of1 (enters_of Tryz.func53 rfl rfl) fun S w x hx => (rpuCheck_any t S x w (rep_trk.1 hx)).mono fun e w' ⟨h1, h2⟩ => ⟨_, h1, h2, .int _ _⟩
theorem rep_be {w : World} {S : Nat → Prop} {γ : Gam} (b : Bool) (n : Int) : Rep w S γ (.tup [.bool b, aI n]) (.tuple #[.bool b, .int .i64 n]) :=
  .tup _ rfl fun i hi => by
    have hi' : i < 2 := hi
    rcases i with _ | _ | i
    · exact .bool _
    · exact .int _ _
    · omega
theorem allows_con (t : Trk) (seq time : Int) (hl1 : t.beyond.length ≤ 1000000000) (hl2 : t.points.length ≤ 1000000000) : Con E0 true 122 [aTrk t, aI seq, aI time] (.tup [.bool (allowsT t seq time).1, aI (allowsT t seq time).2]) :=
  Con.of3 (enters_of Tryz.func122 rfl rfl) fun S w x y z hx hy hz => by
    rw [hy.int_inv, hz.int_inv]
    exact (allows_any t seq time S x w (rep_trk.1 hx) hl1 hl2).mono fun e w' ⟨h1, h2⟩ => ⟨_, h1, h2, rep_be _ _⟩
theorem same_con (t u : Trk) (hl1 : t.beyond.length ≤ 1000000000) (hl2 : t.points.length ≤ 1000000000) : Con E0 true 39 [aTrk t, aTrk u] (.bool (decide (t = u))) :=
  Con.of2 (enters_of Tryz.func39 rfl rfl) fun S w x y hx hy => (same_any t u S S x y w (rep_trk.1 hx) (rep_trk.1 hy) hl1 hl2).mono fun e w' ⟨h1, h2⟩ => ⟨_, h1, h2, .bool _⟩
theorem add_con (t : Trk) (p : Pt) (hl1 : t.beyond.length ≤ 1000000) (hl2 : t.points.length ≤ 1000000) : Con E0 true 126 [aTrk t, aPt p] (.tup [aTrk (addT t p).1, aI (addT t p).2]) :=
  Con.of2 (enters_of Tryz.func126 rfl rfl) fun S w x y hx hy => by
    rw [rep_pt hy]
    refine (add_any t p S x w (rep_trk.1 hx) hl1 hl2).mono fun e w' ⟨A, c, A', c', h1, h2, h3, h4⟩ => ⟨_, h1, h4, ?_⟩
    have := rep_trk.2 (RetTE.trkV h2 h3)
    refine .tup _ rfl fun i hi => ?_
    have hi' : i < 2 := hi
    rcases i with _ | _ | i
    · exact this.mono (Nat.le_refl _) (fun b hb _ => ⟨rfl, Or.inr hb⟩)
    · exact .int _ _
    · omega
end Go.Proofs.YtcbdhigllelmcaaGreat
