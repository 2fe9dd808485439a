/- The walks of layers 34 and 35, eleventh part: Add. -/
import Derived.Test.YthhnhajldhnfmaaPunG
import Derived.Test.YthhnhajldhnfmaaLibB
import Derived.Test.YthhnhajldhnfmaaLibC
import Derived.Test.YthhnhajldhnfmaaSpec35b
set_option linter.unusedVariables false
set_option linter.unusedSimpArgs false
namespace Go.Proofs.Ythhnhajldhnfmaa
open Go.RowKit

theorem blk_new_at (w : World) (t : TypeId) (cs : Array Value) {n : Nat} (h : n = w.heap.size) : Blk (w.alloc (.cells cs t)) n t cs := by subst h; exact Blk.new w t cs

set_option maxHeartbeats 3200000 in
theorem add_any (t : Trk) (p : Pt) (S : Nat → Prop) (v : Value) (w : World) (h : TrkV w S v t) (hl1 : t.beyond.length ≤ 1000000) (hl2 : t.points.length ≤ 1000000) :
    Calls Try.prog 23 #[v, .agg #[.int .i64 p.seq, .int .i64 p.time]] w (RetTE (addT t p) w) := by
  obtain ⟨vb, vp, rfl, hB, hP⟩ := h
  obtain ⟨A, c, rfl, hc, hcell⟩ := pts_form hP
  obtain ⟨Ab, cb, rfl, _, _⟩ := ints_form hB
  have HB := hide hB
  have HP := hide hP
  clear hcell hB hP
  obtain ⟨next, lb, l, mark⟩ := t
  obtain ⟨p0, p1⟩ := p
  dsimp only at *
  have hgoal : Hid (addT ⟨next, lb, l, mark⟩ ⟨p0, p1⟩ =
    if puCheck ⟨next, lb, l, mark⟩ ≠ 0 then (zeroT, puCheck ⟨next, lb, l, mark⟩) else if ptValid ⟨p0, p1⟩ = false then (zeroT, 2) else
    if p1 ≤ mark ∨ (l.any fun x => implies x ⟨p0, p1⟩) = true then (⟨next, lb, l, mark⟩, 0) else
    if p0 ≤ next then (⟨next, lb, l.filter fun x => !implies ⟨p0, p1⟩ x, p1⟩, 0) else
    if 256 < ((l.filter fun x => !implies ⟨p0, p1⟩ x).length + 1) then (zeroT, 5) else
    (⟨next, lb, (l.filter fun x => !implies ⟨p0, p1⟩ x).take (below (l.filter fun x => !implies ⟨p0, p1⟩ x) p0) ++ ⟨p0, p1⟩ :: (l.filter fun x => !implies ⟨p0, p1⟩ x).drop (below (l.filter fun x => !implies ⟨p0, p1⟩ x) p0), mark⟩, 0)) := rfl
  have hmono := hide (add_mono ⟨next, lb, l, mark⟩ ⟨p0, p1⟩ (fun x => !implies ⟨p0, p1⟩ x))
  have hfl : Hid ((l.filter fun x => !implies ⟨p0, p1⟩ x).length ≤ 1000000) := Nat.le_trans (List.length_filter_le _ _) hl2
  dsimp only at hmono
  generalize hq : puCheck ⟨next, lb, l, mark⟩ = q at *
  generalize hv : ptValid ⟨p0, p1⟩ = pv at *
  generalize han : (l.any fun x => implies x ⟨p0, p1⟩) = an at *
  generalize hf : (l.filter fun x => !implies ⟨p0, p1⟩ x) = fl at *
  generalize addT ⟨next, lb, l, mark⟩ ⟨p0, p1⟩ = res at *
  have Hq := hide hq
  have Hv := hide hv
  have Han := hide han
  have Hf := hide hf
  clear hq hv han hf
  have eg1 := enters_of (P := Try.prog) Try.func58 (by kernel_rfl) rfl
  have eg2 := enters_of (P := Try.prog) Try.func60 (by kernel_rfl) rfl
  have eg3 := enters_of (P := Try.prog) Try.func62 (by kernel_rfl) rfl
  go_enter Try.func23, Try.ntmps23
  go_wp2_with fail
  refine (puCheck_any ⟨next, lb, l, mark⟩ S _ _ ⟨_, _, rfl, HB.out.below (by go_grown), HP.out.below (by go_grown)⟩).mono ?_
  rintro e w1 ⟨rfl, hb1⟩
  rw [Hq.out]
  have hw1 : Hid (Below w.heap.size w w1) := Below.next (by go_grown) hb1
  have hT1 : Hid (Blk w1 w.heap.size 25 #[.int .i64 next, .slice Ab lb.length cb, .slice A l.length c, .int .i64 mark]) := Blk.below (Blk.alloc (Blk.alloc (Blk.new w _ _) _) _) hb1
  have hP1 : Hid (Blk w1 (w.heap.size + 1) 27 #[.int .i64 p0, .int .i64 p1]) := Blk.below (Blk.alloc (blk_new_at (w.alloc _) _ _ (by simp)) _) hb1
  have hR1 : Hid (Blk w1 (w.heap.size + 2) 25 #[.int .i64 0, .slice none 0 0, .slice none 0 0, .int .i64 0]) := Blk.below (blk_new_at ((w.alloc _).alloc _) _ _ (by simp)) hb1
  clear hb1
  by_cases hq0 : q = 0
  · have hne : (q != 0) = false := by simp [hq0]
    have hg1 := hide (hgoal.out.trans (if_neg (by simp [hq0])))
    have hq0' := hide hq0
    clear hgoal hq0
    have q0 := hP1.out.cell_some 0 rfl
    have q1 := hP1.out.cell_some 1 rfl
    go_wp2_with fail
    refine (valid_any p0 p1 _).mono ?_
    rintro e w2 ⟨rfl, hb2⟩
    rw [Hv.out]
    have hw2 := hide (Below.next hw1.out hb2)
    have hT2 := hide (hT1.out.below hb2)
    have hP2 := hide (hP1.out.below hb2)
    have hR2 := hide (hR1.out.below hb2)
    clear q0 q1 hb2 hw1 hT1 hP1 hR1
    cases pv with
    | false =>
      have hr := hide (hg1.out.trans (if_pos rfl))
      clear hg1
      have r0 := hR2.out.cell_some 0 rfl
      have r1 := hR2.out.cell_some 1 rfl
      have r2 := hR2.out.cell_some 2 rfl
      have r3 := hR2.out.cell_some 3 rfl
      have f0 := hR2.out.frozen 0
      have f1 := hR2.out.frozen 1
      have f2 := hR2.out.frozen 2
      have f3 := hR2.out.frozen 3
      go_wp2
      refine bodyPost_ret (v := .tuple #[.agg #[.int .i64 0, .slice none 0 0, .slice none 0 0, .int .i64 0], .int .i64 2]) (by simp [results, Try.results23, go_sem, r0, r1, r2, r3]) rfl ?_
      rw [hr.out]
      refine ⟨none, 0, none, 0, rfl, Own.nil_, Own.nil_, ?_⟩
      iterate 4 (refine Below.setCell ?_ (by dsimp only; omega) _)
      exact hw2.out
    | true =>
      have hg2 := hide (hg1.out.trans (if_neg (by simp)))
      clear hg1
      have t0 := hT2.out.cell_some 0 rfl
      have t1 := hT2.out.cell_some 1 rfl
      have t2 := hT2.out.cell_some 2 rfl
      have t3 := hT2.out.cell_some 3 rfl
      go_wp2_with fail
      refine (own_any ⟨next, lb, l, mark⟩ S _ _ ⟨_, _, rfl, HB.out.below hw2.out, HP.out.below hw2.out⟩ (by dsimp only; omega) (by dsimp only; omega)).mono ?_
      rintro e w3 ⟨A1, c1, A2, c2, rfl, ho1, ho2, hb3⟩
      have hw3 := hide (Below.next hw2.out hb3)
      have hT3 := hide (hT2.out.below hb3)
      have hP3 := hide (hP2.out.below hb3)
      have hR3 := hide (hR2.out.below hb3)
      have Ho1 : Hid (Own w3 (w.heap.size + 3) 3 1 encI (.slice A1 lb.length c1) lb) := ho1.le hR2.out.lt
      have Ho2 : Hid (Own w3 (w.heap.size + 3) 27 2 encP (.slice A2 l.length c2) l) := ho2.le hR2.out.lt
      clear t0 t1 t2 t3 hw2 hT2 hP2 hR2 ho1 ho2 hb3
      dsimp only
      have hO4 := hide (Blk.new w3 25 #[.int .i64 next, .slice A1 lb.length c1, .slice A2 l.length c2, .int .i64 mark])
      have hT4 := hide (hT3.out.alloc (.cells #[.int .i64 next, .slice A1 lb.length c1, .slice A2 l.length c2, .int .i64 mark] 25))
      have hP4 := hide (hP3.out.alloc (.cells #[.int .i64 next, .slice A1 lb.length c1, .slice A2 l.length c2, .int .i64 mark] 25))
      have hR4 := hide (hR3.out.alloc (.cells #[.int .i64 next, .slice A1 lb.length c1, .slice A2 l.length c2, .int .i64 mark] 25))
      have hw4 := hide (hw3.out.alloc hw3.out.size (.cells #[.int .i64 next, .slice A1 lb.length c1, .slice A2 l.length c2, .int .i64 mark] 25))
      have Ho1' := hide (Ho1.out.below ((Below.refl _ _).alloc (Nat.le_refl _) (.cells #[.int .i64 next, .slice A1 lb.length c1, .slice A2 l.length c2, .int .i64 mark] 25)))
      have Ho2' := hide (Ho2.out.below ((Below.refl _ _).alloc (Nat.le_refl _) (.cells #[.int .i64 next, .slice A1 lb.length c1, .slice A2 l.length c2, .int .i64 mark] 25)))
      have hnb1 := hide (fun e => by have := (Ho1.out.lt _ e).2; omega : (Value.slice A1 lb.length c1).ownBlock ≠ some w3.heap.size)
      have hlt1 := hide (fun k hk => (Ho1.out.lt k hk).2 : ∀ k, (Value.slice A1 lb.length c1).ownBlock = some k → k < w3.heap.size)
      have hnb2 := hide (fun e => by have := (Ho2.out.lt _ e).2; omega : (Value.slice A2 l.length c2).ownBlock ≠ some w3.heap.size)
      have l0 := hT3.out.lt
      have l1 := hP3.out.lt
      have l2 := hR3.out.lt
      clear hw3 hT3 hP3 hR3 Ho1 Ho2
      go_upto_region 7 with (fail)
      generalize w3.alloc (.cells #[.int .i64 next, .slice A1 lb.length c1, .slice A2 l.length c2, .int .i64 mark] 25) = w4 at *
      have t0 := hT4.out.cell_some 0 rfl
      have t2 := hT4.out.cell_some 2 rfl
      have t3 := hT4.out.cell_some 3 rfl
      have q0 := hP4.out.cell_some 0 rfl
      have q1 := hP4.out.cell_some 1 rfl
      have oo0 := hO4.out.cell_some 0 rfl
      have oo1 := hO4.out.cell_some 1 rfl
      have oo2 := hO4.out.cell_some 2 rfl
      have oo3 := hO4.out.cell_some 3 rfl
      have n0 : ¬ (w3.heap.size = w.heap.size) := by omega
      have n0' : ¬ (w.heap.size = w3.heap.size) := by omega
      have n1 : ¬ (w3.heap.size = w.heap.size + 1) := by omega
      have n1' : ¬ (w.heap.size + 1 = w3.heap.size) := by omega
      have n2 : ¬ (w3.heap.size = w.heap.size + 2) := by omega
      have n2' : ¬ (w.heap.size + 2 = w3.heap.size) := by omega
      by_cases hm : p1 ≤ mark
      · have hr := hide (hg2.out.trans (if_pos (Or.inl hm)))
        clear hg2
        have r0 := hR4.out.cell_some 0 rfl
        have f0 := hR4.out.frozen 0
        have r1 := hR4.out.cell_some 1 rfl
        have f1 := hR4.out.frozen 1
        have r2 := hR4.out.cell_some 2 rfl
        have f2 := hR4.out.frozen 2
        have r3 := hR4.out.cell_some 3 rfl
        have f3 := hR4.out.frozen 3
        go_wp2
        refine bodyPost_ret (v := .tuple #[.agg #[.int .i64 next, .slice A1 lb.length c1, .slice A2 l.length c2, .int .i64 mark], .int .i64 0]) (by simp [results, Try.results23, go_sem, r0, r1, r2, r3, n2, n2']) rfl ?_
        rw [hr.out]
        refine ⟨A1, c1, A2, c2, rfl, ?_, ?_, ?_⟩
        · refine Own.le (base := w.heap.size + 3) ?_ (by omega)
          iterate 4 (refine Own.setCell_lt ?_ (by dsimp only; omega) _)
          exact Ho1'.out
        · refine Own.le (base := w.heap.size + 3) ?_ (by omega)
          iterate 4 (refine Own.setCell_lt ?_ (by dsimp only; omega) _)
          exact Ho2'.out
        · iterate 4 (refine Below.setCell ?_ (by dsimp only; omega) _)
          exact hw4.out
      · have hm' : mark < p1 := by omega
        have hg3 := hide hg2.out
        clear hg2
        go_wp2_with fail
        refine (containsFuncP_any l (fun x => implies x ⟨p0, p1⟩) 58 _ eg1 S _ _ (HP.out.below hw4.out) (add1_pred ⟨p0, p1⟩ (w.heap.size + 1) _ q0 q1) (by omega)).mono ?_
        rintro e w5 ⟨rfl, hb5⟩
        rw [Han.out]
        have hT5 := hide (hT4.out.below hb5)
        have hP5 := hide (hP4.out.below hb5)
        have hR5 := hide (hR4.out.below hb5)
        have hO5 := hide (hO4.out.below hb5)
        have hw5 := hide (Below.next hw4.out hb5)
        have Ho15 := hide (Ho1'.out.below hb5)
        have Ho25 := hide (Ho2'.out.below hb5)
        clear t0 t2 t3 q0 q1 oo0 oo1 oo2 oo3 hT4 hP4 hR4 hO4 hw4 Ho1' Ho2' hb5
        cases an with
        | true =>
          have hr := hide (hg3.out.trans (if_pos (Or.inr rfl)))
          clear hg3
          have o0 := hO5.out.cell_some 0 rfl
          have o1 := hO5.out.cell_some 1 rfl
          have o2 := hO5.out.cell_some 2 rfl
          have o3 := hO5.out.cell_some 3 rfl
          have r0 := hR5.out.cell_some 0 rfl
          have f0 := hR5.out.frozen 0
          have r1 := hR5.out.cell_some 1 rfl
          have f1 := hR5.out.frozen 1
          have r2 := hR5.out.cell_some 2 rfl
          have f2 := hR5.out.frozen 2
          have r3 := hR5.out.cell_some 3 rfl
          have f3 := hR5.out.frozen 3
          go_wp2
          refine bodyPost_ret (v := .tuple #[.agg #[.int .i64 next, .slice A1 lb.length c1, .slice A2 l.length c2, .int .i64 mark], .int .i64 0]) (by simp [results, Try.results23, go_sem, r0, r1, r2, r3, n2, n2']) rfl ?_
          rw [hr.out]
          refine ⟨A1, c1, A2, c2, rfl, ?_, ?_, ?_⟩
          · refine Own.le (base := w.heap.size + 3) ?_ (by omega)
            iterate 4 (refine Own.setCell_lt ?_ (by dsimp only; omega) _)
            exact Ho15.out
          · refine Own.le (base := w.heap.size + 3) ?_ (by omega)
            iterate 4 (refine Own.setCell_lt ?_ (by dsimp only; omega) _)
            exact Ho25.out
          · iterate 4 (refine Below.setCell ?_ (by dsimp only; omega) _)
            exact hw5.out
        | false =>
          have hg4 := hide (hg3.out.trans (if_neg (by simp; omega)))
          clear hg3
          have t2 := hT5.out.cell_some 2 rfl
          go_wp2_with fail
          refine (filteredP_any l (fun x => !implies ⟨p0, p1⟩ x) 60 _ eg2 S _ _ (HP.out.below hw5.out) (add2_pred ⟨p0, p1⟩ (w.heap.size + 1) _ (hP5.out.cell_some 0 rfl) (hP5.out.cell_some 1 rfl)) (by omega)).mono ?_
          rintro e w6 ⟨A3, c3, rfl, ho3, hb6⟩
          rw [Hf.out] at ho3 ⊢
          have hT6 := hide (hT5.out.below hb6)
          have hP6 := hide (hP5.out.below hb6)
          have hR6 := hide (hR5.out.below hb6)
          have hO6 := hide (hO5.out.below hb6)
          have hw6 := hide (Below.next hw5.out hb6)
          have Ho16 := hide (Ho15.out.below hb6)
          have Ho36 : Hid (Own w6 (w3.heap.size + 1) 27 2 encP (.slice A3 fl.length c3) fl) := ho3.le hO5.out.lt
          clear t2 hT5 hP5 hR5 hO5 hw5 Ho15 Ho25 hb6 ho3
          have hle3 : w.heap.size ≤ w3.heap.size := by omega
          by_cases hp : p0 ≤ next
          · have hr := hide (hg4.out.trans (if_pos hp))
            clear hg4
            have t0 := hT6.out.cell_some 0 rfl
            have q0 := hP6.out.cell_some 0 rfl
            have q1 := hP6.out.cell_some 1 rfl
            have o0 := hO6.out.cell_some 0 rfl
            have o1 := hO6.out.cell_some 1 rfl
            have o2 := hO6.out.cell_some 2 rfl
            have o3 := hO6.out.cell_some 3 rfl
            have g2 := hO6.out.frozen 2
            have g3 := hO6.out.frozen 3
            have r0 := hR6.out.cell_some 0 rfl
            have f0 := hR6.out.frozen 0
            have r1 := hR6.out.cell_some 1 rfl
            have f1 := hR6.out.frozen 1
            have r2 := hR6.out.cell_some 2 rfl
            have f2 := hR6.out.frozen 2
            have r3 := hR6.out.cell_some 3 rfl
            have f3 := hR6.out.frozen 3
            go_wp2
            refine bodyPost_ret (v := .tuple #[.agg #[.int .i64 next, .slice A1 lb.length c1, .slice A3 fl.length c3, .int .i64 p1], .int .i64 0]) (by simp [results, Try.results23, go_sem, r0, r1, r2, r3, n2, n2']) rfl ?_
            rw [hr.out]
            refine ⟨A1, c1, A3, c3, rfl, ?_, ?_, ?_⟩
            · refine Own.le (base := w.heap.size + 3) ?_ (by omega)
              iterate 4 (refine Own.setCell_lt ?_ (by dsimp only; omega) _)
              exact Own.setCell_ne (Own.setCell_ne Ho16.out hnb1.out _) hnb1.out _
            · refine Own.le (base := w3.heap.size + 1) ?_ (by omega)
              iterate 6 (refine Own.setCell_lt ?_ (by dsimp only; omega) _)
              exact Ho36.out
            · iterate 6 (refine Below.setCell ?_ (by dsimp only; omega) _)
              exact hw6.out
          · have hp' : next < p0 := by omega
            have hg5 := hide (hg4.out.trans (if_neg hp))
            clear hg4 hp
            have t0 := hT6.out.cell_some 0 rfl
            have q0 := hP6.out.cell_some 0 rfl
            have o2 := hO6.out.cell_some 2 rfl
            have g2 := hO6.out.frozen 2
            go_upto_region 13 with (fail)
            clear t0 q0 o2 g2
            have n3 : w3.heap.size ≠ w.heap.size + 1 := by omega
            have n4 : w3.heap.size ≠ w.heap.size + 2 := by omega
            have hO7 := hide (hO6.out.set 2 (.slice A3 fl.length c3))
            have hP7 := hide (hP6.out.far (p := ⟨w3.heap.size, 2, none⟩) (fun e => n3 e.symm) (.slice A3 fl.length c3))
            have hR7 := hide (hR6.out.far (p := ⟨w3.heap.size, 2, none⟩) (fun e => n4 e.symm) (.slice A3 fl.length c3))
            have hw7 := hide (hw6.out.setCell (p := ⟨w3.heap.size, 2, none⟩) hle3 (.slice A3 fl.length c3))
            have Ho17 := hide (Own.setCell_ne (p := ⟨w3.heap.size, 2, none⟩) Ho16.out hnb1.out (.slice A3 fl.length c3))
            have Ho37 := hide (Own.setCell_lt (p := ⟨w3.heap.size, 2, none⟩) Ho36.out (Nat.lt_succ_self _) (.slice A3 fl.length c3))
            clear hO6 hP6 hR6 hT6 hw6 Ho16 Ho36 n3 n4
            generalize w6.setCell ⟨w3.heap.size, 2, none⟩ (.slice A3 fl.length c3) = w7 at *
            have q0 := hP7.out.cell_some 0 rfl
            have q1 := hP7.out.cell_some 1 rfl
            have o2 := hO7.out.cell_some 2 rfl
            have hmo := hide (hmono.out hq0'.out trivial)
            clear hmono
            obtain ⟨found, hfound⟩ : ∃ found : Bool, found = if h : below fl p0 < fl.length then decide (wrap64 (fl[below fl p0].seq - p0) = 0) else false := ⟨_, rfl⟩
            have hfH := hide hfound
            clear hfound
            have hml := below_le fl p0
            generalize hmm : below fl p0 = m at *
            have Hmm := hide hmm
            clear hmm
            have hf1 := hfl.out
            go_wp2_with fail
            refine (bsearchP_any fl ⟨p0, p1⟩ (fun x => wrap64 (x.seq - p0)) m found 62 #[] eg3 (fun _ => True) _ _ (Ho37.out.sl eok_pts (fun _ _ => trivial)) (add3_cmp ⟨p0, p1⟩ _) (by omega) hml hmo.out hfH.out).mono ?_
            rintro e w8 ⟨rfl, hb8⟩
            have hO8 := hide (hO7.out.below hb8)
            have hP8 := hide (hP7.out.below hb8)
            have hR8 := hide (hR7.out.below hb8)
            have hw8 := hide (Below.next hw7.out hb8)
            have Ho18 := hide (Ho17.out.below hb8)
            have Ho38 := hide (Ho37.out.below hb8)
            clear q0 q1 o2 hO7 hP7 hR7 hw7 Ho17 Ho37 hb8 hfH hmo
            have q0 := hP8.out.cell_some 0 rfl
            have q1 := hP8.out.cell_some 1 rfl
            have o2 := hO8.out.cell_some 2 rfl
            go_wp2_with fail
            have Ho3a := hide (Ho38.out.below ((Below.refl _ _).alloc (Nat.le_refl _) (.cells #[.int .i64 p0, .int .i64 p1] 27)))
            have hnb3 := hide (fun e => by have := (Ho38.out.lt _ e).2; omega : (Value.slice A3 fl.length c3).ownBlock ≠ some w8.heap.size)
            have hlO8 := hO8.out.lt
            refine (insertP_any fl ⟨p0, p1⟩ m (w3.heap.size + 1) A3 c3 w8.heap.size _ Ho3a.out (Blk.new w8 _ _) hnb3.out hml (by omega) (by simp; omega)).mono ?_
            rintro e w9 ⟨A4, c4, rfl, ho4, hg4⟩
            have hlen4 : (fl.take m ++ ⟨p0, p1⟩ :: fl.drop m).length = fl.length + 1 := by simp; omega
            have hlenH := hide hlen4
            clear hlen4
            generalize (fl.take m ++ ⟨p0, p1⟩ :: fl.drop m) = L4 at *
            have hnbO := hide (fun e => by have := (Ho38.out.lt _ e.symm).1; omega : some w3.heap.size ≠ (Value.slice A3 fl.length c3).ownBlock)
            have hnbR := hide (fun e => by have := (Ho38.out.lt _ e.symm).1; omega : some (w.heap.size + 2) ≠ (Value.slice A3 fl.length c3).ownBlock)
            have hO9 := hide ((hO8.out.alloc (.cells #[.int .i64 p0, .int .i64 p1] 27)).grown hg4 hnbO.out)
            have hR9 := hide ((hR8.out.alloc (.cells #[.int .i64 p0, .int .i64 p1] 27)).grown hg4 hnbR.out)
            have Ho19 := hide (Own.kept (Ho18.out.below ((Below.refl _ _).alloc (Nat.le_refl _) (.cells #[.int .i64 p0, .int .i64 p1] 27))) hg4 (by
              cases h : (Value.slice A1 lb.length c1).ownBlock with
              | none => exact Or.inl rfl
              | some k =>
                right
                intro e
                have h1 := hlt1.out k h
                have h2 := (Ho38.out.lt k e.symm).1
                omega))
            have hw9 := hide (Ho3a.out.grown (hw8.out.alloc hw8.out.size _) (by omega) (by have := hw8.out.size; simp; omega) hg4)
            have Ho49 := hide ho4
            clear q0 q1 o2 ho4 hg4 hnbO hnbR hO8 hP8 hR8 hw8 Ho18 Ho38 Ho3a hnb3
            have o2 := hO9.out.cell_some 2 rfl
            have g2 := hO9.out.frozen 2
            go_upto_region 15 with (fail)
            clear o2 g2
            have hO10 := hide (hO9.out.set 2 (.slice A4 L4.length c4))
            have hR10 := hide (hR9.out.far (p := ⟨w3.heap.size, 2, none⟩) (by dsimp only; omega) (.slice A4 L4.length c4))
            have hw10 := hide (hw9.out.setCell (p := ⟨w3.heap.size, 2, none⟩) hle3 (.slice A4 L4.length c4))
            have Ho110 := hide (Own.setCell_ne (p := ⟨w3.heap.size, 2, none⟩) Ho19.out hnb1.out (.slice A4 L4.length c4))
            have Ho410 := hide (Own.setCell_lt (p := ⟨w3.heap.size, 2, none⟩) Ho49.out (Nat.lt_succ_self _) (.slice A4 L4.length c4))
            clear hO9 hR9 hw9 Ho19 Ho49
            generalize w9.setCell ⟨w3.heap.size, 2, none⟩ (.slice A4 L4.length c4) = w10 at *
            have o0 := hO10.out.cell_some 0 rfl
            have o1 := hO10.out.cell_some 1 rfl
            have o2 := hO10.out.cell_some 2 rfl
            have o3 := hO10.out.cell_some 3 rfl
            have r0 := hR10.out.cell_some 0 rfl
            have f0 := hR10.out.frozen 0
            have r1 := hR10.out.cell_some 1 rfl
            have f1 := hR10.out.frozen 1
            have r2 := hR10.out.cell_some 2 rfl
            have f2 := hR10.out.frozen 2
            have r3 := hR10.out.cell_some 3 rfl
            have f3 := hR10.out.frozen 3
            by_cases hbig : 256 < fl.length + 1
            · have hr := hide (hg5.out.trans (if_pos hbig))
              have hb' : (256 : Int) < (L4.length : Int) := by rw [hlenH.out]; omega
              clear hg5
              go_wp2
              refine bodyPost_ret (v := .tuple #[.agg #[.int .i64 0, .slice none 0 0, .slice none 0 0, .int .i64 0], .int .i64 5]) (by simp [results, Try.results23, go_sem, r0, r1, r2, r3, n2, n2']) rfl ?_
              rw [hr.out]
              refine ⟨none, 0, none, 0, rfl, Own.nil_, Own.nil_, ?_⟩
              iterate 4 (refine Below.setCell ?_ (by dsimp only; omega) _)
              exact hw10.out
            · have hr := hide (hg5.out.trans (if_neg hbig))
              have hb' : (L4.length : Int) ≤ (256 : Int) := by rw [hlenH.out]; omega
              clear hg5
              go_wp2
              refine bodyPost_ret (v := .tuple #[.agg #[.int .i64 next, .slice A1 lb.length c1, .slice A4 L4.length c4, .int .i64 mark], .int .i64 0]) (by simp [results, Try.results23, go_sem, r0, r1, r2, r3, n2, n2']) rfl ?_
              rw [hr.out]
              refine ⟨A1, c1, A4, c4, rfl, ?_, ?_, ?_⟩
              · refine Own.le (base := w.heap.size + 3) ?_ (by omega)
                iterate 4 (refine Own.setCell_lt ?_ (by dsimp only; omega) _)
                exact Ho110.out
              · refine Own.le (base := w3.heap.size + 1) ?_ (by omega)
                iterate 4 (refine Own.setCell_lt ?_ (by dsimp only; omega) _)
                exact Ho410.out
              · iterate 4 (refine Below.setCell ?_ (by dsimp only; omega) _)
                exact hw10.out
  · have hne : (q != 0) = true := by simp [hq0]
    have hr := hide (hgoal.out.trans (if_pos hq0))
    clear hgoal hq0
    have r0 := hR1.out.cell_some 0 rfl
    have r1 := hR1.out.cell_some 1 rfl
    have r2 := hR1.out.cell_some 2 rfl
    have r3 := hR1.out.cell_some 3 rfl
    have f0 := hR1.out.frozen 0
    have f1 := hR1.out.frozen 1
    have f2 := hR1.out.frozen 2
    have f3 := hR1.out.frozen 3
    go_wp2
    refine bodyPost_ret (v := .tuple #[.agg #[.int .i64 0, .slice none 0 0, .slice none 0 0, .int .i64 0], .int .i64 q]) (by simp [results, Try.results23, go_sem, r0, r1, r2, r3]) rfl ?_
    rw [hr.out]
    refine ⟨none, 0, none, 0, rfl, Own.nil_, Own.nil_, ?_⟩
    iterate 4 (refine Below.setCell ?_ (by dsimp only; omega) _)
    exact hw1.out

end Go.Proofs.Ythhnhajldhnfmaa
