/- The walks of layer 35, fourteenth part: the law's awake. -/
import Derived.Test.YthhnhajldhnfmaaPunK
import Derived.Test.YthhnhajldhnfmaaPunG
set_option linter.unusedVariables false
set_option linter.unusedSimpArgs false
namespace Go.Proofs.Ythhnhajldhnfmaa
open Go.RowKit

theorem pts_blk {w : World} {g : Nat} (l : List Pt) (h : Blk w g 27 (l.flatMap encP).toArray) (hm : l.length ≤ maxLen) : Pts w (fun _ => True) (.slice (some ⟨g, 0, none⟩) l.length l.length) l := by
  have hl := flatMap_len (enc := encP) (sz := 2) (fun _ => rfl) l
  exact Own.sl (base := g) (Own.of_blk h (Nat.le_refl _) (Nat.le_refl _) hm hl (by rw [← hl, List.take_length]) (fun _ => rfl)) eok_pts (fun _ _ => trivial)
theorem TrkC.below {w w' : World} {S : Nat → Prop} {vb vp : Value} {t : Trk} (h : TrkC w S vb vp t) (hb : Below w.heap.size w w') : TrkC w' S vb vp t := ⟨h.1.below hb, h.2.below hb⟩
theorem TrkC.all {w : World} {S : Nat → Prop} {vb vp : Value} {t : Trk} (h : TrkC w S vb vp t) : TrkC w (fun _ => True) vb vp t := ⟨h.1.weaken fun _ _ => trivial, h.2.weaken fun _ _ => trivial⟩
theorem trkC_zero (w : World) (n m : Int) : TrkC w (fun _ => True) (.slice none 0 0) (.slice none 0 0) ⟨n, [], [], m⟩ := ⟨Sl.nil_, Sl.nil_⟩

set_option maxRecDepth 100000 in
set_option maxHeartbeats 3200000 in
theorem awake_any (w : World) :
    Calls Try.prog 16 #[] w fun e w' => e = .returned (.bool true) ∧ Below w.heap.size w w' := by
  go_enter Try.func16, Try.ntmps16
  go_wp2_with fail
  have c1 := withL_any ⟨2, [], [], -1⟩ [⟨2, 5⟩, ⟨4, 9⟩, ⟨6, 8⟩] (fun _ => True) (fun _ => True) _ _ (w.alloc (.cells #[.int .i64 2, .int .i64 5, .int .i64 4, .int .i64 9, .int .i64 6, .int .i64 8] 27)) ⟨_, _, rfl, trkC_zero _ 2 (-1)⟩ (pts_blk _ (Blk.new w _ _) (by decide)) (by simp) (by simp)
  rw [ev1] at c1
  refine Calls.mono c1 ?_
  clear c1
  rintro e w1 ⟨Ab, cb, A, c, rfl, hC, hb1⟩
  simp only [List.length_nil, List.length_cons, Nat.zero_add] at hC ⊢
  have hw1 : Hid (Below w.heap.size w w1) := Below.next ((Below.refl _ _).alloc (Nat.le_refl _) _) hb1
  have hC1 := hide hC.all
  clear hb1 hC
  obtain ⟨A', c', e', _, hx⟩ := pts_form hC1.out.2
  obtain ⟨b, off, rfl, hbl, hx0, hx1⟩ := hx 0 (by simp)
  simp only [List.length_cons, List.length_nil, Nat.zero_add, Value.slice.injEq, true_and] at e'
  obtain ⟨rfl, rfl⟩ := e'
  dsimp only [List.getElem_cons_zero] at hx0 hx1
  clear hx
  have hG2 := hide (Blk.new w1 25 #[.int .i64 2, .slice Ab 0 cb, .slice (some ⟨b, off, none⟩) 1 c, .int .i64 5])
  have hC2 := hide (hC1.out.below ((Below.refl _ _).alloc (Nat.le_refl _) (.cells #[.int .i64 2, .slice Ab 0 cb, .slice (some ⟨b, off, none⟩) 1 c, .int .i64 5] 25)))
  have hw2 := hide (hw1.out.alloc hw1.out.size (.cells #[.int .i64 2, .slice Ab 0 cb, .slice (some ⟨b, off, none⟩) 1 c, .int .i64 5] 25))
  have l1 := hw1.out.size
  clear hw1 hC1
  go_upto_region 2 with (fail)
  have x20 := cell_later ((Below.refl _ _).alloc (Nat.le_refl _) (.cells #[.int .i64 2, .slice Ab 0 cb, .slice (some ⟨b, off, none⟩) 1 c, .int .i64 5] 25)) hx0
  have x21 := cell_later ((Below.refl _ _).alloc (Nat.le_refl _) (.cells #[.int .i64 2, .slice Ab 0 cb, .slice (some ⟨b, off, none⟩) 1 c, .int .i64 5] 25)) hx1
  simp only [Nat.zero_mul, Nat.add_zero] at x20 x21
  have z1 := hG2.out.lt
  clear hx0 hx1 hbl
  generalize w1.alloc (.cells #[.int .i64 2, .slice Ab 0 cb, .slice (some ⟨b, off, none⟩) 1 c, .int .i64 5] 25) = w2 at *
  generalize w1.heap.size = g1 at *
  have q0 := hG2.out.cell_some 0 rfl
  have q1 := hG2.out.cell_some 1 rfl
  have q2 := hG2.out.cell_some 2 rfl
  have q3 := hG2.out.cell_some 3 rfl
  go_wp2_with fail
  have c1 := allowed_any ⟨2, [], [⟨4, 9⟩], 5⟩ 3 6 (fun _ => True) _ w2 ⟨_, _, rfl, hC2.out⟩ (by simp) (by simp)
  rw [ev2] at c1
  refine Calls.mono c1 ?_
  clear c1
  rintro e w3 ⟨rfl, hb1⟩
  have hw3 := hide (Below.next hw2.out hb1)
  have hG3 := hide (hG2.out.below hb1)
  have hC3 := hide (hC2.out.below hb1)
  have x30 := cell_later hb1 x20
  have x31 := cell_later hb1 x21
  clear q0 q1 q2 q3 hw2 hG2 hC2 x20 x21 hb1 z1
  have z1 := hG3.out.lt
  have q0 := hG3.out.cell_some 0 rfl
  have q1 := hG3.out.cell_some 1 rfl
  have q2 := hG3.out.cell_some 2 rfl
  have q3 := hG3.out.cell_some 3 rfl
  go_wp2_with fail
  have c1 := allowed_any ⟨2, [], [⟨4, 9⟩], 5⟩ 4 9 (fun _ => True) _ w3 ⟨_, _, rfl, hC3.out⟩ (by simp) (by simp)
  rw [ev3] at c1
  refine Calls.mono c1 ?_
  clear c1
  rintro e w4 ⟨rfl, hb1⟩
  have hw4 := hide (Below.next hw3.out hb1)
  have hG4 := hide (hG3.out.below hb1)
  have hC4 := hide (hC3.out.below hb1)
  have x40 := cell_later hb1 x30
  have x41 := cell_later hb1 x31
  clear q0 q1 q2 q3 hw3 hG3 hC3 x30 x31 hb1 z1
  have z1 := hG4.out.lt
  have q0 := hG4.out.cell_some 0 rfl
  have q1 := hG4.out.cell_some 1 rfl
  have q2 := hG4.out.cell_some 2 rfl
  have q3 := hG4.out.cell_some 3 rfl
  go_wp2_with fail
  have c1 := allowed_any ⟨2, [], [⟨4, 9⟩], 5⟩ 3 5 (fun _ => True) _ w4 ⟨_, _, rfl, hC4.out⟩ (by simp) (by simp)
  rw [ev4] at c1
  refine Calls.mono c1 ?_
  clear c1
  rintro e w5 ⟨rfl, hb1⟩
  have hw5 := hide (Below.next hw4.out hb1)
  have hG5 := hide (hG4.out.below hb1)
  have hC5 := hide (hC4.out.below hb1)
  have x50 := cell_later hb1 x40
  have x51 := cell_later hb1 x41
  clear q0 q1 q2 q3 hw4 hG4 hC4 x40 x41 hb1 z1
  have z1 := hG5.out.lt
  have q0 := hG5.out.cell_some 0 rfl
  have q1 := hG5.out.cell_some 1 rfl
  have q2 := hG5.out.cell_some 2 rfl
  have q3 := hG5.out.cell_some 3 rfl
  go_upto_region 6 with (fail)
  have hal : Below w5.heap.size w5 (w5.alloc (.cells #[.int .i64 4, .slice Ab 0 cb, .slice (some ⟨b, off, none⟩) 1 c, .int .i64 5] 25)) := (Below.refl _ _).alloc (Nat.le_refl _) _
  go_wp2_with fail
  have c1 := settle_any ⟨4, [], [⟨4, 9⟩], 5⟩ (fun _ => True) _ (w5.alloc (.cells #[.int .i64 4, .slice Ab 0 cb, .slice (some ⟨b, off, none⟩) 1 c, .int .i64 5] 25)) ⟨_, _, rfl, hC5.out.below hal⟩ (by simp) (by simp)
  rw [ev5] at c1
  refine Calls.mono c1 ?_
  clear c1
  rintro e w7 ⟨As, cs, As2, cs2, rfl, ho1, ho2, hb1⟩
  simp only [List.length_nil] at ho1 ho2 ⊢
  have hb2 : Below w5.heap.size w5 w7 := Below.next hal hb1
  have hw7 := hide (Below.next hw5.out hb2)
  have hG7 := hide (hG5.out.below hb2)
  have hC7 := hide (hC5.out.below hb2)
  clear q0 q1 q2 q3 hw5 hG5 hC5 x50 x51 hb1 hb2 hal ho1 ho2 z1
  have z1 := hG7.out.lt
  have hal : Below w7.heap.size w7 (w7.alloc (.cells #[.int .i64 4, .slice As 0 cs, .slice As2 0 cs2, .int .i64 9] 25)) := (Below.refl _ _).alloc (Nat.le_refl _) _
  have hw8 := hide (Below.next hw7.out hal)
  have hG8 := hide (hG7.out.below hal)
  have hC8 := hide (hC7.out.below hal)
  have hF8 := hide (Blk.new w7 25 #[.int .i64 4, .slice As 0 cs, .slice As2 0 cs2, .int .i64 9])
  clear hw7 hG7 hC7 hal
  go_upto_region 7 with (fail)
  generalize w7.alloc (.cells #[.int .i64 4, .slice As 0 cs, .slice As2 0 cs2, .int .i64 9] 25) = w8 at *
  generalize w7.heap.size = g4 at *
  have q0 := hG8.out.cell_some 0 rfl
  have q1 := hG8.out.cell_some 1 rfl
  have q2 := hG8.out.cell_some 2 rfl
  have q3 := hG8.out.cell_some 3 rfl
  have hal : Below w8.heap.size w8 (w8.alloc (.cells #[.int .i64 3, .int .i64 7] 27)) := (Below.refl _ _).alloc (Nat.le_refl _) _
  go_wp2_with fail
  have c1 := withL_any ⟨2, [], [⟨4, 9⟩], 5⟩ [⟨3, 7⟩] (fun _ => True) (fun _ => True) _ _ (w8.alloc (.cells #[.int .i64 3, .int .i64 7] 27)) ⟨_, _, rfl, hC8.out.below hal⟩ (pts_blk _ (Blk.new w8 _ _) (by decide)) (by simp) (by simp)
  rw [ev6] at c1
  refine Calls.mono c1 ?_
  clear c1
  rintro e w9 ⟨Ac, cc, A, ca, rfl, hC, hb1⟩
  simp only [List.length_nil, List.length_cons, Nat.zero_add] at hC ⊢
  have hb2 : Below w8.heap.size w8 w9 := Below.next hal hb1
  have hw9 := hide (Below.next hw8.out hb2)
  have hF9 := hide (hF8.out.below hb2)
  have hD9 := hide hC.all
  clear hb1 hb2 hC hal q0 q1 q2 q3 hw8 hG8 hC8 hF8
  obtain ⟨A', c', e', _, hx⟩ := pts_form hD9.out.2
  obtain ⟨b6, off6, rfl, hbl, hx0, hx1⟩ := hx 0 (by simp)
  simp only [List.length_cons, List.length_nil, Nat.zero_add, Value.slice.injEq, true_and] at e'
  obtain ⟨rfl, rfl⟩ := e'
  dsimp only [List.getElem_cons_zero] at hx0 hx1
  clear hx hx0
  have hal : Below w9.heap.size w9 (w9.alloc (.cells #[.int .i64 2, .slice Ac 0 cc, .slice (some ⟨b6, off6, none⟩) 2 ca, .int .i64 5] 25)) := (Below.refl _ _).alloc (Nat.le_refl _) _
  have hw10 := hide (Below.next hw9.out hal)
  have hF10 := hide (hF9.out.below hal)
  have hD10 := hide (hD9.out.below hal)
  have hG10 := hide (Blk.new w9 25 #[.int .i64 2, .slice Ac 0 cc, .slice (some ⟨b6, off6, none⟩) 2 ca, .int .i64 5])
  have y10 := cell_later hal hx1
  simp only [Nat.zero_mul, Nat.add_zero] at y10
  clear hw9 hF9 hD9 hx1 hal hbl
  go_upto_region 8 with (fail)
  generalize w9.alloc (.cells #[.int .i64 2, .slice Ac 0 cc, .slice (some ⟨b6, off6, none⟩) 2 ca, .int .i64 5] 25) = w10 at *
  generalize w9.heap.size = g6 at *
  have q0 := hG10.out.cell_some 0 rfl
  have q1 := hG10.out.cell_some 1 rfl
  have q2 := hG10.out.cell_some 2 rfl
  have q3 := hG10.out.cell_some 3 rfl
  have hal : Below w10.heap.size w10 (w10.alloc (.cells #[.int .i64 3, .int .i64 10] 27)) := (Below.refl _ _).alloc (Nat.le_refl _) _
  go_wp2_with fail
  have c1 := withL_any ⟨2, [], [⟨3, 7⟩, ⟨4, 9⟩], 5⟩ [⟨3, 10⟩] (fun _ => True) (fun _ => True) _ _ (w10.alloc (.cells #[.int .i64 3, .int .i64 10] 27)) ⟨_, _, rfl, hD10.out.below hal⟩ (pts_blk _ (Blk.new w10 _ _) (by decide)) (by simp) (by simp)
  rw [ev7] at c1
  refine Calls.mono c1 ?_
  clear c1
  rintro e w11 ⟨Ad, cd, A, ce, rfl, hC, hb1⟩
  simp only [List.length_nil, List.length_cons, Nat.zero_add] at hC ⊢
  have hb2 : Below w10.heap.size w10 w11 := Below.next hal hb1
  have hw11 := hide (Below.next hw10.out hb2)
  have hF11 := hide (hF10.out.below hb2)
  have hG11 := hide (hG10.out.below hb2)
  have y11 := cell_later hb2 y10
  have hD11 := hide hC.all
  clear hb1 hb2 hC hal q0 q1 q2 q3 hw10 hG10 hD10 hF10 y10
  obtain ⟨A', c', e', _, hx⟩ := pts_form hD11.out.2
  obtain ⟨b7, off7, rfl, hbl, hx0, hx1⟩ := hx 0 (by simp)
  simp only [List.length_cons, List.length_nil, Nat.zero_add, Value.slice.injEq, true_and] at e'
  obtain ⟨rfl, rfl⟩ := e'
  dsimp only [List.getElem_cons_zero] at hx0 hx1
  clear hx hx0
  have hal : Below w11.heap.size w11 (w11.alloc (.cells #[.int .i64 2, .slice Ad 0 cd, .slice (some ⟨b7, off7, none⟩) 1 ce, .int .i64 5] 25)) := (Below.refl _ _).alloc (Nat.le_refl _) _
  have hw12 := hide (Below.next hw11.out hal)
  have hF12 := hide (hF11.out.below hal)
  have hG12 := hide (hG11.out.below hal)
  have hH12 := hide (Blk.new w11 25 #[.int .i64 2, .slice Ad 0 cd, .slice (some ⟨b7, off7, none⟩) 1 ce, .int .i64 5])
  have y12 := cell_later hal y11
  have z12 := cell_later hal hx1
  simp only [Nat.zero_mul, Nat.add_zero] at z12
  clear hw11 hF11 hG11 hD11 hx1 hal hbl y11
  go_upto_region 9 with (fail)
  generalize w11.alloc (.cells #[.int .i64 2, .slice Ad 0 cd, .slice (some ⟨b7, off7, none⟩) 1 ce, .int .i64 5] 25) = w12 at *
  generalize w11.heap.size = g7 at *
  have a2 := hF12.out.cell_some 2 rfl
  have a3 := hF12.out.cell_some 3 rfl
  have b2 := hG12.out.cell_some 2 rfl
  have c2 := hH12.out.cell_some 2 rfl
  go_wp2
  exact bodyPost_ret (v := .bool true) (by simp [results, Try.results16, go_sem]) rfl ⟨rfl, hw12.out⟩
end Go.Proofs.Ythhnhajldhnfmaa
