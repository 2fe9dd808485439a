/- Go's library, walked: what the slices functions that the layers use hand back. Printed by gen_lib.py. -/
import Derived.Test.YthhnhajldhnfmaaSeqB
set_option linter.unusedVariables false
set_option linter.unusedSimpArgs false
namespace Go.Proofs.Ythhnhajldhnfmaa
open Go.RowKit

set_option maxRecDepth 100000 in
set_option maxHeartbeats 1600000 in
theorem insertP_any (l : List Pt) (x : Pt) (i : Nat) (base : Nat) (A : Option Addr) (c g : Nat) (w : World) (ho : Own w base 27 2 encP (.slice A l.length c) l)
    (hx : Blk w g 27 (encP x).toArray) (hne : (Value.slice A l.length c).ownBlock ≠ some g) (hi : i ≤ l.length) (hl : l.length ≤ 1000000000) (hbase : base ≤ w.heap.size) :
    Calls Try.prog 63 #[.slice A l.length c, .int .i64 i, .slice (some ⟨g, 0, none⟩) 1 1] w (RetIns 27 2 encP base (.slice A l.length c) (l.take i ++ x :: l.drop i) w) := by
  have hlen : (l.take i ++ x :: l.drop i).length = l.length + 1 := by simp; omega
  have hxl : (encP x).length = 2 := rfl
  by_cases hin : i = l.length
  · subst hin
    have hsl : Hid (Sl w (fun _ => True) 2 encP (.slice (some ⟨g, 0, none⟩) 1 1) [x]) := Sl.one_ (Nat.le_refl _) hx.lt trivial (fun j u hu => by rw [hx.cell]; simpa using hu)
    have H := hide ho
    have hll : Hid (l.take l.length ++ x :: l.drop l.length = l ++ [x]) := by simp [Hid]
    have hc : l.length ≤ c := by obtain ⟨_, _, he, h1, _⟩ := ho.val; injection he with _ _ hc; omega
    rw [hll.out]
    clear ho hx hne hlen
    go_enter Try.func63, Try.ntmps63
    go_wp2_with (at_builtin; refine wpList_append_sl (v := .slice A l.length c) rfl _ _ rfl eok_pts rfl H.out rfl hsl.out (by simp; omega) (by omega) hbase ?_; intro A2 c2 w2 ho2 hg2 _)
    all_goals (go_ret; exact ⟨A2, c2, by simp, ho2, by cases A <;> exact hg2⟩)
  · rcases ho.2 with ⟨hv, h0⟩ | ⟨g', cap, cur, hv, hbg, hh, hnc, hcm, hcs, htake⟩
    · omega
    injection hv with hA _ hcc
    subst hA
    subst hcc
    have hgg : g' ≠ g := fun e => hne (by simp [Value.ownBlock, e])
    have hlt : i < l.length := by omega
    have hF1 : ((l.take i).flatMap encP).length = i * 2 := by rw [flatMap_len (sz := 2) (fun _ => rfl)]; simp; omega
    have hF2 : ((l.drop i).flatMap encP).length = (l.length - i) * 2 := by rw [flatMap_len (sz := 2) (fun _ => rfl)]; simp
    have hF12 : (l.take i).flatMap encP ++ (l.drop i).flatMap encP = l.flatMap encP := by rw [← List.flatMap_append, List.take_append_drop]
    have hres : (l.take i ++ x :: l.drop i).flatMap encP = (l.take i).flatMap encP ++ encP x ++ (l.drop i).flatMap encP := by simp [List.flatMap_append, List.flatMap_cons]
    have h2 := flatMap_one eok_pts.one (l.drop i)
    have hX1 := eok_pts.one x
    have hcur : cur.toList = (l.take i).flatMap encP ++ (l.drop i).flatMap encP ++ cur.toList.drop (l.length * 2) := by rw [hF12, ← htake, List.take_append_drop]
    generalize hf1 : (l.take i).flatMap encP = F1 at *
    generalize hf2 : (l.drop i).flatMap encP = F2 at *
    generalize hX : encP x = X at *
    have hRl : (cur.toList.drop (l.length * 2)).length = c * 2 - l.length * 2 := by simp [hcs]
    generalize cur.toList.drop (l.length * 2) = R at *
    obtain ⟨cur⟩ := cur
    simp only at hcur
    subst hcur
    generalize hn : l.length = n at *
    by_cases hroom : n + 1 ≤ c
    · have hhi : (i : Int) < (n : Int) := by omega
      have hB0 : Blk w g' 27 (F1 ++ F2 ++ R).toArray := hh
      have hov : ∀ lb cb, (callFunc 86 #[.slice (some ⟨g, 0, none⟩) 1 1, .slice (some ⟨g', (i + 1) * 2, none⟩) lb cb]).run Try.prog w = .ok (.value (.bool false)) w := fun lb cb => by
        rw [run_callFunc_extern Try.func86 (by kernel_rfl) (by kernel_rfl) (by kernel_rfl) (e := Extern.SlicesOverlaps.overlaps #[23, 23] #[4]) (by kernel_rfl),
          Lib.run_overlaps_apart w 23 4 27 Try.underlying23 2 (fun _ => by kernel_rfl) ⟨g, 0, none⟩ ⟨g', (i + 1) * 2, none⟩ 1 1 lb cb (fun e => hgg e.symm) 27 27 X.toArray.size (F1 ++ F2 ++ R).toArray.size (hx.shape) (hB0.shape) (by rw [List.size_toArray, List.length_append, List.length_append]; omega) (hx.frozen _) (hx.frozen _)]
        rfl
      have hBH := hide hB0
      have hxH := hide hx
      have hdl : Hid (F2.length = Nat.min (n + 1 - i) (n - i) * 2) := by unfold Hid; rw [show Nat.min (n + 1 - i) (n - i) = n - i from Nat.min_eq_right (by omega)]; exact hF2
      have hsrc : Hid (∀ (W : World), W.heap = w.heap → ∀ j u, F2[j]? = some u → W.cell? ((⟨g', i * 2, none⟩ : Addr).add j) = some u) := fun W hW j u hu => by
        have e : Blk W g' 27 (F1 ++ F2 ++ R).toArray := by unfold Blk; rw [hW]; exact hB0
        rw [Addr.add_lit, e.cell]
        have hj := (List.getElem?_eq_some_iff.1 hu).1
        simp only [List.getElem?_toArray]
        rw [List.append_assoc, List.getElem?_append_right (by omega), List.getElem?_append_left (by omega), show i * 2 + j - F1.length = j by omega]
        exact hu
      have hHx := hide h2
      have HL := hide (And.intro hlen (And.intro hres (And.intro hbg hcs)))
      have hxl := hide hxl
      clear hx hB0 hh htake hne hF12 hcs ho h2 hlen hres
      go_enter Try.func63, Try.ntmps63
      go_wp2_with fail
      have hw1 : IntKind.i64.wrap ((i : Int) + 1) = (i : Int) + 1 := by rw [IntKind.wrap_i64]; omega
      have hb1 : (0 : Int) ≤ (i : Int) + 1 := by omega
      have hii : i ≤ n := by omega
      have htn : ((i : Int) + 1).toNat = i + 1 := by omega
      have hb2 : ¬ (c = i + 1) := by omega
      have hb3 : (i : Int) ≤ (n : Int) + 1 := by omega
      have hb4 : ¬ (c = i) := by omega
      go_region_law (refine step_copy_blk rfl _ _ 23 23 rfl 27 2 Try.underlying23 (by kernel_rfl) g' ((i + 1) * 2) (n - i) (c - (i + 1)) (n + 1 - i) (c - i) ⟨g', i * 2, none⟩ (by simp [Act.eval, Act.put]) (by simp [Act.eval, Act.put]) 27 (F1 ++ F2 ++ R) hBH.out F2 hdl.out (hsrc.out _ rfl) (by simp; omega) hHx.out ?_; intro w1 hB1 hg1)
      clear hw1 hb1 htn hb2
      have hB1' : Hid (Blk w1 g' 27 ((F1 ++ F2 ++ R).take (i * 2 + 2) ++ F2 ++ (F1 ++ F2 ++ R).drop (i * 2 + 2 + F2.length)).toArray) := by
        have e : (i + 1) * 2 = i * 2 + 2 := by omega
        rw [e] at hB1
        exact hB1
      have hX2 : Hid (∀ j u, X[j]? = some u → w1.cell? ((⟨g, 0, none⟩ : Addr).add j) = some u) := fun j u hu => by
        have e : Blk w1 g 27 X.toArray := Blk.grown (w := w.drew) hxH.out hg1 (by simp; omega)
        rw [Addr.add_lit, e.cell]
        simpa using hu
      have hg1' := hide (grownBy_drew_then hg1)
      have hX1' := hide hX1
      clear hB1 hg1 hX1
      go_wp2_with (refine wpList_copy_blk rfl (.tmp 80) (.tmp 81) 23 23 rfl 27 2 Try.underlying23 (by kernel_rfl) g' (i * 2) (n + 1 - i) (c - i) 1 1 ⟨g, 0, none⟩ rfl rfl 27 _ hB1'.out X (by rw [show Nat.min 1 (n + 1 - i) = 1 from Nat.min_eq_left (by omega)]; exact hxl.out) hX2.out (by have := hxl.out; have := hRl; simp; omega) hX1'.out ?_; intro w2 hB2 hg2)
      go_ret
      have hfin := HL.out
      refine ⟨some ⟨g', 0, none⟩, c, by show Ending.returned (.slice (some ⟨g', 0, none⟩) (n + 1) c) = _; rw [hfin.1], Own.of_blk hB2 hfin.2.2.1 (by rw [hfin.1]; exact hroom) hcm (by have := hxl.out; have := hRl; simp; omega) ?_ (fun _ => rfl), grownBy_trans hg1'.out hg2⟩
      rw [hfin.1, hfin.2.1, ← insert_in_place F1 F2 R X (i * 2) 2 ((n - i) * 2) hF1 hF2 hxl.out (by omega)]
      congr 1
      omega
    · have hB0 : Blk w g' 27 (F1 ++ F2 ++ R).toArray := hh
      obtain ⟨i0, z, hi0, hz0, hzs, hzb, hzc⟩ := eok_pts.inf
      have hik : i + (n + 1 - i) = n + 1 := by omega
      have hkk : (n : Int) + 1 - (i : Int) = ((n + 1 - i : Nat) : Int) := by omega
      have hgw : g' < w.heap.size := hB0.lt
      have hgx : g < w.heap.size := hx.lt
      have hold : (Builtin.firstCells i0.size i (.slice (some ⟨g', 0, none⟩) i c)).run Try.prog w.drew = .ok F1.toArray w.drew := by
        rw [hzs]
        refine run_firstCells_some w.drew 2 i ⟨g', 0, none⟩ i c F1 hF1 (fun j v hj => ?_)
        have hjl := (List.getElem?_eq_some_iff.1 hj).1
        rw [Addr.add_lit]
        refine (hB0.cell _).trans ?_
        simp only [List.getElem?_toArray, Nat.zero_add]
        rw [List.append_assoc, List.getElem?_append_left (by omega)]
        exact hj
      have hrz := fun ty => Lib.run_append_grow_zeros w 23 3 ty 27 i0 z .i64 .i64 eok_pts.und Try.underlying3 hi0 hz0 (some ⟨g', 0, none⟩) i c F1 hold (n + 1 - i) (by omega) (by omega) (by omega) (by omega) (by rw [hzb]; omega) (by rw [hzb, hik]; exact growslice_fits (by omega) (by omega))
      rw [hik] at hrz
      obtain ⟨G, hG⟩ : ∃ G, G = grownCap w (n + 1) c 27 := ⟨_, rfl⟩
      rw [← hG] at hrz
      have hGn : n + 1 ≤ G := by rw [hG]; exact grownCap_ge w _ _ _
      have hG63 : G ≤ maxLen := by rw [hG]; exact grownCap_le_maxLen w (n + 1) c 27 (by unfold maxLen; omega)
      obtain ⟨Z, hZ, hZl⟩ : ∃ Z : List Value, F1.toArray ++ Builtin.zeroCells z.cells (n + 1 - i) ++ Builtin.zeroCells z.cells (G - (n + 1)) = (F1 ++ Z).toArray ∧ Z.length = (G - i) * 2 :=
        ⟨(Builtin.zeroCells z.cells (n + 1 - i)).toList ++ (Builtin.zeroCells z.cells (G - (n + 1))).toList, by simp [Array.append_assoc], by simp [size_zeroCells, hzc]; omega⟩
      rw [hZ] at hrz
      obtain ⟨W1, hW1⟩ : ∃ W1, W1 = w.drew.alloc (.cells (F1 ++ Z).toArray 27) := ⟨_, rfl⟩
      have hBN : Hid (Blk W1 w.heap.size 27 (F1 ++ Z).toArray) := by rw [hW1]; exact Blk.new w.drew _ _
      have hxN : Hid (Blk W1 g 27 X.toArray) := by rw [hW1]; exact Blk.alloc (w := w.drew) hx _
      have hB1 : Hid (Blk W1 g' 27 (F1 ++ F2 ++ R).toArray) := by rw [hW1]; exact Blk.alloc (w := w.drew) hB0 _
      have hgW : Hid (∀ b, W1.grownBy b (some w.heap.size) → ∀ row, w.grownBy b row) := fun b hb row => by
        rw [hW1] at hb
        exact grownBy_drew_then (grownBy_alloc_then hb row)
      have hrz' : Hid (∀ ty, (Builtin.append_ #[23, 3] ty #[.slice (some ⟨g', 0, none⟩) i c, .int .i64 ((n : Int) + 1 - (i : Int))]).run Try.prog w = .ok (.slice (some ⟨w.heap.size, 0, none⟩) (n + 1) G) W1) := fun ty => by
        rw [hkk, hW1]
        exact hrz ty
      have hX2 : Hid (∀ j u, X[j]? = some u → W1.cell? ((⟨g, 0, none⟩ : Addr).add j) = some u) := fun j u hu => by
        rw [Addr.add_lit, hxN.out.cell]
        simpa using hu
      have HL := hide (And.intro hlen (And.intro hres (And.intro hbg hcs)))
      have hxl := hide hxl
      have hX1' := hide hX1
      have h2' := hide h2
      have hF2' : Hid (F2.length = Nat.min (n - i) (n - i) * 2) := by unfold Hid; rw [show Nat.min (n - i) (n - i) = n - i from Nat.min_self _]; exact hF2
      have hhi : (i : Int) < (n : Int) := by omega
      have hhc : (c : Int) < (n : Int) + 1 := by omega
      have hii : i ≤ n := by omega
      have hci : ¬ (c = i) := by omega
      have hGi : ¬ (G = i) := by omega
      have hGi1 : ¬ (G = i + 1) := by omega
      have hGl : G ≤ 9223372036854775807 := by unfold maxLen at hG63; omega
      clear hx hB0 hh htake hne hF12 hcs ho h2 hlen hres hX1 hrz hold hW1 hZ hG hkk hzs hzb hzc hz0 hi0 hcm
      go_enter Try.func63, Try.ntmps63
      go_wp2_with (first | (at_builtin; refine Lib.wpList_append_run _ rfl _ _ _ _ rfl _ _ rfl rfl _ _ (hrz'.out _) ?_) | (refine wpList_copy_blk rfl (.tmp 43) (.tmp 44) 23 23 rfl 27 2 Try.underlying23 (by kernel_rfl) w.heap.size (i * 2) (n + 1 - i) (G - i) 1 1 ⟨g, 0, none⟩ rfl rfl 27 _ hBN.out X (by rw [show Nat.min 1 (n + 1 - i) = 1 from Nat.min_eq_left (by omega)]; exact hxl.out) hX2.out (by have := hxl.out; simp; omega) hX1'.out ?_; intro w2 hB2 hg2))
      have hgN : g' ≠ w.heap.size := by omega
      have hsrc : Hid (∀ j u, F2[j]? = some u → w2.cell? ((⟨g', i * 2, none⟩ : Addr).add j) = some u) := fun j u hu => by
        have e : Blk w2 g' 27 (F1 ++ F2 ++ R).toArray := hB1.out.grown hg2 (by simp; omega)
        rw [Addr.add_lit, e.cell]
        have hj := (List.getElem?_eq_some_iff.1 hu).1
        simp only [List.getElem?_toArray]
        rw [List.append_assoc, List.getElem?_append_right (by omega), List.getElem?_append_left (by omega), show i * 2 + j - F1.length = j by omega]
        exact hu
      have hg2' := hide hg2
      have hB2' := hide hB2
      have hw1 : IntKind.i64.wrap ((i : Int) + 1) = (i : Int) + 1 := by rw [IntKind.wrap_i64]; omega
      have hb1 : (0 : Int) ≤ (i : Int) + 1 := by omega
      have htn : ((i : Int) + 1).toNat = i + 1 := by omega
      have hb3 : (i : Int) ≤ (n : Int) := by omega
      have hb5 : (i : Int) + 1 ≤ (n : Int) + 1 := by omega
      clear hg2 hB2
      go_region_law (refine step_copy_blk rfl _ _ 23 23 rfl 27 2 Try.underlying23 (by kernel_rfl) w.heap.size ((i + 1) * 2) (n - i) (G - (i + 1)) (n - i) (c - i) ⟨g', i * 2, none⟩ (by simp [Act.eval, Act.put]) (by simp [Act.eval, Act.put]) 27 _ hB2'.out F2 hF2'.out hsrc.out (by have := hxl.out; simp; omega) h2'.out ?_; intro w3 hB3 hg3)
      clear hw1 hb1 htn hb3 hb5
      have hB3' : Hid (Blk w3 w.heap.size 27 (((F1 ++ Z).take (i * 2) ++ X ++ (F1 ++ Z).drop (i * 2 + X.length)).take (i * 2 + 2) ++ F2 ++ ((F1 ++ Z).take (i * 2) ++ X ++ (F1 ++ Z).drop (i * 2 + X.length)).drop (i * 2 + 2 + F2.length)).toArray) := by
        have e : (i + 1) * 2 = i * 2 + 2 := by omega
        rw [e] at hB3
        exact hB3
      have hg3' := hide (grownBy_drew_then hg3)
      clear hB3 hg3
      go_wp2
      go_ret
      have hfin := HL.out
      have hx2 := hxl.out
      refine ⟨some ⟨w.heap.size, 0, none⟩, G, by show Ending.returned (.slice (some ⟨w.heap.size, 0, none⟩) (n + 1) G) = _; rw [hfin.1], Own.of_blk hB3'.out hbase (by rw [hfin.1]; exact hGn) hG63 (by simp; omega) ?_ (fun _ => rfl), hgW.out _ (grownBy_trans hg2'.out hg3'.out) _⟩
      rw [hfin.1, hfin.2.1, ← insert_grown F1 F2 Z X (i * 2) 2 ((n - i) * 2) hF1 hF2 hx2 (by omega)]
      congr 1
      omega

end Go.Proofs.Ythhnhajldhnfmaa
