/- The walks of layer 35, twelfth part: the law's with and allowed. -/
import Derived.Test.YthhnhajldhnfmaaPunI
import Derived.Deep.Cut
import Derived.Deep.CutRange
set_option linter.unusedVariables false
set_option linter.unusedSimpArgs false
namespace Go.Proofs.Ythhnhajldhnfmaa
open Go.RowKit

def withL : Trk → List Pt → Trk × Bool
  | t, [] => (t, true)
  | t, p :: r => if (addT t p).2 ≠ 0 then (t, false) else withL (addT t p).1 r
theorem withL_drop (t : Trk) (l : List Pt) (k : Nat) (h : k < l.length) : withL t (l.drop k) = if (addT t l[k]).2 ≠ 0 then (t, false) else withL (addT t l[k]).1 (l.drop (k + 1)) := by
  rw [drop_cons l k h]; rfl
theorem addT_len (t : Trk) (p : Pt) (h : (addT t p).2 = 0) : (addT t p).1.beyond = t.beyond ∧ (addT t p).1.points.length ≤ t.points.length + 1 := by
  have hf : (t.points.filter fun x => !implies p x).length ≤ t.points.length := List.length_filter_le _ _
  unfold addT at h ⊢
  split
  · rename_i h1; rw [if_pos h1] at h; exact absurd h h1
  · rename_i h1; rw [if_neg h1] at h
    split
    · rename_i h2; rw [if_pos h2] at h; simp at h
    · rename_i h2; rw [if_neg h2] at h
      split
      · exact ⟨rfl, by dsimp only; omega⟩
      · rename_i h3; rw [if_neg h3] at h
        split
        · exact ⟨rfl, by dsimp only; omega⟩
        · rename_i h4; rw [if_neg h4] at h
          split
          · rename_i h5; rw [if_pos h5] at h; simp at h
          · refine ⟨rfl, ?_⟩
            simp only [List.length_append, List.length_cons, List.length_take, List.length_drop]
            omega
theorem Sl.here {α : Type} {w : World} {S : Nat → Prop} {sz : Nat} {enc : α → List Value} {v : Value} {l : List α} (h : Sl w S sz enc v l) : Sl w (fun b => S b ∧ b < w.heap.size) sz enc v l := by
  obtain ⟨A, c, rfl, hc, hx⟩ := h
  exact ⟨A, c, rfl, hc, fun h0 => by obtain ⟨b, off, rfl, hS, hb, hk⟩ := hx h0; exact ⟨b, off, rfl, ⟨hS, hb⟩, hb, hk⟩⟩

theorem box_first {w0 w1 : World} (tr : Trk) (A3 : Option Addr) (c3 : Nat) (A4 : Option Addr) (c4 : Nat)
    (ho1 : Own w1 (w0.alloc (.cells #[.int .i64 0, .slice none 0 0, .slice none 0 0, .int .i64 0] 25)).heap.size 3 1 encI (.slice A3 tr.beyond.length c3) tr.beyond)
    (ho2 : Own w1 (w0.alloc (.cells #[.int .i64 0, .slice none 0 0, .slice none 0 0, .int .i64 0] 25)).heap.size 27 2 encP (.slice A4 tr.points.length c4) tr.points)
    (hb1 : Below (w0.alloc (.cells #[.int .i64 0, .slice none 0 0, .slice none 0 0, .int .i64 0] 25)).heap.size (w0.alloc (.cells #[.int .i64 0, .slice none 0 0, .slice none 0 0, .int .i64 0] 25)) w1) :
    Below w0.heap.size w0 ((((w1.setCell ⟨w0.heap.size, 0, none⟩ (.int .i64 tr.next)).setCell ⟨w0.heap.size, 1, none⟩ (.slice A3 tr.beyond.length c3)).setCell ⟨w0.heap.size, 2, none⟩ (.slice A4 tr.points.length c4)).setCell ⟨w0.heap.size, 3, none⟩ (.int .i64 tr.mark)) ∧
    w0.heap.size ≤ w0.heap.size ∧ Hid (Blk ((((w1.setCell ⟨w0.heap.size, 0, none⟩ (.int .i64 tr.next)).setCell ⟨w0.heap.size, 1, none⟩ (.slice A3 tr.beyond.length c3)).setCell ⟨w0.heap.size, 2, none⟩ (.slice A4 tr.points.length c4)).setCell ⟨w0.heap.size, 3, none⟩ (.int .i64 tr.mark)) w0.heap.size 25 #[.int .i64 tr.next, .slice A3 tr.beyond.length c3, .slice A4 tr.points.length c4, .int .i64 tr.mark]) ∧
    Hid (TrkC ((((w1.setCell ⟨w0.heap.size, 0, none⟩ (.int .i64 tr.next)).setCell ⟨w0.heap.size, 1, none⟩ (.slice A3 tr.beyond.length c3)).setCell ⟨w0.heap.size, 2, none⟩ (.slice A4 tr.points.length c4)).setCell ⟨w0.heap.size, 3, none⟩ (.int .i64 tr.mark)) (fun b => w0.heap.size ≤ b ∧ b ≠ w0.heap.size) (.slice A3 tr.beyond.length c3) (.slice A4 tr.points.length c4) tr) := by
  have hz : (w0.alloc (.cells #[.int .i64 0, .slice none 0 0, .slice none 0 0, .int .i64 0] 25)).heap.size = w0.heap.size + 1 := World.size_alloc _ _
  rw [hz] at ho1 ho2 hb1
  have hN : Blk w1 w0.heap.size 25 #[.int .i64 0, .slice none 0 0, .slice none 0 0, .int .i64 0] := Blk.below (Blk.new w0 _ _) (by rw [hz]; exact hb1)
  have hS : ∀ b, w0.heap.size + 1 ≤ b → w0.heap.size ≤ b ∧ b ≠ w0.heap.size := fun b h => by omega
  refine ⟨?_, Nat.le_refl _, ?_, ?_, ?_⟩
  · iterate 4 (refine Below.setCell ?_ (by dsimp only; omega) _)
    exact ((Below.refl _ _).alloc (Nat.le_refl _) _).trans (hb1.mono (Nat.le_succ _))
  · exact (((hN.set 0 _).set 1 _).set 2 _).set 3 _
  · refine Own.sl ?_ eok_int hS
    iterate 4 (refine Own.setCell_lt ?_ (by dsimp only; omega) _)
    exact ho1
  · refine Own.sl ?_ eok_pts hS
    iterate 4 (refine Own.setCell_lt ?_ (by dsimp only; omega) _)
    exact ho2
theorem box_after {w0 w1 : World} (tr : Trk) (A3 : Option Addr) (c3 : Nat) (A4 : Option Addr) (c4 : Nat)
    (ho1 : Own w1 w0.heap.size 3 1 encI (.slice A3 tr.beyond.length c3) tr.beyond) (ho2 : Own w1 w0.heap.size 27 2 encP (.slice A4 tr.points.length c4) tr.points) (hb1 : Below w0.heap.size w0 w1) :
    Below w0.heap.size w0 (w1.alloc (.cells #[.int .i64 tr.next, .slice A3 tr.beyond.length c3, .slice A4 tr.points.length c4, .int .i64 tr.mark] 25)) ∧ w0.heap.size ≤ w1.heap.size ∧
    Hid (Blk (w1.alloc (.cells #[.int .i64 tr.next, .slice A3 tr.beyond.length c3, .slice A4 tr.points.length c4, .int .i64 tr.mark] 25)) w1.heap.size 25 #[.int .i64 tr.next, .slice A3 tr.beyond.length c3, .slice A4 tr.points.length c4, .int .i64 tr.mark]) ∧
    Hid (TrkC (w1.alloc (.cells #[.int .i64 tr.next, .slice A3 tr.beyond.length c3, .slice A4 tr.points.length c4, .int .i64 tr.mark] 25)) (fun b => w0.heap.size ≤ b ∧ b ≠ w1.heap.size) (.slice A3 tr.beyond.length c3) (.slice A4 tr.points.length c4) tr) := by
  refine ⟨hb1.alloc hb1.size _, hb1.size, Blk.new _ _ _, ?_, ?_⟩
  · exact ((ho1.sl (S := fun b => w0.heap.size ≤ b) eok_int (fun _ h => h)).here.weaken fun b h => ⟨h.1, by omega⟩).alloc _
  · exact ((ho2.sl (S := fun b => w0.heap.size ≤ b) eok_pts (fun _ h => h)).here.weaken fun b h => ⟨h.1, by omega⟩).alloc _

def RetTB (x : Trk × Bool) (S : Nat → Prop) (w0 : World) (r : Ending) (w' : World) : Prop :=
  ∃ A c A' c', r = .returned (.tuple #[.agg #[.int .i64 x.1.next, .slice A x.1.beyond.length c, .slice A' x.1.points.length c', .int .i64 x.1.mark], .bool x.2]) ∧
    TrkC w' (fun b => S b ∨ w0.heap.size ≤ b) (.slice A x.1.beyond.length c) (.slice A' x.1.points.length c') x.1 ∧ Below w0.heap.size w0 w'

set_option maxHeartbeats 1600000 in
theorem withL_any (t : Trk) (ps : List Pt) (S S2 : Nat → Prop) (v vps : Value) (w : World) (h : TrkV w S v t) (hps : Pts w S2 vps ps) (hl1 : t.beyond.length ≤ 1000000) (hl2 : t.points.length + ps.length ≤ 1000000) :
    Calls Try.prog 26 #[v, vps] w (RetTB (withL t ps) S w) := by
  obtain ⟨vb, vp, rfl, hB, hP⟩ := h
  obtain ⟨A, c, rfl, hc, hcell⟩ := pts_form hP
  obtain ⟨Ab, cb, rfl, _, _⟩ := ints_form hB
  obtain ⟨Ap, cp, rfl, hcp, hxp⟩ := pts_form hps
  have H := hide hxp
  have HB := hide hB.here
  have HP := hide hP.here
  clear hcell hB hP hxp hps
  obtain ⟨next, lb, l, mark⟩ := t
  dsimp only at *
  generalize hres : withL ⟨next, lb, l, mark⟩ ps = res at *
  have Hres := hide hres
  clear hres
  go_enter Try.func26, Try.ntmps26
  go_wp2
  go_loopw [6] (fun i wr => ∃ (k : Nat) (n m : Int) (lb' : List Int) (l' : List Pt) (A1 : Option Addr) (c1 : Nat) (A2 : Option Addr) (c2 : Nat), k ≤ ps.length ∧ i = .int .i64 k ∧ Hid (withL ⟨n, lb', l', m⟩ (ps.drop k) = res) ∧ lb'.length ≤ 1000000 ∧ l'.length + (ps.length - k) ≤ 1000000 ∧ Below w.heap.size w wr ∧
      Hid (Blk wr w.heap.size 25 #[.int .i64 n, .slice A1 lb'.length c1, .slice A2 l'.length c2, .int .i64 m]) ∧
      Hid (Blk wr (w.heap.size + 1) 25 #[.int .i64 0, .slice none 0 0, .slice none 0 0, .int .i64 0]) ∧
      Hid (TrkC wr (fun b => (S b ∧ b < w.heap.size) ∨ w.heap.size + 1 < b) (.slice A1 lb'.length c1) (.slice A2 l'.length c2) ⟨n, lb', l', m⟩)) (fun i _ => ps.length - (intOf i).toNat)
  case atStart =>
    refine ⟨0, next, mark, lb, l, Ab, cb, A, c, Nat.zero_le _, rfl, Hres.out, hl1, by omega, by go_grown, Blk.alloc (Blk.new w _ _) _, blk_new_at (w.alloc _) _ _ (by simp), ?_⟩
    exact ⟨((HB.out.alloc _).alloc _).weaken fun b h => Or.inl h, ((HP.out.alloc _).alloc _).weaken fun b h => Or.inl h⟩
  case round =>
    obtain ⟨k, n, m, lb', l', A1, c1, A2, c2, hk, rfl, hs, hlb, hll, hb, hTb, hRb, hC⟩ := hrel
    have t0 := hTb.out.cell_some 0 rfl
    have t1 := hTb.out.cell_some 1 rfl
    have t2 := hTb.out.cell_some 2 rfl
    have t3 := hTb.out.cell_some 3 rfl
    have z1 := hRb.out.lt
    by_cases hlt : k < ps.length
    · obtain ⟨b, off, rfl, hbl, hx0, hx1⟩ := H.out k hlt
      have hx0 := cell_later hb hx0
      have hx1 := cell_later hb hx1
      have hd := hide (withL_drop ⟨n, lb', l', m⟩ ps k hlt)
      generalize ps[k] = x at *
      obtain ⟨x0, x1⟩ := x
      have hkl : (k : Int) < (ps.length : Int) := by omega
      have hk0 : (0 : Int) ≤ (k : Int) := by omega
      have hll' : l'.length ≤ 1000000 := by omega
      have l0 := hTb.out.lt
      have hbr : b < wr.heap.size := by omega
      have hn1 : ¬ (b = wr.heap.size) := by omega
      have hn2 : ¬ (w.heap.size = wr.heap.size) := by omega
      generalize hadd : addT ⟨n, lb', l', m⟩ ⟨x0, x1⟩ = ad at *
      have Hadd := hide hadd
      clear hadd
      go_wp2
      go_cut [7, 8] from 9 to 27 (fun px er wx => ∃ g A3 c3 A4 c4, px = .pointer (some ⟨g, 0, none⟩) ∧ er = .int .i64 ad.2 ∧ Below wr.heap.size wr wx ∧ wr.heap.size ≤ g ∧
        Hid (Blk wx g 25 #[.int .i64 ad.1.next, .slice A3 ad.1.beyond.length c3, .slice A4 ad.1.points.length c4, .int .i64 ad.1.mark]) ∧ Hid (TrkC wx (fun b => wr.heap.size ≤ b ∧ b ≠ g) (.slice A3 ad.1.beyond.length c3) (.slice A4 ad.1.points.length c4) ad.1))
      case first =>
        go_region_with (go_at_call 23; refine (add_any ⟨n, lb', l', m⟩ ⟨x0, x1⟩ _ _ _ ⟨_, _, rfl, hC.out.1.below ?_, hC.out.2.below ?_⟩ hlb hll').mono ?_; go_grown; go_grown; rw [Hadd.out]; rintro e w1 ⟨A3, c3, A4, c4, rfl, ho1, ho2, hb1⟩; first | (have hN1 : Blk w1 wr.heap.size 25 #[.int .i64 0, .slice none 0 0, .slice none 0 0, .int .i64 0] := Blk.below (blk_new_at wr.drew _ _ rfl) hb1; have e0 := hN1.cell_some 0 rfl; have e1 := hN1.cell_some 1 rfl; have e2 := hN1.cell_some 2 rfl; have e3 := hN1.cell_some 3 rfl; have f0 := hN1.frozen 0; have f1 := hN1.frozen 1; have f2 := hN1.frozen 2; have f3 := hN1.frozen 3; have hn0 := hide True.intro) | have hn1 := hide True.intro)
        all_goals (try go_wp2_with fail)
        all_goals go_meet
        all_goals first
          | (obtain ⟨h1, h2⟩ := box_first (w0 := wr.drew) ad.1 A3 c3 A4 c4 ho1 ho2 hb1
             exact ⟨_, A3, c3, A4, c4, rfl, rfl, ⟨h1.os, h1.tape, h1.output, h1.size, h1.block⟩, h2⟩)
          | (obtain ⟨h1, h2⟩ := box_after (w0 := wr.drew) ad.1 A3 c3 A4 c4 ho1 ho2 hb1
             exact ⟨_, A3, c3, A4, c4, rfl, rfl, ⟨h1.os, h1.tape, h1.output, h1.size, h1.block⟩, h2⟩)
      case rest =>
        obtain ⟨g, A3, c3, A4, c4, rfl, rfl, hbw, hgz, hG, hC2⟩ := hcut
        have hlen : ad.2 = 0 → ad.1.beyond.length ≤ 1000000 ∧ ad.1.points.length ≤ l'.length + 1 := fun e => by
          have := addT_len ⟨n, lb', l', m⟩ ⟨x0, x1⟩ (by rw [Hadd.out]; exact e)
          rw [Hadd.out] at this
          exact ⟨by rw [this.1]; exact hlb, this.2⟩
        have hlen := hide hlen
        obtain ⟨⟨an, ab, al, am⟩, ac⟩ := ad
        dsimp only at *
        have hw1 : Below w.heap.size w wc := hb.trans (hbw.mono hb.size)
        have hT1 := hide (hTb.out.below hbw)
        have hR1 := hide (hRb.out.below hbw)
        have hC1 := hide (show TrkC wc _ _ _ _ from ⟨hC.out.1.below hbw, hC.out.2.below hbw⟩)
        have g0 := hG.out.cell_some 0 rfl
        have g1 := hG.out.cell_some 1 rfl
        have g2 := hG.out.cell_some 2 rfl
        have g3 := hG.out.cell_some 3 rfl
        have t0 := hT1.out.cell_some 0 rfl
        have t1 := hT1.out.cell_some 1 rfl
        have t2 := hT1.out.cell_some 2 rfl
        have t3 := hT1.out.cell_some 3 rfl
        have r0 := hR1.out.cell_some 0 rfl
        have r1 := hR1.out.cell_some 1 rfl
        have r2 := hR1.out.cell_some 2 rfl
        have r3 := hR1.out.cell_some 3 rfl
        have f0 := hR1.out.frozen 0
        have f1 := hR1.out.frozen 1
        have f2 := hR1.out.frozen 2
        have f3 := hR1.out.frozen 3
        have k0 := hT1.out.frozen 0
        have k1 := hT1.out.frozen 1
        have k2 := hT1.out.frozen 2
        have k3 := hT1.out.frozen 3
        clear hx0 hx1 hTb hRb hC
        have hgn : ¬ (g = w.heap.size) := by omega
        by_cases hac : ac = 0
        · have hle := hlen.out hac
          subst hac
          have hd1 := hide (hd.out.trans (if_neg (by simp)))
          go_wp2
          have hz1 : w.heap.size + 1 ≠ w.heap.size := by omega
          have hns0 : ¬ ((S (w.heap.size) ∧ w.heap.size < w.heap.size) ∨ w.heap.size + 1 < w.heap.size) := by omega
          first
            | refine ⟨⟨k + 1, an, am, ab, al, A3, c3, A4, c4, by omega, by go_num, hd1.out.symm.trans hs.out, hle.1, by omega, ?_, ?_, ?_, ?_, ?_⟩, by simp [intOf]; omega⟩
          · iterate 4 (refine Below.setCell ?_ (by dsimp only; omega) _)
            exact hw1
          · exact (((hT1.out.set 0 _).set 1 _).set 2 _).set 3 _
          · exact (((hR1.out.far hz1 _).far hz1 _).far hz1 _).far hz1 _
          · iterate 4 (refine Sl.setCell ?_ hns0 _)
            exact hC2.out.1.weaken fun b h => Or.inr (by omega)
          · iterate 4 (refine Sl.setCell ?_ hns0 _)
            exact hC2.out.2.weaken fun b h => Or.inr (by omega)
        · have hd1 := hide (hd.out.trans (if_pos hac))
          go_wp2
          have hns1 : ¬ ((S (w.heap.size + 1) ∧ w.heap.size + 1 < w.heap.size) ∨ w.heap.size + 1 < w.heap.size + 1) := by omega
          have hr := hs.out.symm.trans hd1.out
          refine bodyPost_ret (v := .tuple #[.agg #[.int .i64 n, .slice A1 lb'.length c1, .slice A2 l'.length c2, .int .i64 m], .bool false]) (by simp [results, Try.results26, go_sem, r0, r1, r2, r3]) rfl ?_
          rw [hr]
          refine ⟨A1, c1, A2, c2, rfl, ⟨?_, ?_⟩, ?_⟩
          · refine Sl.weaken (S := fun b => (S b ∧ b < w.heap.size) ∨ w.heap.size + 1 < b) ?_ (fun b h => h.elim (fun h => Or.inl h.1) (fun h => Or.inr (by omega)))
            iterate 4 (refine Sl.setCell ?_ hns1 _)
            exact hC1.out.1
          · refine Sl.weaken (S := fun b => (S b ∧ b < w.heap.size) ∨ w.heap.size + 1 < b) ?_ (fun b h => h.elim (fun h => Or.inl h.1) (fun h => Or.inr (by omega)))
            iterate 4 (refine Sl.setCell ?_ hns1 _)
            exact hC1.out.2
          · iterate 4 (refine Below.setCell ?_ (by dsimp only; omega) _)
            exact hw1
    · have hd1 : withL ⟨n, lb', l', m⟩ (ps.drop k) = (⟨n, lb', l', m⟩, true) := by rw [List.drop_eq_nil_of_le (by omega)]; rfl
      have hkl : ¬ ((k : Int) < (ps.length : Int)) := by omega
      have r0 := hRb.out.cell_some 0 rfl
      have r1 := hRb.out.cell_some 1 rfl
      have r2 := hRb.out.cell_some 2 rfl
      have r3 := hRb.out.cell_some 3 rfl
      have f0 := hRb.out.frozen 0
      have f1 := hRb.out.frozen 1
      have f2 := hRb.out.frozen 2
      have f3 := hRb.out.frozen 3
      go_wp2
      have hr := hs.out.symm.trans hd1
      have hns1 : ¬ ((S (w.heap.size + 1) ∧ w.heap.size + 1 < w.heap.size) ∨ w.heap.size + 1 < w.heap.size + 1) := by omega
      refine bodyPost_ret (v := .tuple #[.agg #[.int .i64 n, .slice A1 lb'.length c1, .slice A2 l'.length c2, .int .i64 m], .bool true]) (by simp [results, Try.results26, go_sem, r0, r1, r2, r3]) rfl ?_
      rw [hr]
      refine ⟨A1, c1, A2, c2, rfl, ⟨?_, ?_⟩, ?_⟩
      · refine Sl.weaken (S := fun b => (S b ∧ b < w.heap.size) ∨ w.heap.size + 1 < b) ?_ (fun b h => h.elim (fun h => Or.inl h.1) (fun h => Or.inr (by omega)))
        iterate 4 (refine Sl.setCell ?_ hns1 _)
        exact hC.out.1
      · refine Sl.weaken (S := fun b => (S b ∧ b < w.heap.size) ∨ w.heap.size + 1 < b) ?_ (fun b h => h.elim (fun h => Or.inl h.1) (fun h => Or.inr (by omega)))
        iterate 4 (refine Sl.setCell ?_ hns1 _)
        exact hC.out.2
      · iterate 4 (refine Below.setCell ?_ (by dsimp only; omega) _)
        exact hb
end Go.Proofs.Ythhnhajldhnfmaa
