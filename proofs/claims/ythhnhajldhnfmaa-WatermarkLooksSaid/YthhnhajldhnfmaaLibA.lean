/- Go's library, walked: what the slices functions that the layers use hand back. Printed by gen_lib.py. -/
import Derived.Test.YthhnhajldhnfmaaSeqB
set_option linter.unusedVariables false
set_option linter.unusedSimpArgs false
namespace Go.Proofs.Ythhnhajldhnfmaa
open Go.RowKit

set_option maxHeartbeats 400000 in
theorem cloneI_any (l : List Int) (S : Nat → Prop) (v : Value) (w : World) (h : Sl w S 1 encI v l) (hl : l.length ≤ 1000000000) :
    Calls Try.prog 69 #[v] w (RetOwn 3 1 encI l w) := by
  obtain ⟨A, c, rfl, hc, _⟩ := h.form
  have hq := fun (W : World) => Lib.run_eql_slice_nil W 22 3 A l.length c 0 0 Try.underlying22
  have H := hide h
  cases A with
  | none =>
    have h0 : l = [] := h.none_nil
    subst h0
    clear h H hl hc
    simp only [List.length_nil, Option.isNone_none] at hq ⊢
    go_enter Try.func69, Try.ntmps69
    go_wp2
    go_ret
    exact ⟨none, 0, rfl, Own.nil_, by go_grown⟩
  | some ad =>
    clear h
    go_enter Try.func69, Try.ntmps69
    go_wp2_with (at_builtin; refine wpList_append_sl rfl _ _ rfl eok_int rfl Own.made_ rfl (H.out.alloc _) (by simp; omega) (by omega) (by simp) ?_; intro A' c' w1 ho hg _)
    go_ret
    exact ⟨A', c', rfl, ho, (Own.made_ (sz := 1) (enc := encI)).grown ((Below.refl _ _).alloc (Nat.le_refl _) _) (Nat.le_refl _) (by simp) hg⟩

set_option maxHeartbeats 400000 in
theorem cloneP_any (l : List Pt) (S : Nat → Prop) (v : Value) (w : World) (h : Sl w S 2 encP v l) (hl : l.length ≤ 1000000000) :
    Calls Try.prog 70 #[v] w (RetOwn 27 2 encP l w) := by
  obtain ⟨A, c, rfl, hc, _⟩ := h.form
  have hq := fun (W : World) => Lib.run_eql_slice_nil W 23 27 A l.length c 0 0 Try.underlying23
  have H := hide h
  cases A with
  | none =>
    have h0 : l = [] := h.none_nil
    subst h0
    clear h H hl hc
    simp only [List.length_nil, Option.isNone_none] at hq ⊢
    go_enter Try.func70, Try.ntmps70
    go_wp2
    go_ret
    exact ⟨none, 0, rfl, Own.nil_, by go_grown⟩
  | some ad =>
    clear h
    go_enter Try.func70, Try.ntmps70
    go_wp2_with (at_builtin; refine wpList_append_sl rfl _ _ rfl eok_pts rfl Own.made_ rfl (H.out.alloc _) (by simp; omega) (by omega) (by simp) ?_; intro A' c' w1 ho hg _)
    go_ret
    exact ⟨A', c', rfl, ho, (Own.made_ (sz := 2) (enc := encP)).grown ((Below.refl _ _).alloc (Nat.le_refl _) _) (Nat.le_refl _) (by simp) hg⟩

set_option maxHeartbeats 800000 in
theorem filteredP_any (l : List Pt) (p : Pt → Bool) (g : Nat) (lb : Array Value) (eg : ∀ args w, (callFunc g args).run Try.prog w = .ok (.enter g args) w)
    (S : Nat → Prop) (v : Value) (w : World) (h : Sl w S 2 encP v l) (hp : PredB Try.prog g lb (fun x => .agg (encP x).toArray) p w) (hl : l.length ≤ 1000000000) :
    Calls Try.prog 59 #[v, .func (.func g) #[] lb] w (RetOwn 27 2 encP (l.filter p) w) := by
  obtain ⟨A, c, rfl, hc, hcell⟩ := pts_form h
  have H := hide hcell
  have HP := hide hp
  clear hcell hp h
  go_enter Try.func59, Try.ntmps59
  go_wp2
  go_loopw [5, 10] (fun out i wr => ∃ (k : Nat) (A : Option Addr) (c : Nat), k ≤ l.length ∧ i = .int .i64 k ∧ out = .slice A ((l.take k).filter p).length c ∧ Hid (Own wr w.heap.size 27 2 encP (.slice A ((l.take k).filter p).length c) ((l.take k).filter p)) ∧ Below w.heap.size w wr) (fun _ i _ => l.length - (intOf i).toNat)
  case atStart => exact ⟨0, none, 0, Nat.zero_le _, rfl, rfl, Own.nil_, by go_grown⟩
  case round =>
    obtain ⟨k, A', c', hk, rfl, rfl, ho, hb⟩ := hrel
    by_cases hlt : k < l.length
    · obtain ⟨b, off, rfl, hbl, hx0, hx1⟩ := H.out k hlt
      have hx0 := cell_later hb hx0
      have hx1 := cell_later hb hx1
      have hsn := hide (filter_take_succ l p k hlt)
      have hlen := hide (filter_take_le l p k)
      generalize l[k] = x at *
      obtain ⟨x0, x1⟩ := x
      generalize hfl : (l.take k).filter p = fl at *
      clear hfl
      cases hq : p ⟨x0, x1⟩ with
      | false =>
        rw [hq] at hsn
        have hq' := hide hq
        clear hq
        go_wp2_with (go_at_fn g; refine (HP.out _ ⟨x0, x1⟩ ((hb.alloc hb.size _))).mono ?_; rintro e w1 ⟨rfl, hb1⟩; rw [hq'.out])
        go_roundw
        case rel =>
          have e := hsn.out
          rw [if_neg (by simp)] at e
          exact ⟨k + 1, _, _, by omega, by go_num, by rw [e], by rw [e]; exact ho.out.below (Below.next (by go_grown) hb1), Below.next (hb.alloc hb.size _) hb1⟩
        case measure => simp [intOf]; omega
      | true =>
        rw [hq] at hsn
        have hq' := hide hq
        clear hq
        go_wp2_with fail
        refine (HP.out _ ⟨x0, x1⟩ ((hb.alloc hb.size _))).mono ?_
        rintro e w1 ⟨rfl, hb1⟩
        have hbx0 := cell_later (a := ⟨wr.heap.size, 0, none⟩) (v := .int .i64 x0) hb1 (by simp)
        have hbx1 := cell_later (a := ⟨wr.heap.size, 1, none⟩) (v := .int .i64 x1) hb1 (by simp)
        rw [hq'.out]
        have hsl : Hid (Sl (w1.alloc (.cells #[.int .i64 x0, .int .i64 x1] 27)) (fun _ => True) 2 encP (.slice (some ⟨w1.heap.size, 0, none⟩) 1 1) [⟨x0, x1⟩]) := Sl.one_ (Nat.le_refl _) (by simp) trivial (by
          intro j u hu
          have hj : j < 2 := (List.getElem?_eq_some_iff.1 hu).1
          rw [World.cell?_alloc_new]
          simpa [encP] using hu)
        go_wp2_with (at_builtin; refine wpList_append_sl rfl _ _ rfl eok_pts rfl (ho.out.below (Below.next (Below.next ((Below.refl _ _).alloc (Nat.le_refl _) _) hb1) ((Below.refl _ _).alloc (Nat.le_refl _) _))) rfl hsl.out (by have := hlen.out; simp; omega) (by omega) ?hz ?_; rotate_left; intro A2 c2 w2 ho2 hg2 _)
        case hz => have h1 := hb1.size; have h2 := hb.size; rw [World.size_alloc] at h1 ⊢; omega
        have e := hsn.out
        rw [if_pos trivial] at e
        refine ⟨⟨k + 1, A2, c2, by omega, by go_num, by rw [e]; simp, by rw [e]; exact ho2, ?_⟩, by simp [intOf]; omega⟩
        have hz : w.heap.size ≤ (w1.alloc (.cells #[.int .i64 x0, .int .i64 x1] 27)).heap.size := by have h1 := hb1.size; have h2 := hb.size; rw [World.size_alloc] at h1 ⊢; omega
        exact (ho.out.below (Below.next (Below.next ((Below.refl _ _).alloc (Nat.le_refl _) _) hb1) ((Below.refl _ _).alloc (Nat.le_refl _) _))).grown (Below.next (hb.alloc hb.size _) (Below.next hb1 ((Below.refl _ _).alloc (Nat.le_refl _) _))) (Nat.le_refl _) hz hg2
    · go_wp2
      go_ret
      have e : l.take k = l := List.take_of_length_le (by omega)
      rw [e] at ho ⊢
      exact ⟨_, _, rfl, ho.out, hb⟩

end Go.Proofs.Ythhnhajldhnfmaa
