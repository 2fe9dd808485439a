/- Go's library, walked: searches. -/
import Derived.Test.YthhnhajldhnfmaaSeqB
set_option linter.unusedVariables false
set_option linter.unusedSimpArgs false
namespace Go.Proofs.Ythhnhajldhnfmaa
open Go.RowKit

set_option maxHeartbeats 400000 in
theorem indexI_any (l : List Int) (x : Int) (S : Nat → Prop) (v : Value) (w : World) (h : Ints w S v l) (hl : l.length ≤ 1000000000) :
    Calls Try.prog 81 #[v, .int .i64 x] w fun e w' => e = .returned (.int .i64 (idxFrom (fun y => decide (x = y)) l 0)) ∧ Below w.heap.size w w' := by
  obtain ⟨A, c, rfl, hc, hcell⟩ := ints_form h
  have H := hide hcell
  clear hcell h
  go_enter Try.func81, Try.ntmps81
  go_wp2
  go_loopw [8] (fun i wr => ∃ k : Nat, k ≤ l.length ∧ i = .int .i64 k ∧ Hid (idxFrom (fun y => decide (x = y)) (l.drop k) k = idxFrom (fun y => decide (x = y)) l 0) ∧ Below w.heap.size w wr) (fun i _ => l.length - (intOf i).toNat)
  case atStart => exact ⟨0, Nat.zero_le _, rfl, rfl, by go_grown⟩
  case round =>
    obtain ⟨k, hk, rfl, hs, hb⟩ := hrel
    by_cases hlt : k < l.length
    · obtain ⟨b, off, rfl, hbl, hx⟩ := H.out k hlt
      have hx := cell_later hb hx
      have hd := hide (drop_cons l k hlt)
      generalize l[k] = y at *
      by_cases hxy : x = y
      · have hne : (x == y) = true := by simp [hxy]
        have hxy' := hide hxy; clear hxy
        go_wp2
        go_ret
        exact ⟨ret_int (by rw [← hs.out, hd.out]; simp [idxFrom, hxy'.out]), hb⟩
      · have hne : (x == y) = false := by simp [hxy]
        have hxy' := hide hxy; clear hxy
        go_wp2
        go_roundw
        case rel => exact ⟨k + 1, by omega, by go_num, by unfold Hid; rw [← hs.out, hd.out]; simp [idxFrom, hxy'.out], hb⟩
        case measure => simp [intOf]; omega
    · go_wp2
      go_ret
      exact ⟨ret_int (by rw [← hs.out, List.drop_eq_nil_of_le (by omega)]; simp [idxFrom]), hb⟩

set_option maxHeartbeats 400000 in
theorem containsI_any (l : List Int) (x : Int) (S : Nat → Prop) (v : Value) (w : World) (h : Ints w S v l) (hl : l.length ≤ 1000000000) :
    Calls Try.prog 50 #[v, .int .i64 x] w fun e w' => e = .returned (.bool (l.contains x)) ∧ Below w.heap.size w w' := by
  have hany := hide (idxFrom_any (fun y => decide (x = y)) l 0 (by omega))
  obtain ⟨A, c, rfl, hc, _⟩ := ints_form h
  have H := hide h
  clear h
  generalize hi : idxFrom (fun y => decide (x = y)) l 0 = i at *
  have Hi := hide hi
  clear hi
  have hfin : Hid (decide (0 ≤ i) = l.contains x) := by unfold Hid; rw [hany.out, List.contains_eq_any_beq]; congr
  clear hany
  generalize l.contains x = r at *
  go_enter Try.func50, Try.ntmps50
  go_wp2_with fail
  refine (indexI_any l x S _ _ H.out hl).mono ?_
  rintro e w1 ⟨rfl, hb1⟩
  rw [Hi.out]
  go_wp2
  all_goals (go_ret; exact ⟨ret_bool (by first | exact hfin.out | (rw [← hfin.out]; simp; omega)), hb1⟩)

set_option maxHeartbeats 400000 in
theorem indexFuncP_any (l : List Pt) (p : Pt → Bool) (g : Nat) (lb : Array Value) (eg : ∀ args w, (callFunc g args).run Try.prog w = .ok (.enter g args) w)
    (S : Nat → Prop) (v : Value) (w : World) (h : Pts w S v l) (hp : PredB Try.prog g lb (fun x => .agg (encP x).toArray) p w) (hl : l.length ≤ 1000000000) :
    Calls Try.prog 85 #[v, .func (.func g) #[] lb] w fun e w' => e = .returned (.int .i64 (idxFrom p l 0)) ∧ Below w.heap.size w w' := by
  obtain ⟨A, c, rfl, hc, hcell⟩ := pts_form h
  have H := hide hcell
  have HP := hide hp
  clear hcell hp h
  go_enter Try.func85, Try.ntmps85
  go_wp2
  go_loopw [8] (fun i wr => ∃ k : Nat, k ≤ l.length ∧ i = .int .i64 k ∧ Hid (idxFrom p (l.drop k) k = idxFrom p l 0) ∧ Below w.heap.size w wr) (fun i _ => l.length - (intOf i).toNat)
  case atStart => exact ⟨0, Nat.zero_le _, rfl, rfl, by go_grown⟩
  case round =>
    obtain ⟨k, hk, rfl, hs, hb⟩ := hrel
    by_cases hlt : k < l.length
    · obtain ⟨b, off, rfl, hbl, hx0, hx1⟩ := H.out k hlt
      have hx0 := cell_later hb hx0
      have hx1 := cell_later hb hx1
      have hd := hide (drop_cons l k hlt)
      generalize l[k] = x at *
      obtain ⟨x0, x1⟩ := x
      cases hq : p ⟨x0, x1⟩ with
      | true =>
        have hq' := hide hq
        clear hq
        go_wp2_with (go_at_fn g; refine (HP.out _ ⟨x0, x1⟩ hb).mono ?_; rintro e w1 ⟨rfl, hb1⟩; rw [hq'.out])
        go_ret
        exact ⟨ret_int (by rw [← hs.out, hd.out]; simp [idxFrom, hq'.out]), Below.next hb hb1⟩
      | false =>
        have hq' := hide hq
        clear hq
        go_wp2_with (go_at_fn g; refine (HP.out _ ⟨x0, x1⟩ hb).mono ?_; rintro e w1 ⟨rfl, hb1⟩; rw [hq'.out])
        go_roundw
        case rel => exact ⟨k + 1, by omega, by go_num, by unfold Hid; rw [← hs.out, hd.out]; simp [idxFrom, hq'.out], Below.next hb hb1⟩
        case measure => simp [intOf]; omega
    · go_wp2
      go_ret
      exact ⟨ret_int (by rw [← hs.out, List.drop_eq_nil_of_le (by omega)]; simp [idxFrom]), hb⟩

set_option maxHeartbeats 400000 in
theorem containsFuncP_any (l : List Pt) (p : Pt → Bool) (g : Nat) (lb : Array Value) (eg : ∀ args w, (callFunc g args).run Try.prog w = .ok (.enter g args) w)
    (S : Nat → Prop) (v : Value) (w : World) (h : Pts w S v l) (hp : PredB Try.prog g lb (fun x => .agg (encP x).toArray) p w) (hl : l.length ≤ 1000000000) :
    Calls Try.prog 57 #[v, .func (.func g) #[] lb] w fun e w' => e = .returned (.bool (l.any p)) ∧ Below w.heap.size w w' := by
  have hfin := hide (idxFrom_any p l 0 (by omega))
  obtain ⟨A, c, rfl, hc, _⟩ := pts_form h
  have H := hide h
  have HP := hide hp
  clear h hp
  generalize hi : idxFrom p l 0 = i at *
  have Hi := hide hi
  clear hi
  generalize l.any p = r at *
  go_enter Try.func57, Try.ntmps57
  go_wp2_with fail
  refine (indexFuncP_any l p g lb eg S _ _ H.out HP.out hl).mono ?_
  rintro e w1 ⟨rfl, hb1⟩
  rw [Hi.out]
  go_wp2
  all_goals (go_ret; exact ⟨ret_bool (by first | exact hfin.out | (rw [← hfin.out]; simp; omega)), hb1⟩)

set_option maxHeartbeats 400000 in
theorem bsearchP_any (l : List Pt) (tgt : Pt) (cf : Pt → Int) (m : Nat) (found : Bool) (g : Nat) (lb : Array Value) (eg : ∀ args w, (callFunc g args).run Try.prog w = .ok (.enter g args) w)
    (S : Nat → Prop) (v : Value) (w : World) (h : Pts w S v l) (hp : CmpB Try.prog g lb (fun x => .agg (encP x).toArray) (.agg (encP tgt).toArray) cf w) (hl : l.length ≤ 1000000000)
    (hm : m ≤ l.length) (hmono : ∀ k (hk : k < l.length), cf l[k] < 0 ↔ k < m) (hfound : found = if h : m < l.length then decide (cf l[m] = 0) else false) :
    Calls Try.prog 61 #[v, .agg (encP tgt).toArray, .func (.func g) #[] lb] w fun e w' => e = .returned (.tuple #[.int .i64 m, .bool found]) ∧ Below w.heap.size w w' := by
  obtain ⟨A, c, rfl, hc, hcell⟩ := pts_form h
  have H := hide hcell
  have HP := hide hp
  have HM := hide hmono
  have HF := hide hfound
  clear hcell hp h hmono hfound
  obtain ⟨y0, y1⟩ := tgt
  simp only [encP] at HP ⊢
  go_enter Try.func61, Try.ntmps61
  go_wp2
  go_loopw [9, 10] (fun vi vj wr => ∃ (i j : Nat), i ≤ m ∧ m ≤ j ∧ j ≤ l.length ∧ vi = .int .i64 i ∧ vj = .int .i64 j ∧ Below w.heap.size w wr ∧ wr.cell? ⟨w.heap.size, 0, none⟩ = some (.int .i64 y0) ∧ wr.cell? ⟨w.heap.size, 1, none⟩ = some (.int .i64 y1)) (fun vi vj _ => (intOf vj - intOf vi).toNat)
  case atStart => exact ⟨0, l.length, Nat.zero_le _, hm, Nat.le_refl _, rfl, rfl, by go_grown, by simp, by simp⟩
  case round =>
    obtain ⟨i, j, hi, hj, hjl, rfl, rfl, hb, hy0, hy1⟩ := hrel
    by_cases hij : i < j
    · obtain ⟨hh, eh⟩ : ∃ hh : Nat, hh = (i + j) / 2 := ⟨_, rfl⟩
      have eh2 : Hid (((i : Int) + (j : Int)) / 2 = (hh : Int)) := by unfold Hid; omega
      have hih : i ≤ hh := by omega
      have hhj : hh < j := by omega
      have hhl : (hh : Int) < (l.length : Int) := by omega
      have hh0 : (0 : Int) ≤ (hh : Int) := by omega
      clear eh
      obtain ⟨b, off, rfl, hbl, hx0, hx1⟩ := H.out hh (by omega)
      have hx0 := cell_later hb hx0
      have hx1 := cell_later hb hx1
      have hmn := hide (HM.out hh (by omega))
      generalize l[hh] = x at *
      obtain ⟨x0, x1⟩ := x
      go_wp2
      rw [eh2.out]
      go_region_held3 (fun w' => w'.cell? ⟨b, off + hh * 2, none⟩ = some (.int .i64 x0) ∧ w'.cell? ⟨b, off + hh * 2 + 1, none⟩ = some (.int .i64 x1) ∧ w'.cell? ⟨w.heap.size, 0, none⟩ = some (.int .i64 y0) ∧ w'.cell? ⟨w.heap.size, 1, none⟩ = some (.int .i64 y1) ∧ Below w.heap.size w w')
        (first | exact ⟨hx0, hx1, hy0, hy1, hb.drew⟩ | exact ⟨cell_later hb1 hx0, cell_later hb1 hx1, cell_later hb1 hy0, cell_later hb1 hy1, Below.next hb.drew hb1⟩)
        (first | (go_at_fn g; refine (HP.out _ ⟨x0, x1⟩ hb.drew).mono ?_; rintro e w1 ⟨rfl, hb1⟩))
      by_cases hc0 : cf ⟨x0, x1⟩ < 0
      · have hcm : hh < m := hmn.out.1 hc0
        go_wp2
        go_roundw
        case rel => exact ⟨hh + 1, j, by omega, hj, hjl, by go_num, rfl, Below.next hb.drew hb1, cell_later hb1 hy0, cell_later hb1 hy1⟩
        case measure => simp [intOf]; omega
      · have hcm : ¬ hh < m := fun hx => hc0 (hmn.out.2 hx)
        go_wp2
        go_roundw
        case rel => exact ⟨i, hh, hi, by omega, by omega, rfl, rfl, Below.next hb.drew hb1, cell_later hb1 hy0, cell_later hb1 hy1⟩
        case measure => simp [intOf]; omega
    · have him : i = m := by omega
      have hjm : j = m := by omega
      subst him
      subst hjm
      have hij : (j : Int) ≤ (j : Int) := by omega
      by_cases hml : j < l.length
      · have hfo := HF.out
        rw [dif_pos hml] at hfo
        obtain ⟨b, off, rfl, hbl, hx0, hx1⟩ := H.out j hml
        have hx0 := cell_later hb hx0
        have hx1 := cell_later hb hx1
        generalize l[j] = x at *
        obtain ⟨x0, x1⟩ := x
        have hfo' := hide hfo
        clear hfo
        have hml' : (j : Int) < (l.length : Int) := by omega
        have hi0 : (0 : Int) ≤ (j : Int) := by omega
        go_wp2
        go_region_held3 (fun w' => w'.cell? ⟨b, off + j * 2, none⟩ = some (.int .i64 x0) ∧ w'.cell? ⟨b, off + j * 2 + 1, none⟩ = some (.int .i64 x1) ∧ w'.cell? ⟨w.heap.size, 0, none⟩ = some (.int .i64 y0) ∧ w'.cell? ⟨w.heap.size, 1, none⟩ = some (.int .i64 y1) ∧ Below w.heap.size w w')
          (first | exact ⟨hx0, hx1, hy0, hy1, hb.drew⟩ | exact ⟨cell_later hb1 hx0, cell_later hb1 hx1, cell_later hb1 hy0, cell_later hb1 hy1, Below.next hb.drew hb1⟩)
          (first | (go_at_fn g; refine (HP.out _ ⟨x0, x1⟩ hb.drew).mono ?_; rintro e w1 ⟨rfl, hb1⟩))
        go_wp2
        go_ret2
        exact ⟨by rw [hfo'.out]; rfl, Below.next hb.drew hb1⟩
      · have hfo := HF.out
        rw [dif_neg hml] at hfo
        have hfo' := hide hfo
        clear hfo
        have hml' : decide ((j : Int) < (l.length : Int)) = false := by simp; omega
        go_wp2
        go_quiet (fail)
        go_wp2
        go_ret2
        exact ⟨by rw [hfo'.out]; rfl, below_drewN hb _⟩

end Go.Proofs.Ythhnhajldhnfmaa
