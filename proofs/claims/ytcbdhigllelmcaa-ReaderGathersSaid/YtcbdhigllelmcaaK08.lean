/- Go's library, walked: searches. Go's library, walked: what the slices functions that the layers use hand back. Printed by gen_lib.py. Plain laws of layer 35: checked trackers are sorted; where a punctuation is put. The walks of layers 34 and 35, eleventh part: Add. The walks of layers 34 and 35, fourth part: the reference's checks, equality, closures, the latest time. The walks of layers 34 and 35, seventh part: Allows, Same. The walks of layers 34 and 35, eighth part: equality of trackers. Contracts of layers 34 and 35 that were walked by hand, as contracts of the abstract walk. Plain laws of layer 35: the reference's Add is the program's; what a punctuation forbids; several punctuations in any order. The reference of layer 35: With and Add, by the abstract walk. The laws of layer 35, by the abstract walk: Adds, Grows, Implied, Commutes. The abstract walk, fourteenth part: rows frozen; steps counted; weakening between statements. The abstract walk, after its evaluator: rows given up everywhere; contracts whose result holds a row. -/
import Derived.Test.YtcbdhigllelmcaaK07
import Derived.Test.YtcbdhigllelmcaaK06
set_option linter.unusedVariables false
set_option linter.unusedSimpArgs false
namespace Go.Proofs.Ytcbdhigllelmcaa
open Go.RowKit

set_option maxHeartbeats 400000 in
theorem indexI_any (l : List Int) (x : Int) (S : Nat → Prop) (v : Value) (w : World) (h : Ints w S v l) (hl : l.length ≤ 1000000000) :
    Calls Try.prog 90 #[v, .int .i64 x] w fun e w' => e = .returned (.int .i64 (idxFrom (fun y => decide (x = y)) l 0)) ∧ Below w.heap.size w w' := by
  obtain ⟨A, c, rfl, hc, hcell⟩ := ints_form h
  have H := hide hcell
  clear hcell h
  go_enter Try.func90, Try.ntmps90
  go_wp2
  go_loopw [8] (fun i wr => ∃ k : Nat, k ≤ l.length ∧ i = .int .i64 k ∧ Hid (idxFrom (fun y => decide (x = y)) (l.drop k) k = idxFrom (fun y => decide (x = y)) l 0) ∧ Below w.heap.size w wr) (fun i _ => l.length - (intOf i).toNat)
  case atStart => exact ⟨0, Nat.zero_le _, rfl, rfl, by go_grown⟩
  case round =>
    obtain ⟨k, hk, rfl, hs, hb⟩ := hrel
    by_cases hlt : k < l.length
    · obtain ⟨b, off, rfl, hbl, hx⟩ := H.out k hlt
      have hx := cell_later hb hx
      have hd := hide (drop_cons l k hlt)
      generalize l[k] = y at *
      by_cases hxy : x = y
      · have hne : (x == y) = true := by simp [hxy]
        have hxy' := hide hxy; clear hxy
        go_wp2
        go_ret
        exact ⟨ret_int (by rw [← hs.out, hd.out]; simp [idxFrom, hxy'.out]), hb⟩
      · have hne : (x == y) = false := by simp [hxy]
        have hxy' := hide hxy; clear hxy
        go_wp2
        go_roundw
        case rel => exact ⟨k + 1, by omega, by go_num, by unfold Hid; rw [← hs.out, hd.out]; simp [idxFrom, hxy'.out], hb⟩
        case measure => simp [intOf]; omega
    · go_wp2
      go_ret
      exact ⟨ret_int (by rw [← hs.out, List.drop_eq_nil_of_le (by omega)]; simp [idxFrom]), hb⟩

set_option maxHeartbeats 400000 in
theorem containsI_any (l : List Int) (x : Int) (S : Nat → Prop) (v : Value) (w : World) (h : Ints w S v l) (hl : l.length ≤ 1000000000) :
    Calls Try.prog 76 #[v, .int .i64 x] w fun e w' => e = .returned (.bool (l.contains x)) ∧ Below w.heap.size w w' := by
  have hany := hide (idxFrom_any (fun y => decide (x = y)) l 0 (by omega))
  obtain ⟨A, c, rfl, hc, _⟩ := ints_form h
  have H := hide h
  clear h
  generalize hi : idxFrom (fun y => decide (x = y)) l 0 = i at *
  have Hi := hide hi
  clear hi
  have hfin : Hid (decide (0 ≤ i) = l.contains x) := by unfold Hid; rw [hany.out, List.contains_eq_any_beq]; congr
  clear hany
  generalize l.contains x = r at *
  go_enter Try.func76, Try.ntmps76
  go_wp2_with fail
  refine (indexI_any l x S _ _ H.out hl).mono ?_
  rintro e w1 ⟨rfl, hb1⟩
  rw [Hi.out]
  go_wp2
  all_goals (go_ret; exact ⟨ret_bool (by first | exact hfin.out | (rw [← hfin.out]; simp; omega)), hb1⟩)

set_option maxHeartbeats 400000 in
theorem indexFuncP_any (l : List Pt) (p : Pt → Bool) (g : Nat) (lb : Array Value) (eg : ∀ args w, (callFunc g args).run Try.prog w = .ok (.enter g args) w)
    (S : Nat → Prop) (v : Value) (w : World) (h : Pts w S v l) (hp : PredB Try.prog g lb (fun x => .agg (encP x).toArray) p w) (hl : l.length ≤ 1000000000) :
    Calls Try.prog 93 #[v, .func (.func g) #[] lb] w fun e w' => e = .returned (.int .i64 (idxFrom p l 0)) ∧ Below w.heap.size w w' := by
  obtain ⟨A, c, rfl, hc, hcell⟩ := pts_form h
  have H := hide hcell
  have HP := hide hp
  clear hcell hp h
  go_enter Try.func93, Try.ntmps93
  go_wp2
  go_loopw [8] (fun i wr => ∃ k : Nat, k ≤ l.length ∧ i = .int .i64 k ∧ Hid (idxFrom p (l.drop k) k = idxFrom p l 0) ∧ Below w.heap.size w wr) (fun i _ => l.length - (intOf i).toNat)
  case atStart => exact ⟨0, Nat.zero_le _, rfl, rfl, by go_grown⟩
  case round =>
    obtain ⟨k, hk, rfl, hs, hb⟩ := hrel
    by_cases hlt : k < l.length
    · obtain ⟨b, off, rfl, hbl, hx0, hx1⟩ := H.out k hlt
      have hx0 := cell_later hb hx0
      have hx1 := cell_later hb hx1
      have hd := hide (drop_cons l k hlt)
      generalize l[k] = x at *
      obtain ⟨x0, x1⟩ := x
      cases hq : p ⟨x0, x1⟩ with
      | true =>
        have hq' := hide hq
        clear hq
        go_wp2_with (go_at_fn g; refine (HP.out _ ⟨x0, x1⟩ hb).mono ?_; rintro e w1 ⟨rfl, hb1⟩; rw [hq'.out])
        go_ret
        exact ⟨ret_int (by rw [← hs.out, hd.out]; simp [idxFrom, hq'.out]), Below.next hb hb1⟩
      | false =>
        have hq' := hide hq
        clear hq
        go_wp2_with (go_at_fn g; refine (HP.out _ ⟨x0, x1⟩ hb).mono ?_; rintro e w1 ⟨rfl, hb1⟩; rw [hq'.out])
        go_roundw
        case rel => exact ⟨k + 1, by omega, by go_num, by unfold Hid; rw [← hs.out, hd.out]; simp [idxFrom, hq'.out], Below.next hb hb1⟩
        case measure => simp [intOf]; omega
    · go_wp2
      go_ret
      exact ⟨ret_int (by rw [← hs.out, List.drop_eq_nil_of_le (by omega)]; simp [idxFrom]), hb⟩

set_option maxHeartbeats 400000 in
theorem containsFuncP_any (l : List Pt) (p : Pt → Bool) (g : Nat) (lb : Array Value) (eg : ∀ args w, (callFunc g args).run Try.prog w = .ok (.enter g args) w)
    (S : Nat → Prop) (v : Value) (w : World) (h : Pts w S v l) (hp : PredB Try.prog g lb (fun x => .agg (encP x).toArray) p w) (hl : l.length ≤ 1000000000) :
    Calls Try.prog 82 #[v, .func (.func g) #[] lb] w fun e w' => e = .returned (.bool (l.any p)) ∧ Below w.heap.size w w' := by
  have hfin := hide (idxFrom_any p l 0 (by omega))
  obtain ⟨A, c, rfl, hc, _⟩ := pts_form h
  have H := hide h
  have HP := hide hp
  clear h hp
  generalize hi : idxFrom p l 0 = i at *
  have Hi := hide hi
  clear hi
  generalize l.any p = r at *
  go_enter Try.func82, Try.ntmps82
  go_wp2_with fail
  refine (indexFuncP_any l p g lb eg S _ _ H.out HP.out hl).mono ?_
  rintro e w1 ⟨rfl, hb1⟩
  rw [Hi.out]
  go_wp2
  all_goals (go_ret; exact ⟨ret_bool (by first | exact hfin.out | (rw [← hfin.out]; simp; omega)), hb1⟩)

set_option maxHeartbeats 400000 in
theorem bsearchP_any (l : List Pt) (tgt : Pt) (cf : Pt → Int) (m : Nat) (found : Bool) (g : Nat) (lb : Array Value) (eg : ∀ args w, (callFunc g args).run Try.prog w = .ok (.enter g args) w)
    (S : Nat → Prop) (v : Value) (w : World) (h : Pts w S v l) (hp : CmpB Try.prog g lb (fun x => .agg (encP x).toArray) (.agg (encP tgt).toArray) cf w) (hl : l.length ≤ 1000000000)
    (hm : m ≤ l.length) (hmono : ∀ k (hk : k < l.length), cf l[k] < 0 ↔ k < m) (hfound : found = if h : m < l.length then decide (cf l[m] = 0) else false) :
    Calls Try.prog 86 #[v, .agg (encP tgt).toArray, .func (.func g) #[] lb] w fun e w' => e = .returned (.tuple #[.int .i64 m, .bool found]) ∧ Below w.heap.size w w' := by
  obtain ⟨A, c, rfl, hc, hcell⟩ := pts_form h
  have H := hide hcell
  have HP := hide hp
  have HM := hide hmono
  have HF := hide hfound
  clear hcell hp h hmono hfound
  obtain ⟨y0, y1⟩ := tgt
  simp only [encP] at HP ⊢
  go_enter Try.func86, Try.ntmps86
  go_wp2
  go_loopw [9, 10] (fun vi vj wr => ∃ (i j : Nat), i ≤ m ∧ m ≤ j ∧ j ≤ l.length ∧ vi = .int .i64 i ∧ vj = .int .i64 j ∧ Below w.heap.size w wr ∧ wr.cell? ⟨w.heap.size, 0, none⟩ = some (.int .i64 y0) ∧ wr.cell? ⟨w.heap.size, 1, none⟩ = some (.int .i64 y1)) (fun vi vj _ => (intOf vj - intOf vi).toNat)
  case atStart => exact ⟨0, l.length, Nat.zero_le _, hm, Nat.le_refl _, rfl, rfl, by go_grown, by simp, by simp⟩
  case round =>
    obtain ⟨i, j, hi, hj, hjl, rfl, rfl, hb, hy0, hy1⟩ := hrel
    by_cases hij : i < j
    · obtain ⟨hh, eh⟩ : ∃ hh : Nat, hh = (i + j) / 2 := ⟨_, rfl⟩
      have eh2 : Hid (((i : Int) + (j : Int)) / 2 = (hh : Int)) := by unfold Hid; omega
      have hih : i ≤ hh := by omega
      have hhj : hh < j := by omega
      have hhl : (hh : Int) < (l.length : Int) := by omega
      have hh0 : (0 : Int) ≤ (hh : Int) := by omega
      clear eh
      obtain ⟨b, off, rfl, hbl, hx0, hx1⟩ := H.out hh (by omega)
      have hx0 := cell_later hb hx0
      have hx1 := cell_later hb hx1
      have hmn := hide (HM.out hh (by omega))
      generalize l[hh] = x at *
      obtain ⟨x0, x1⟩ := x
      go_wp2
      rw [eh2.out]
      go_region_held3 (fun w' => w'.cell? ⟨b, off + hh * 2, none⟩ = some (.int .i64 x0) ∧ w'.cell? ⟨b, off + hh * 2 + 1, none⟩ = some (.int .i64 x1) ∧ w'.cell? ⟨w.heap.size, 0, none⟩ = some (.int .i64 y0) ∧ w'.cell? ⟨w.heap.size, 1, none⟩ = some (.int .i64 y1) ∧ Below w.heap.size w w')
        (first | exact ⟨hx0, hx1, hy0, hy1, hb.drew⟩ | exact ⟨cell_later hb1 hx0, cell_later hb1 hx1, cell_later hb1 hy0, cell_later hb1 hy1, Below.next hb.drew hb1⟩)
        (first | (go_at_fn g; refine (HP.out _ ⟨x0, x1⟩ hb.drew).mono ?_; rintro e w1 ⟨rfl, hb1⟩))
      by_cases hc0 : cf ⟨x0, x1⟩ < 0
      · have hcm : hh < m := hmn.out.1 hc0
        go_wp2
        go_roundw
        case rel => exact ⟨hh + 1, j, by omega, hj, hjl, by go_num, rfl, Below.next hb.drew hb1, cell_later hb1 hy0, cell_later hb1 hy1⟩
        case measure => simp [intOf]; omega
      · have hcm : ¬ hh < m := fun hx => hc0 (hmn.out.2 hx)
        go_wp2
        go_roundw
        case rel => exact ⟨i, hh, hi, by omega, by omega, rfl, rfl, Below.next hb.drew hb1, cell_later hb1 hy0, cell_later hb1 hy1⟩
        case measure => simp [intOf]; omega
    · have him : i = m := by omega
      have hjm : j = m := by omega
      subst him
      subst hjm
      have hij : (j : Int) ≤ (j : Int) := by omega
      by_cases hml : j < l.length
      · have hfo := HF.out
        rw [dif_pos hml] at hfo
        obtain ⟨b, off, rfl, hbl, hx0, hx1⟩ := H.out j hml
        have hx0 := cell_later hb hx0
        have hx1 := cell_later hb hx1
        generalize l[j] = x at *
        obtain ⟨x0, x1⟩ := x
        have hfo' := hide hfo
        clear hfo
        have hml' : (j : Int) < (l.length : Int) := by omega
        have hi0 : (0 : Int) ≤ (j : Int) := by omega
        go_wp2
        go_region_held3 (fun w' => w'.cell? ⟨b, off + j * 2, none⟩ = some (.int .i64 x0) ∧ w'.cell? ⟨b, off + j * 2 + 1, none⟩ = some (.int .i64 x1) ∧ w'.cell? ⟨w.heap.size, 0, none⟩ = some (.int .i64 y0) ∧ w'.cell? ⟨w.heap.size, 1, none⟩ = some (.int .i64 y1) ∧ Below w.heap.size w w')
          (first | exact ⟨hx0, hx1, hy0, hy1, hb.drew⟩ | exact ⟨cell_later hb1 hx0, cell_later hb1 hx1, cell_later hb1 hy0, cell_later hb1 hy1, Below.next hb.drew hb1⟩)
          (first | (go_at_fn g; refine (HP.out _ ⟨x0, x1⟩ hb.drew).mono ?_; rintro e w1 ⟨rfl, hb1⟩))
        go_wp2
        go_ret2
        exact ⟨by rw [hfo'.out]; rfl, Below.next hb.drew hb1⟩
      · have hfo := HF.out
        rw [dif_neg hml] at hfo
        have hfo' := hide hfo
        clear hfo
        have hml' : decide ((j : Int) < (l.length : Int)) = false := by simp; omega
        go_wp2
        go_quiet (fail)
        go_wp2
        go_ret2
        exact ⟨by rw [hfo'.out]; rfl, below_drewN hb _⟩

end Go.Proofs.Ytcbdhigllelmcaa
namespace Go.Proofs.Ytcbdhigllelmcaa
open Go.RowKit

set_option maxRecDepth 100000 in
set_option maxHeartbeats 1600000 in
theorem insertP_any (l : List Pt) (x : Pt) (i : Nat) (base : Nat) (A : Option Addr) (c g : Nat) (w : World) (ho : Own w base 96 2 encP (.slice A l.length c) l)
    (hx : Blk w g 96 (encP x).toArray) (hne : (Value.slice A l.length c).ownBlock ≠ some g) (hi : i ≤ l.length) (hl : l.length ≤ 1000000000) (hbase : base ≤ w.heap.size) :
    Calls Try.prog 88 #[.slice A l.length c, .int .i64 i, .slice (some ⟨g, 0, none⟩) 1 1] w (RetIns 96 2 encP base (.slice A l.length c) (l.take i ++ x :: l.drop i) w) := by
  have hlen : (l.take i ++ x :: l.drop i).length = l.length + 1 := by simp; omega
  have hxl : (encP x).length = 2 := rfl
  by_cases hin : i = l.length
  · subst hin
    have hsl : Hid (Sl w (fun _ => True) 2 encP (.slice (some ⟨g, 0, none⟩) 1 1) [x]) := Sl.one_ (Nat.le_refl _) hx.lt trivial (fun j u hu => by rw [hx.cell]; simpa using hu)
    have H := hide ho
    have hll : Hid (l.take l.length ++ x :: l.drop l.length = l ++ [x]) := by simp [Hid]
    have hc : l.length ≤ c := by obtain ⟨_, _, he, h1, _⟩ := ho.val; injection he with _ _ hc; omega
    rw [hll.out]
    clear ho hx hne hlen
    go_enter Try.func88, Try.ntmps88
    go_wp2_with (at_builtin; refine wpList_append_sl (v := .slice A l.length c) rfl _ _ rfl eok_pts rfl H.out rfl hsl.out (by simp; omega) (by omega) hbase ?_; intro A2 c2 w2 ho2 hg2 _)
    all_goals (go_ret; exact ⟨A2, c2, by simp, ho2, by cases A <;> exact hg2⟩)
  · rcases ho.2 with ⟨hv, h0⟩ | ⟨g', cap, cur, hv, hbg, hh, hnc, hcm, hcs, htake⟩
    · omega
    injection hv with hA _ hcc
    subst hA
    subst hcc
    have hgg : g' ≠ g := fun e => hne (by simp [Value.ownBlock, e])
    have hlt : i < l.length := by omega
    have hF1 : ((l.take i).flatMap encP).length = i * 2 := by rw [flatMap_len (sz := 2) (fun _ => rfl)]; simp; omega
    have hF2 : ((l.drop i).flatMap encP).length = (l.length - i) * 2 := by rw [flatMap_len (sz := 2) (fun _ => rfl)]; simp
    have hF12 : (l.take i).flatMap encP ++ (l.drop i).flatMap encP = l.flatMap encP := by rw [← List.flatMap_append, List.take_append_drop]
    have hres : (l.take i ++ x :: l.drop i).flatMap encP = (l.take i).flatMap encP ++ encP x ++ (l.drop i).flatMap encP := by simp [List.flatMap_append, List.flatMap_cons]
    have h2 := flatMap_one eok_pts.one (l.drop i)
    have hX1 := eok_pts.one x
    have hcur : cur.toList = (l.take i).flatMap encP ++ (l.drop i).flatMap encP ++ cur.toList.drop (l.length * 2) := by rw [hF12, ← htake, List.take_append_drop]
    generalize hf1 : (l.take i).flatMap encP = F1 at *
    generalize hf2 : (l.drop i).flatMap encP = F2 at *
    generalize hX : encP x = X at *
    have hRl : (cur.toList.drop (l.length * 2)).length = c * 2 - l.length * 2 := by simp [hcs]
    generalize cur.toList.drop (l.length * 2) = R at *
    obtain ⟨cur⟩ := cur
    simp only at hcur
    subst hcur
    generalize hn : l.length = n at *
    by_cases hroom : n + 1 ≤ c
    · have hhi : (i : Int) < (n : Int) := by omega
      have hB0 : Blk w g' 96 (F1 ++ F2 ++ R).toArray := hh
      have hov : ∀ lb cb, (callFunc 94 #[.slice (some ⟨g, 0, none⟩) 1 1, .slice (some ⟨g', (i + 1) * 2, none⟩) lb cb]).run Try.prog w = .ok (.value (.bool false)) w := fun lb cb => by
        rw [run_callFunc_extern Try.func94 (by kernel_rfl) (by kernel_rfl) (by kernel_rfl) (e := Extern.SlicesOverlaps.overlaps #[49, 49] #[4]) (by kernel_rfl),
          Lib.run_overlaps_apart w 49 4 96 Try.underlying49 2 (fun _ => by kernel_rfl) ⟨g, 0, none⟩ ⟨g', (i + 1) * 2, none⟩ 1 1 lb cb (fun e => hgg e.symm) 96 96 X.toArray.size (F1 ++ F2 ++ R).toArray.size (hx.shape) (hB0.shape) (by rw [List.size_toArray, List.length_append, List.length_append]; omega) (hx.frozen _) (hx.frozen _)]
        rfl
      have hBH := hide hB0
      have hxH := hide hx
      have hdl : Hid (F2.length = Nat.min (n + 1 - i) (n - i) * 2) := by unfold Hid; rw [show Nat.min (n + 1 - i) (n - i) = n - i from Nat.min_eq_right (by omega)]; exact hF2
      have hsrc : Hid (∀ (W : World), W.heap = w.heap → ∀ j u, F2[j]? = some u → W.cell? ((⟨g', i * 2, none⟩ : Addr).add j) = some u) := fun W hW j u hu => by
        have e : Blk W g' 96 (F1 ++ F2 ++ R).toArray := by unfold Blk; rw [hW]; exact hB0
        rw [Addr.add_lit, e.cell]
        have hj := (List.getElem?_eq_some_iff.1 hu).1
        simp only [List.getElem?_toArray]
        rw [List.append_assoc, List.getElem?_append_right (by omega), List.getElem?_append_left (by omega), show i * 2 + j - F1.length = j by omega]
        exact hu
      have hHx := hide h2
      have HL := hide (And.intro hlen (And.intro hres (And.intro hbg hcs)))
      have hxl := hide hxl
      clear hx hB0 hh htake hne hF12 hcs ho h2 hlen hres
      go_enter Try.func88, Try.ntmps88
      go_wp2_with fail
      have hw1 : IntKind.i64.wrap ((i : Int) + 1) = (i : Int) + 1 := by rw [IntKind.wrap_i64]; omega
      have hb1 : (0 : Int) ≤ (i : Int) + 1 := by omega
      have hii : i ≤ n := by omega
      have htn : ((i : Int) + 1).toNat = i + 1 := by omega
      have hb2 : ¬ (c = i + 1) := by omega
      have hb3 : (i : Int) ≤ (n : Int) + 1 := by omega
      have hb4 : ¬ (c = i) := by omega
      go_region_law (refine step_copy_blk rfl _ _ 49 49 rfl 96 2 Try.underlying49 (by kernel_rfl) g' ((i + 1) * 2) (n - i) (c - (i + 1)) (n + 1 - i) (c - i) ⟨g', i * 2, none⟩ (by simp [Act.eval, Act.put]) (by simp [Act.eval, Act.put]) 96 (F1 ++ F2 ++ R) hBH.out F2 hdl.out (hsrc.out _ rfl) (by simp; omega) hHx.out ?_; intro w1 hB1 hg1)
      clear hw1 hb1 htn hb2
      have hB1' : Hid (Blk w1 g' 96 ((F1 ++ F2 ++ R).take (i * 2 + 2) ++ F2 ++ (F1 ++ F2 ++ R).drop (i * 2 + 2 + F2.length)).toArray) := by
        have e : (i + 1) * 2 = i * 2 + 2 := by omega
        rw [e] at hB1
        exact hB1
      have hX2 : Hid (∀ j u, X[j]? = some u → w1.cell? ((⟨g, 0, none⟩ : Addr).add j) = some u) := fun j u hu => by
        have e : Blk w1 g 96 X.toArray := Blk.grown (w := w.drew) hxH.out hg1 (by simp; omega)
        rw [Addr.add_lit, e.cell]
        simpa using hu
      have hg1' := hide (grownBy_drew_then hg1)
      have hX1' := hide hX1
      clear hB1 hg1 hX1
      go_wp2_with (refine wpList_copy_blk rfl (.tmp 80) (.tmp 81) 49 49 rfl 96 2 Try.underlying49 (by kernel_rfl) g' (i * 2) (n + 1 - i) (c - i) 1 1 ⟨g, 0, none⟩ rfl rfl 96 _ hB1'.out X (by rw [show Nat.min 1 (n + 1 - i) = 1 from Nat.min_eq_left (by omega)]; exact hxl.out) hX2.out (by have := hxl.out; have := hRl; simp; omega) hX1'.out ?_; intro w2 hB2 hg2)
      go_ret
      have hfin := HL.out
      refine ⟨some ⟨g', 0, none⟩, c, by show Ending.returned (.slice (some ⟨g', 0, none⟩) (n + 1) c) = _; rw [hfin.1], Own.of_blk hB2 hfin.2.2.1 (by rw [hfin.1]; exact hroom) hcm (by have := hxl.out; have := hRl; simp; omega) ?_ (fun _ => rfl), grownBy_trans hg1'.out hg2⟩
      rw [hfin.1, hfin.2.1, ← insert_in_place F1 F2 R X (i * 2) 2 ((n - i) * 2) hF1 hF2 hxl.out (by omega)]
      congr 1
      omega
    · have hB0 : Blk w g' 96 (F1 ++ F2 ++ R).toArray := hh
      obtain ⟨i0, z, hi0, hz0, hzs, hzb, hzc⟩ := eok_pts.inf
      have hik : i + (n + 1 - i) = n + 1 := by omega
      have hkk : (n : Int) + 1 - (i : Int) = ((n + 1 - i : Nat) : Int) := by omega
      have hgw : g' < w.heap.size := hB0.lt
      have hgx : g < w.heap.size := hx.lt
      have hold : (Builtin.firstCells i0.size i (.slice (some ⟨g', 0, none⟩) i c)).run Try.prog w.drew = .ok F1.toArray w.drew := by
        rw [hzs]
        refine run_firstCells_some w.drew 2 i ⟨g', 0, none⟩ i c F1 hF1 (fun j v hj => ?_)
        have hjl := (List.getElem?_eq_some_iff.1 hj).1
        rw [Addr.add_lit]
        refine (hB0.cell _).trans ?_
        simp only [List.getElem?_toArray, Nat.zero_add]
        rw [List.append_assoc, List.getElem?_append_left (by omega)]
        exact hj
      have hrz := fun ty => Lib.run_append_grow_zeros w 49 3 ty 96 i0 z .i64 .i64 eok_pts.und Try.underlying3 hi0 hz0 (some ⟨g', 0, none⟩) i c F1 hold (n + 1 - i) (by omega) (by omega) (by omega) (by omega) (by rw [hzb]; omega) (by rw [hzb, hik]; exact growslice_fits (by omega) (by omega))
      rw [hik] at hrz
      obtain ⟨G, hG⟩ : ∃ G, G = grownCap w (n + 1) c 96 := ⟨_, rfl⟩
      rw [← hG] at hrz
      have hGn : n + 1 ≤ G := by rw [hG]; exact grownCap_ge w _ _ _
      have hG63 : G ≤ maxLen := by rw [hG]; exact grownCap_le_maxLen w (n + 1) c 96 (by unfold maxLen; omega)
      obtain ⟨Z, hZ, hZl⟩ : ∃ Z : List Value, F1.toArray ++ Builtin.zeroCells z.cells (n + 1 - i) ++ Builtin.zeroCells z.cells (G - (n + 1)) = (F1 ++ Z).toArray ∧ Z.length = (G - i) * 2 :=
        ⟨(Builtin.zeroCells z.cells (n + 1 - i)).toList ++ (Builtin.zeroCells z.cells (G - (n + 1))).toList, by simp [Array.append_assoc], by simp [size_zeroCells, hzc]; omega⟩
      rw [hZ] at hrz
      obtain ⟨W1, hW1⟩ : ∃ W1, W1 = w.drew.alloc (.cells (F1 ++ Z).toArray 96) := ⟨_, rfl⟩
      have hBN : Hid (Blk W1 w.heap.size 96 (F1 ++ Z).toArray) := by rw [hW1]; exact Blk.new w.drew _ _
      have hxN : Hid (Blk W1 g 96 X.toArray) := by rw [hW1]; exact Blk.alloc (w := w.drew) hx _
      have hB1 : Hid (Blk W1 g' 96 (F1 ++ F2 ++ R).toArray) := by rw [hW1]; exact Blk.alloc (w := w.drew) hB0 _
      have hgW : Hid (∀ b, W1.grownBy b (some w.heap.size) → ∀ row, w.grownBy b row) := fun b hb row => by
        rw [hW1] at hb
        exact grownBy_drew_then (grownBy_alloc_then hb row)
      have hrz' : Hid (∀ ty, (Builtin.append_ #[49, 3] ty #[.slice (some ⟨g', 0, none⟩) i c, .int .i64 ((n : Int) + 1 - (i : Int))]).run Try.prog w = .ok (.slice (some ⟨w.heap.size, 0, none⟩) (n + 1) G) W1) := fun ty => by
        rw [hkk, hW1]
        exact hrz ty
      have hX2 : Hid (∀ j u, X[j]? = some u → W1.cell? ((⟨g, 0, none⟩ : Addr).add j) = some u) := fun j u hu => by
        rw [Addr.add_lit, hxN.out.cell]
        simpa using hu
      have HL := hide (And.intro hlen (And.intro hres (And.intro hbg hcs)))
      have hxl := hide hxl
      have hX1' := hide hX1
      have h2' := hide h2
      have hF2' : Hid (F2.length = Nat.min (n - i) (n - i) * 2) := by unfold Hid; rw [show Nat.min (n - i) (n - i) = n - i from Nat.min_self _]; exact hF2
      have hhi : (i : Int) < (n : Int) := by omega
      have hhc : (c : Int) < (n : Int) + 1 := by omega
      have hii : i ≤ n := by omega
      have hci : ¬ (c = i) := by omega
      have hGi : ¬ (G = i) := by omega
      have hGi1 : ¬ (G = i + 1) := by omega
      have hGl : G ≤ 9223372036854775807 := by unfold maxLen at hG63; omega
      clear hx hB0 hh htake hne hF12 hcs ho h2 hlen hres hX1 hrz hold hW1 hZ hG hkk hzs hzb hzc hz0 hi0 hcm
      go_enter Try.func88, Try.ntmps88
      go_wp2_with (first | (at_builtin; refine Lib.wpList_append_run _ rfl _ _ _ _ rfl _ _ rfl rfl _ _ (hrz'.out _) ?_) | (refine wpList_copy_blk rfl (.tmp 43) (.tmp 44) 49 49 rfl 96 2 Try.underlying49 (by kernel_rfl) w.heap.size (i * 2) (n + 1 - i) (G - i) 1 1 ⟨g, 0, none⟩ rfl rfl 96 _ hBN.out X (by rw [show Nat.min 1 (n + 1 - i) = 1 from Nat.min_eq_left (by omega)]; exact hxl.out) hX2.out (by have := hxl.out; simp; omega) hX1'.out ?_; intro w2 hB2 hg2))
      have hgN : g' ≠ w.heap.size := by omega
      have hsrc : Hid (∀ j u, F2[j]? = some u → w2.cell? ((⟨g', i * 2, none⟩ : Addr).add j) = some u) := fun j u hu => by
        have e : Blk w2 g' 96 (F1 ++ F2 ++ R).toArray := hB1.out.grown hg2 (by simp; omega)
        rw [Addr.add_lit, e.cell]
        have hj := (List.getElem?_eq_some_iff.1 hu).1
        simp only [List.getElem?_toArray]
        rw [List.append_assoc, List.getElem?_append_right (by omega), List.getElem?_append_left (by omega), show i * 2 + j - F1.length = j by omega]
        exact hu
      have hg2' := hide hg2
      have hB2' := hide hB2
      have hw1 : IntKind.i64.wrap ((i : Int) + 1) = (i : Int) + 1 := by rw [IntKind.wrap_i64]; omega
      have hb1 : (0 : Int) ≤ (i : Int) + 1 := by omega
      have htn : ((i : Int) + 1).toNat = i + 1 := by omega
      have hb3 : (i : Int) ≤ (n : Int) := by omega
      have hb5 : (i : Int) + 1 ≤ (n : Int) + 1 := by omega
      clear hg2 hB2
      go_region_law (refine step_copy_blk rfl _ _ 49 49 rfl 96 2 Try.underlying49 (by kernel_rfl) w.heap.size ((i + 1) * 2) (n - i) (G - (i + 1)) (n - i) (c - i) ⟨g', i * 2, none⟩ (by simp [Act.eval, Act.put]) (by simp [Act.eval, Act.put]) 96 _ hB2'.out F2 hF2'.out hsrc.out (by have := hxl.out; simp; omega) h2'.out ?_; intro w3 hB3 hg3)
      clear hw1 hb1 htn hb3 hb5
      have hB3' : Hid (Blk w3 w.heap.size 96 (((F1 ++ Z).take (i * 2) ++ X ++ (F1 ++ Z).drop (i * 2 + X.length)).take (i * 2 + 2) ++ F2 ++ ((F1 ++ Z).take (i * 2) ++ X ++ (F1 ++ Z).drop (i * 2 + X.length)).drop (i * 2 + 2 + F2.length)).toArray) := by
        have e : (i + 1) * 2 = i * 2 + 2 := by omega
        rw [e] at hB3
        exact hB3
      have hg3' := hide (grownBy_drew_then hg3)
      clear hB3 hg3
      go_wp2
      go_ret
      have hfin := HL.out
      have hx2 := hxl.out
      refine ⟨some ⟨w.heap.size, 0, none⟩, G, by show Ending.returned (.slice (some ⟨w.heap.size, 0, none⟩) (n + 1) G) = _; rw [hfin.1], Own.of_blk hB3'.out hbase (by rw [hfin.1]; exact hGn) hG63 (by simp; omega) ?_ (fun _ => rfl), hgW.out _ (grownBy_trans hg2'.out hg3'.out) _⟩
      rw [hfin.1, hfin.2.1, ← insert_grown F1 F2 Z X (i * 2) 2 ((n - i) * 2) hF1 hF2 hx2 (by omega)]
      congr 1
      omega

end Go.Proofs.Ytcbdhigllelmcaa
namespace Go.Proofs.Ytcbdhigllelmcaa
open Go.RowKit

def PtOk (p : Pt) : Prop := 0 ≤ p.seq ∧ p.seq ≤ 1099511627777 ∧ 0 ≤ p.time ∧ p.time ≤ 1099511627776
theorem ptValid_iff (p : Pt) : ptValid p = true ↔ PtOk p := by simp [ptValid, PtOk]
def Asc2 (a b : Pt) : Prop := a.seq < b.seq ∧ a.time < b.time

theorem ascLoop_zero (last : Pt) (l : List Pt) : ascLoop last l = 0 ↔ (∀ p ∈ l, PtOk p) ∧ (last :: l).Pairwise Asc2 := by
  induction l generalizing last with
  | nil => simp [ascLoop]
  | cons x r ih =>
    unfold ascLoop
    by_cases hv : ptValid x = true
    · rw [if_neg (by simp [hv])]
      by_cases ho : x.seq ≤ last.seq ∨ x.time ≤ last.time
      · rw [if_pos ho]
        constructor
        · intro h; omega
        · rintro ⟨_, h⟩
          have := (List.pairwise_cons.1 h).1 x (by simp)
          unfold Asc2 at this
          omega
      · rw [if_neg ho, ih]
        have hx := (ptValid_iff x).1 hv
        have hlx : Asc2 last x := by unfold Asc2; omega
        constructor
        · rintro ⟨h1, h2⟩
          refine ⟨fun p hp => ?_, ?_⟩
          · rcases List.mem_cons.1 hp with rfl | hp
            · exact hx
            · exact h1 p hp
          · refine List.pairwise_cons.2 ⟨fun p hp => ?_, h2⟩
            rcases List.mem_cons.1 hp with rfl | hp
            · exact hlx
            · have := (List.pairwise_cons.1 h2).1 p hp
              unfold Asc2 at *
              omega
        · rintro ⟨h1, h2⟩
          exact ⟨fun p hp => h1 p (by simp [hp]), (List.pairwise_cons.1 h2).2⟩
    · rw [if_pos (by simpa using hv)]
      constructor
      · intro h; omega
      · rintro ⟨h, _⟩
        exact absurd ((ptValid_iff x).2 (h x (by simp))) hv

structure TOk (t : Trk) : Prop where
  sq : sqCheck t = 0
  mark : -1 ≤ t.mark ∧ t.mark ≤ 1099511627776
  len : t.points.length ≤ 256
  ok : ∀ p ∈ t.points, PtOk p
  asc : (⟨t.next, t.mark⟩ :: t.points).Pairwise Asc2

theorem puCheck_zero (t : Trk) : puCheck t = 0 ↔ TOk t := by
  unfold puCheck Go.Proofs.Ytcbdhigllelmcaa.asc
  constructor
  · intro h
    split at h
    · contradiction
    · rename_i hs
      split at h
      · omega
      · split at h
        · omega
        · obtain ⟨h1, h2⟩ := (ascLoop_zero _ _).1 h
          exact ⟨by simpa using hs, by omega, by omega, h1, h2⟩
  · intro h
    rw [if_neg (by simp [h.sq]), if_neg (by have := h.mark; omega), if_neg (by have := h.len; omega)]
    exact (ascLoop_zero _ _).2 ⟨h.ok, h.asc⟩

theorem below_lt (l : List Pt) (s : Int) (h : l.Pairwise fun a b => a.seq < b.seq) : ∀ k (hk : k < l.length), l[k].seq < s ↔ k < below l s := by
  induction l with
  | nil => intro k hk; simp at hk
  | cons x r ih =>
    intro k hk
    have h' := List.pairwise_cons.1 h
    unfold below
    by_cases hx : x.seq < s
    · rw [List.filter_cons_of_pos (by simpa using hx), List.length_cons]
      cases k with
      | zero => simp [hx]
      | succ k => simpa [below] using ih h'.2 k (by simpa using hk)
    · rw [List.filter_cons_of_neg (by simpa using hx)]
      have hall : r.filter (fun p => decide (p.seq < s)) = [] := by
        rw [List.filter_eq_nil_iff]
        intro p hp
        have := h'.1 p hp
        simp; omega
      rw [hall]
      cases k with
      | zero => simp [hx]
      | succ k =>
        have hk' : k < r.length := by simpa using hk
        have := h'.1 r[k] (List.getElem_mem hk')
        simp; omega
theorem below_le (l : List Pt) (s : Int) : below l s ≤ l.length := List.length_filter_le _ _

theorem add_mono (t : Trk) (p : Pt) (q : Pt → Bool) (h : puCheck t = 0) (hp : ptValid p = true) : ∀ k (hk : k < (t.points.filter q).length), wrap64 ((t.points.filter q)[k].seq - p.seq) < 0 ↔ k < below (t.points.filter q) p.seq := by
  intro k hk
  have ht := (puCheck_zero t).1 h
  have hps := (ptValid_iff p).1 hp
  have hpw : (t.points.filter q).Pairwise fun a b => a.seq < b.seq := ((List.pairwise_cons.1 ht.asc).2.imp fun h => h.1).filter q
  have hmem := List.getElem_mem hk
  have hok := ht.ok _ (List.mem_filter.1 hmem).1
  rw [← below_lt _ _ hpw k hk]
  unfold PtOk at *
  have hw : wrap64 ((t.points.filter q)[k].seq - p.seq) = (t.points.filter q)[k].seq - p.seq := IntWalk.wrap64_in _ (by omega)
  rw [hw]
  omega

end Go.Proofs.Ytcbdhigllelmcaa
namespace Go.Proofs.Ytcbdhigllelmcaa
open Go.RowKit

theorem blk_new_at (w : World) (t : TypeId) (cs : Array Value) {n : Nat} (h : n = w.heap.size) : Blk (w.alloc (.cells cs t)) n t cs := by subst h; exact Blk.new w t cs

set_option maxHeartbeats 3200000 in
theorem add_any (t : Trk) (p : Pt) (S : Nat → Prop) (v : Value) (w : World) (h : TrkV w S v t) (hl1 : t.beyond.length ≤ 1000000) (hl2 : t.points.length ≤ 1000000) :
    Calls Try.prog 74 #[v, .agg #[.int .i64 p.seq, .int .i64 p.time]] w (RetTE (addT t p) w) := by
  obtain ⟨vb, vp, rfl, hB, hP⟩ := h
  obtain ⟨A, c, rfl, hc, hcell⟩ := pts_form hP
  obtain ⟨Ab, cb, rfl, _, _⟩ := ints_form hB
  have HB := hide hB
  have HP := hide hP
  clear hcell hB hP
  obtain ⟨next, lb, l, mark⟩ := t
  obtain ⟨p0, p1⟩ := p
  dsimp only at *
  have hgoal : Hid (addT ⟨next, lb, l, mark⟩ ⟨p0, p1⟩ =
    if puCheck ⟨next, lb, l, mark⟩ ≠ 0 then (zeroT, puCheck ⟨next, lb, l, mark⟩) else if ptValid ⟨p0, p1⟩ = false then (zeroT, 2) else
    if p1 ≤ mark ∨ (l.any fun x => implies x ⟨p0, p1⟩) = true then (⟨next, lb, l, mark⟩, 0) else
    if p0 ≤ next then (⟨next, lb, l.filter fun x => !implies ⟨p0, p1⟩ x, p1⟩, 0) else
    if 256 < ((l.filter fun x => !implies ⟨p0, p1⟩ x).length + 1) then (zeroT, 5) else
    (⟨next, lb, (l.filter fun x => !implies ⟨p0, p1⟩ x).take (below (l.filter fun x => !implies ⟨p0, p1⟩ x) p0) ++ ⟨p0, p1⟩ :: (l.filter fun x => !implies ⟨p0, p1⟩ x).drop (below (l.filter fun x => !implies ⟨p0, p1⟩ x) p0), mark⟩, 0)) := rfl
  have hmono := hide (add_mono ⟨next, lb, l, mark⟩ ⟨p0, p1⟩ (fun x => !implies ⟨p0, p1⟩ x))
  have hfl : Hid ((l.filter fun x => !implies ⟨p0, p1⟩ x).length ≤ 1000000) := Nat.le_trans (List.length_filter_le _ _) hl2
  dsimp only at hmono
  generalize hq : puCheck ⟨next, lb, l, mark⟩ = q at *
  generalize hv : ptValid ⟨p0, p1⟩ = pv at *
  generalize han : (l.any fun x => implies x ⟨p0, p1⟩) = an at *
  generalize hf : (l.filter fun x => !implies ⟨p0, p1⟩ x) = fl at *
  generalize addT ⟨next, lb, l, mark⟩ ⟨p0, p1⟩ = res at *
  have Hq := hide hq
  have Hv := hide hv
  have Han := hide han
  have Hf := hide hf
  clear hq hv han hf
  have eg1 := Go.Proofs.enters_of (P := Try.prog) Try.func83 (by kernel_rfl) rfl
  have eg2 := Go.Proofs.enters_of (P := Try.prog) Try.func85 (by kernel_rfl) rfl
  have eg3 := Go.Proofs.enters_of (P := Try.prog) Try.func87 (by kernel_rfl) rfl
  go_enter Try.func74, Try.ntmps74
  go_wp2_with fail
  refine (puCheck_any ⟨next, lb, l, mark⟩ S _ _ ⟨_, _, rfl, HB.out.below (by go_grown), HP.out.below (by go_grown)⟩).mono ?_
  rintro e w1 ⟨rfl, hb1⟩
  rw [Hq.out]
  have hw1 : Hid (Below w.heap.size w w1) := Below.next (by go_grown) hb1
  have hT1 : Hid (Blk w1 w.heap.size 51 #[.int .i64 next, .slice Ab lb.length cb, .slice A l.length c, .int .i64 mark]) := Blk.below (Blk.alloc (Blk.alloc (Blk.new w _ _) _) _) hb1
  have hP1 : Hid (Blk w1 (w.heap.size + 1) 96 #[.int .i64 p0, .int .i64 p1]) := Blk.below (Blk.alloc (blk_new_at (w.alloc _) _ _ (by simp)) _) hb1
  have hR1 : Hid (Blk w1 (w.heap.size + 2) 51 #[.int .i64 0, .slice none 0 0, .slice none 0 0, .int .i64 0]) := Blk.below (blk_new_at ((w.alloc _).alloc _) _ _ (by simp)) hb1
  clear hb1
  by_cases hq0 : q = 0
  · have hne : (q != 0) = false := by simp [hq0]
    have hg1 := hide (hgoal.out.trans (if_neg (by simp [hq0])))
    have hq0' := hide hq0
    clear hgoal hq0
    have q0 := hP1.out.cell_some 0 rfl
    have q1 := hP1.out.cell_some 1 rfl
    go_wp2_with fail
    refine (valid_any p0 p1 _).mono ?_
    rintro e w2 ⟨rfl, hb2⟩
    rw [Hv.out]
    have hw2 := hide (Below.next hw1.out hb2)
    have hT2 := hide (hT1.out.below hb2)
    have hP2 := hide (hP1.out.below hb2)
    have hR2 := hide (hR1.out.below hb2)
    clear q0 q1 hb2 hw1 hT1 hP1 hR1
    cases pv with
    | false =>
      have hr := hide (hg1.out.trans (if_pos rfl))
      clear hg1
      have r0 := hR2.out.cell_some 0 rfl
      have r1 := hR2.out.cell_some 1 rfl
      have r2 := hR2.out.cell_some 2 rfl
      have r3 := hR2.out.cell_some 3 rfl
      have f0 := hR2.out.frozen 0
      have f1 := hR2.out.frozen 1
      have f2 := hR2.out.frozen 2
      have f3 := hR2.out.frozen 3
      go_wp2
      refine bodyPost_ret (v := .tuple #[.agg #[.int .i64 0, .slice none 0 0, .slice none 0 0, .int .i64 0], .int .i64 2]) (by simp [results, Try.results74, go_sem, r0, r1, r2, r3]) rfl ?_
      rw [hr.out]
      refine ⟨none, 0, none, 0, rfl, Own.nil_, Own.nil_, ?_⟩
      iterate 4 (refine Below.setCell ?_ (by dsimp only; omega) _)
      exact hw2.out
    | true =>
      have hg2 := hide (hg1.out.trans (if_neg (by simp)))
      clear hg1
      have t0 := hT2.out.cell_some 0 rfl
      have t1 := hT2.out.cell_some 1 rfl
      have t2 := hT2.out.cell_some 2 rfl
      have t3 := hT2.out.cell_some 3 rfl
      go_wp2_with fail
      refine (own_any ⟨next, lb, l, mark⟩ S _ _ ⟨_, _, rfl, HB.out.below hw2.out, HP.out.below hw2.out⟩ (by dsimp only; omega) (by dsimp only; omega)).mono ?_
      rintro e w3 ⟨A1, c1, A2, c2, rfl, ho1, ho2, hb3⟩
      have hw3 := hide (Below.next hw2.out hb3)
      have hT3 := hide (hT2.out.below hb3)
      have hP3 := hide (hP2.out.below hb3)
      have hR3 := hide (hR2.out.below hb3)
      have Ho1 : Hid (Own w3 (w.heap.size + 3) 3 1 encI (.slice A1 lb.length c1) lb) := ho1.le hR2.out.lt
      have Ho2 : Hid (Own w3 (w.heap.size + 3) 96 2 encP (.slice A2 l.length c2) l) := ho2.le hR2.out.lt
      clear t0 t1 t2 t3 hw2 hT2 hP2 hR2 ho1 ho2 hb3
      dsimp only
      have hO4 := hide (Blk.new w3 51 #[.int .i64 next, .slice A1 lb.length c1, .slice A2 l.length c2, .int .i64 mark])
      have hT4 := hide (hT3.out.alloc (.cells #[.int .i64 next, .slice A1 lb.length c1, .slice A2 l.length c2, .int .i64 mark] 51))
      have hP4 := hide (hP3.out.alloc (.cells #[.int .i64 next, .slice A1 lb.length c1, .slice A2 l.length c2, .int .i64 mark] 51))
      have hR4 := hide (hR3.out.alloc (.cells #[.int .i64 next, .slice A1 lb.length c1, .slice A2 l.length c2, .int .i64 mark] 51))
      have hw4 := hide (hw3.out.alloc hw3.out.size (.cells #[.int .i64 next, .slice A1 lb.length c1, .slice A2 l.length c2, .int .i64 mark] 51))
      have Ho1' := hide (Ho1.out.below ((Below.refl _ _).alloc (Nat.le_refl _) (.cells #[.int .i64 next, .slice A1 lb.length c1, .slice A2 l.length c2, .int .i64 mark] 51)))
      have Ho2' := hide (Ho2.out.below ((Below.refl _ _).alloc (Nat.le_refl _) (.cells #[.int .i64 next, .slice A1 lb.length c1, .slice A2 l.length c2, .int .i64 mark] 51)))
      have hnb1 := hide (fun e => by have := (Ho1.out.lt _ e).2; omega : (Value.slice A1 lb.length c1).ownBlock ≠ some w3.heap.size)
      have hlt1 := hide (fun k hk => (Ho1.out.lt k hk).2 : ∀ k, (Value.slice A1 lb.length c1).ownBlock = some k → k < w3.heap.size)
      have hnb2 := hide (fun e => by have := (Ho2.out.lt _ e).2; omega : (Value.slice A2 l.length c2).ownBlock ≠ some w3.heap.size)
      have l0 := hT3.out.lt
      have l1 := hP3.out.lt
      have l2 := hR3.out.lt
      clear hw3 hT3 hP3 hR3 Ho1 Ho2
      go_upto_region 7 with (fail)
      generalize w3.alloc (.cells #[.int .i64 next, .slice A1 lb.length c1, .slice A2 l.length c2, .int .i64 mark] 51) = w4 at *
      have t0 := hT4.out.cell_some 0 rfl
      have t2 := hT4.out.cell_some 2 rfl
      have t3 := hT4.out.cell_some 3 rfl
      have q0 := hP4.out.cell_some 0 rfl
      have q1 := hP4.out.cell_some 1 rfl
      have oo0 := hO4.out.cell_some 0 rfl
      have oo1 := hO4.out.cell_some 1 rfl
      have oo2 := hO4.out.cell_some 2 rfl
      have oo3 := hO4.out.cell_some 3 rfl
      have n0 : ¬ (w3.heap.size = w.heap.size) := by omega
      have n0' : ¬ (w.heap.size = w3.heap.size) := by omega
      have n1 : ¬ (w3.heap.size = w.heap.size + 1) := by omega
      have n1' : ¬ (w.heap.size + 1 = w3.heap.size) := by omega
      have n2 : ¬ (w3.heap.size = w.heap.size + 2) := by omega
      have n2' : ¬ (w.heap.size + 2 = w3.heap.size) := by omega
      by_cases hm : p1 ≤ mark
      · have hr := hide (hg2.out.trans (if_pos (Or.inl hm)))
        clear hg2
        have r0 := hR4.out.cell_some 0 rfl
        have f0 := hR4.out.frozen 0
        have r1 := hR4.out.cell_some 1 rfl
        have f1 := hR4.out.frozen 1
        have r2 := hR4.out.cell_some 2 rfl
        have f2 := hR4.out.frozen 2
        have r3 := hR4.out.cell_some 3 rfl
        have f3 := hR4.out.frozen 3
        go_wp2
        refine bodyPost_ret (v := .tuple #[.agg #[.int .i64 next, .slice A1 lb.length c1, .slice A2 l.length c2, .int .i64 mark], .int .i64 0]) (by simp [results, Try.results74, go_sem, r0, r1, r2, r3, n2, n2']) rfl ?_
        rw [hr.out]
        refine ⟨A1, c1, A2, c2, rfl, ?_, ?_, ?_⟩
        · refine Own.le (base := w.heap.size + 3) ?_ (by omega)
          iterate 4 (refine Own.setCell_lt ?_ (by dsimp only; omega) _)
          exact Ho1'.out
        · refine Own.le (base := w.heap.size + 3) ?_ (by omega)
          iterate 4 (refine Own.setCell_lt ?_ (by dsimp only; omega) _)
          exact Ho2'.out
        · iterate 4 (refine Below.setCell ?_ (by dsimp only; omega) _)
          exact hw4.out
      · have hm' : mark < p1 := by omega
        have hg3 := hide hg2.out
        clear hg2
        go_wp2_with fail
        refine (containsFuncP_any l (fun x => implies x ⟨p0, p1⟩) 83 _ eg1 S _ _ (HP.out.below hw4.out) (add1_pred ⟨p0, p1⟩ (w.heap.size + 1) _ q0 q1) (by omega)).mono ?_
        rintro e w5 ⟨rfl, hb5⟩
        rw [Han.out]
        have hT5 := hide (hT4.out.below hb5)
        have hP5 := hide (hP4.out.below hb5)
        have hR5 := hide (hR4.out.below hb5)
        have hO5 := hide (hO4.out.below hb5)
        have hw5 := hide (Below.next hw4.out hb5)
        have Ho15 := hide (Ho1'.out.below hb5)
        have Ho25 := hide (Ho2'.out.below hb5)
        clear t0 t2 t3 q0 q1 oo0 oo1 oo2 oo3 hT4 hP4 hR4 hO4 hw4 Ho1' Ho2' hb5
        cases an with
        | true =>
          have hr := hide (hg3.out.trans (if_pos (Or.inr rfl)))
          clear hg3
          have o0 := hO5.out.cell_some 0 rfl
          have o1 := hO5.out.cell_some 1 rfl
          have o2 := hO5.out.cell_some 2 rfl
          have o3 := hO5.out.cell_some 3 rfl
          have r0 := hR5.out.cell_some 0 rfl
          have f0 := hR5.out.frozen 0
          have r1 := hR5.out.cell_some 1 rfl
          have f1 := hR5.out.frozen 1
          have r2 := hR5.out.cell_some 2 rfl
          have f2 := hR5.out.frozen 2
          have r3 := hR5.out.cell_some 3 rfl
          have f3 := hR5.out.frozen 3
          go_wp2
          refine bodyPost_ret (v := .tuple #[.agg #[.int .i64 next, .slice A1 lb.length c1, .slice A2 l.length c2, .int .i64 mark], .int .i64 0]) (by simp [results, Try.results74, go_sem, r0, r1, r2, r3, n2, n2']) rfl ?_
          rw [hr.out]
          refine ⟨A1, c1, A2, c2, rfl, ?_, ?_, ?_⟩
          · refine Own.le (base := w.heap.size + 3) ?_ (by omega)
            iterate 4 (refine Own.setCell_lt ?_ (by dsimp only; omega) _)
            exact Ho15.out
          · refine Own.le (base := w.heap.size + 3) ?_ (by omega)
            iterate 4 (refine Own.setCell_lt ?_ (by dsimp only; omega) _)
            exact Ho25.out
          · iterate 4 (refine Below.setCell ?_ (by dsimp only; omega) _)
            exact hw5.out
        | false =>
          have hg4 := hide (hg3.out.trans (if_neg (by simp; omega)))
          clear hg3
          have t2 := hT5.out.cell_some 2 rfl
          go_wp2_with fail
          refine (filteredP_any l (fun x => !implies ⟨p0, p1⟩ x) 85 _ eg2 S _ _ (HP.out.below hw5.out) (add2_pred ⟨p0, p1⟩ (w.heap.size + 1) _ (hP5.out.cell_some 0 rfl) (hP5.out.cell_some 1 rfl)) (by omega)).mono ?_
          rintro e w6 ⟨A3, c3, rfl, ho3, hb6⟩
          rw [Hf.out] at ho3 ⊢
          have hT6 := hide (hT5.out.below hb6)
          have hP6 := hide (hP5.out.below hb6)
          have hR6 := hide (hR5.out.below hb6)
          have hO6 := hide (hO5.out.below hb6)
          have hw6 := hide (Below.next hw5.out hb6)
          have Ho16 := hide (Ho15.out.below hb6)
          have Ho36 : Hid (Own w6 (w3.heap.size + 1) 96 2 encP (.slice A3 fl.length c3) fl) := ho3.le hO5.out.lt
          clear t2 hT5 hP5 hR5 hO5 hw5 Ho15 Ho25 hb6 ho3
          have hle3 : w.heap.size ≤ w3.heap.size := by omega
          by_cases hp : p0 ≤ next
          · have hr := hide (hg4.out.trans (if_pos hp))
            clear hg4
            have t0 := hT6.out.cell_some 0 rfl
            have q0 := hP6.out.cell_some 0 rfl
            have q1 := hP6.out.cell_some 1 rfl
            have o0 := hO6.out.cell_some 0 rfl
            have o1 := hO6.out.cell_some 1 rfl
            have o2 := hO6.out.cell_some 2 rfl
            have o3 := hO6.out.cell_some 3 rfl
            have g2 := hO6.out.frozen 2
            have g3 := hO6.out.frozen 3
            have r0 := hR6.out.cell_some 0 rfl
            have f0 := hR6.out.frozen 0
            have r1 := hR6.out.cell_some 1 rfl
            have f1 := hR6.out.frozen 1
            have r2 := hR6.out.cell_some 2 rfl
            have f2 := hR6.out.frozen 2
            have r3 := hR6.out.cell_some 3 rfl
            have f3 := hR6.out.frozen 3
            go_wp2
            refine bodyPost_ret (v := .tuple #[.agg #[.int .i64 next, .slice A1 lb.length c1, .slice A3 fl.length c3, .int .i64 p1], .int .i64 0]) (by simp [results, Try.results74, go_sem, r0, r1, r2, r3, n2, n2']) rfl ?_
            rw [hr.out]
            refine ⟨A1, c1, A3, c3, rfl, ?_, ?_, ?_⟩
            · refine Own.le (base := w.heap.size + 3) ?_ (by omega)
              iterate 4 (refine Own.setCell_lt ?_ (by dsimp only; omega) _)
              exact Own.setCell_ne (Own.setCell_ne Ho16.out hnb1.out _) hnb1.out _
            · refine Own.le (base := w3.heap.size + 1) ?_ (by omega)
              iterate 6 (refine Own.setCell_lt ?_ (by dsimp only; omega) _)
              exact Ho36.out
            · iterate 6 (refine Below.setCell ?_ (by dsimp only; omega) _)
              exact hw6.out
          · have hp' : next < p0 := by omega
            have hg5 := hide (hg4.out.trans (if_neg hp))
            clear hg4 hp
            have t0 := hT6.out.cell_some 0 rfl
            have q0 := hP6.out.cell_some 0 rfl
            have o2 := hO6.out.cell_some 2 rfl
            have g2 := hO6.out.frozen 2
            go_upto_region 13 with (fail)
            clear t0 q0 o2 g2
            have n3 : w3.heap.size ≠ w.heap.size + 1 := by omega
            have n4 : w3.heap.size ≠ w.heap.size + 2 := by omega
            have hO7 := hide (hO6.out.set 2 (.slice A3 fl.length c3))
            have hP7 := hide (hP6.out.far (p := ⟨w3.heap.size, 2, none⟩) (fun e => n3 e.symm) (.slice A3 fl.length c3))
            have hR7 := hide (hR6.out.far (p := ⟨w3.heap.size, 2, none⟩) (fun e => n4 e.symm) (.slice A3 fl.length c3))
            have hw7 := hide (hw6.out.setCell (p := ⟨w3.heap.size, 2, none⟩) hle3 (.slice A3 fl.length c3))
            have Ho17 := hide (Own.setCell_ne (p := ⟨w3.heap.size, 2, none⟩) Ho16.out hnb1.out (.slice A3 fl.length c3))
            have Ho37 := hide (Own.setCell_lt (p := ⟨w3.heap.size, 2, none⟩) Ho36.out (Nat.lt_succ_self _) (.slice A3 fl.length c3))
            clear hO6 hP6 hR6 hT6 hw6 Ho16 Ho36 n3 n4
            generalize w6.setCell ⟨w3.heap.size, 2, none⟩ (.slice A3 fl.length c3) = w7 at *
            have q0 := hP7.out.cell_some 0 rfl
            have q1 := hP7.out.cell_some 1 rfl
            have o2 := hO7.out.cell_some 2 rfl
            have hmo := hide (hmono.out hq0'.out trivial)
            clear hmono
            obtain ⟨found, hfound⟩ : ∃ found : Bool, found = if h : below fl p0 < fl.length then decide (wrap64 (fl[below fl p0].seq - p0) = 0) else false := ⟨_, rfl⟩
            have hfH := hide hfound
            clear hfound
            have hml := below_le fl p0
            generalize hmm : below fl p0 = m at *
            have Hmm := hide hmm
            clear hmm
            have hf1 := hfl.out
            go_wp2_with fail
            refine (bsearchP_any fl ⟨p0, p1⟩ (fun x => wrap64 (x.seq - p0)) m found 87 #[] eg3 (fun _ => True) _ _ (Ho37.out.sl eok_pts (fun _ _ => trivial)) (add3_cmp ⟨p0, p1⟩ _) (by omega) hml hmo.out hfH.out).mono ?_
            rintro e w8 ⟨rfl, hb8⟩
            have hO8 := hide (hO7.out.below hb8)
            have hP8 := hide (hP7.out.below hb8)
            have hR8 := hide (hR7.out.below hb8)
            have hw8 := hide (Below.next hw7.out hb8)
            have Ho18 := hide (Ho17.out.below hb8)
            have Ho38 := hide (Ho37.out.below hb8)
            clear q0 q1 o2 hO7 hP7 hR7 hw7 Ho17 Ho37 hb8 hfH hmo
            have q0 := hP8.out.cell_some 0 rfl
            have q1 := hP8.out.cell_some 1 rfl
            have o2 := hO8.out.cell_some 2 rfl
            go_wp2_with fail
            have Ho3a := hide (Ho38.out.below ((Below.refl _ _).alloc (Nat.le_refl _) (.cells #[.int .i64 p0, .int .i64 p1] 96)))
            have hnb3 := hide (fun e => by have := (Ho38.out.lt _ e).2; omega : (Value.slice A3 fl.length c3).ownBlock ≠ some w8.heap.size)
            have hlO8 := hO8.out.lt
            refine (insertP_any fl ⟨p0, p1⟩ m (w3.heap.size + 1) A3 c3 w8.heap.size _ Ho3a.out (Blk.new w8 _ _) hnb3.out hml (by omega) (by simp; omega)).mono ?_
            rintro e w9 ⟨A4, c4, rfl, ho4, hg4⟩
            have hlen4 : (fl.take m ++ ⟨p0, p1⟩ :: fl.drop m).length = fl.length + 1 := by simp; omega
            have hlenH := hide hlen4
            clear hlen4
            generalize (fl.take m ++ ⟨p0, p1⟩ :: fl.drop m) = L4 at *
            have hnbO := hide (fun e => by have := (Ho38.out.lt _ e.symm).1; omega : some w3.heap.size ≠ (Value.slice A3 fl.length c3).ownBlock)
            have hnbR := hide (fun e => by have := (Ho38.out.lt _ e.symm).1; omega : some (w.heap.size + 2) ≠ (Value.slice A3 fl.length c3).ownBlock)
            have hO9 := hide ((hO8.out.alloc (.cells #[.int .i64 p0, .int .i64 p1] 96)).grown hg4 hnbO.out)
            have hR9 := hide ((hR8.out.alloc (.cells #[.int .i64 p0, .int .i64 p1] 96)).grown hg4 hnbR.out)
            have Ho19 := hide (Own.kept (Ho18.out.below ((Below.refl _ _).alloc (Nat.le_refl _) (.cells #[.int .i64 p0, .int .i64 p1] 96))) hg4 (by
              cases h : (Value.slice A1 lb.length c1).ownBlock with
              | none => exact Or.inl rfl
              | some k =>
                right
                intro e
                have h1 := hlt1.out k h
                have h2 := (Ho38.out.lt k e.symm).1
                omega))
            have hw9 := hide (Ho3a.out.grown (hw8.out.alloc hw8.out.size _) (by omega) (by have := hw8.out.size; simp; omega) hg4)
            have Ho49 := hide ho4
            clear q0 q1 o2 ho4 hg4 hnbO hnbR hO8 hP8 hR8 hw8 Ho18 Ho38 Ho3a hnb3
            have o2 := hO9.out.cell_some 2 rfl
            have g2 := hO9.out.frozen 2
            go_upto_region 15 with (fail)
            clear o2 g2
            have hO10 := hide (hO9.out.set 2 (.slice A4 L4.length c4))
            have hR10 := hide (hR9.out.far (p := ⟨w3.heap.size, 2, none⟩) (by dsimp only; omega) (.slice A4 L4.length c4))
            have hw10 := hide (hw9.out.setCell (p := ⟨w3.heap.size, 2, none⟩) hle3 (.slice A4 L4.length c4))
            have Ho110 := hide (Own.setCell_ne (p := ⟨w3.heap.size, 2, none⟩) Ho19.out hnb1.out (.slice A4 L4.length c4))
            have Ho410 := hide (Own.setCell_lt (p := ⟨w3.heap.size, 2, none⟩) Ho49.out (Nat.lt_succ_self _) (.slice A4 L4.length c4))
            clear hO9 hR9 hw9 Ho19 Ho49
            generalize w9.setCell ⟨w3.heap.size, 2, none⟩ (.slice A4 L4.length c4) = w10 at *
            have o0 := hO10.out.cell_some 0 rfl
            have o1 := hO10.out.cell_some 1 rfl
            have o2 := hO10.out.cell_some 2 rfl
            have o3 := hO10.out.cell_some 3 rfl
            have r0 := hR10.out.cell_some 0 rfl
            have f0 := hR10.out.frozen 0
            have r1 := hR10.out.cell_some 1 rfl
            have f1 := hR10.out.frozen 1
            have r2 := hR10.out.cell_some 2 rfl
            have f2 := hR10.out.frozen 2
            have r3 := hR10.out.cell_some 3 rfl
            have f3 := hR10.out.frozen 3
            by_cases hbig : 256 < fl.length + 1
            · have hr := hide (hg5.out.trans (if_pos hbig))
              have hb' : (256 : Int) < (L4.length : Int) := by rw [hlenH.out]; omega
              clear hg5
              go_wp2
              refine bodyPost_ret (v := .tuple #[.agg #[.int .i64 0, .slice none 0 0, .slice none 0 0, .int .i64 0], .int .i64 5]) (by simp [results, Try.results74, go_sem, r0, r1, r2, r3, n2, n2']) rfl ?_
              rw [hr.out]
              refine ⟨none, 0, none, 0, rfl, Own.nil_, Own.nil_, ?_⟩
              iterate 4 (refine Below.setCell ?_ (by dsimp only; omega) _)
              exact hw10.out
            · have hr := hide (hg5.out.trans (if_neg hbig))
              have hb' : (L4.length : Int) ≤ (256 : Int) := by rw [hlenH.out]; omega
              clear hg5
              go_wp2
              refine bodyPost_ret (v := .tuple #[.agg #[.int .i64 next, .slice A1 lb.length c1, .slice A4 L4.length c4, .int .i64 mark], .int .i64 0]) (by simp [results, Try.results74, go_sem, r0, r1, r2, r3, n2, n2']) rfl ?_
              rw [hr.out]
              refine ⟨A1, c1, A4, c4, rfl, ?_, ?_, ?_⟩
              · refine Own.le (base := w.heap.size + 3) ?_ (by omega)
                iterate 4 (refine Own.setCell_lt ?_ (by dsimp only; omega) _)
                exact Ho110.out
              · refine Own.le (base := w3.heap.size + 1) ?_ (by omega)
                iterate 4 (refine Own.setCell_lt ?_ (by dsimp only; omega) _)
                exact Ho410.out
              · iterate 4 (refine Below.setCell ?_ (by dsimp only; omega) _)
                exact hw10.out
  · have hne : (q != 0) = true := by simp [hq0]
    have hr := hide (hgoal.out.trans (if_pos hq0))
    clear hgoal hq0
    have r0 := hR1.out.cell_some 0 rfl
    have r1 := hR1.out.cell_some 1 rfl
    have r2 := hR1.out.cell_some 2 rfl
    have r3 := hR1.out.cell_some 3 rfl
    have f0 := hR1.out.frozen 0
    have f1 := hR1.out.frozen 1
    have f2 := hR1.out.frozen 2
    have f3 := hR1.out.frozen 3
    go_wp2
    refine bodyPost_ret (v := .tuple #[.agg #[.int .i64 0, .slice none 0 0, .slice none 0 0, .int .i64 0], .int .i64 q]) (by simp [results, Try.results74, go_sem, r0, r1, r2, r3]) rfl ?_
    rw [hr.out]
    refine ⟨none, 0, none, 0, rfl, Own.nil_, Own.nil_, ?_⟩
    iterate 4 (refine Below.setCell ?_ (by dsimp only; omega) _)
    exact hw1.out

end Go.Proofs.Ytcbdhigllelmcaa
namespace Go.Proofs.Ytcbdhigllelmcaa
open Go.RowKit

end Go.Proofs.Ytcbdhigllelmcaa
namespace Go.Proofs.Ytcbdhigllelmcaa
open Go.RowKit

set_option maxHeartbeats 800000 in
theorem allows_any (t : Trk) (seq time : Int) (S : Nat → Prop) (v : Value) (w : World) (h : TrkV w S v t) (hl1 : t.beyond.length ≤ 1000000000) (hl2 : t.points.length ≤ 1000000000) :
    Calls Try.prog 70 #[v, .int .i64 seq, .int .i64 time] w fun e w' => e = .returned (.tuple #[.bool (allowsT t seq time).1, .int .i64 (allowsT t seq time).2]) ∧ Below w.heap.size w w' := by
  obtain ⟨vb, vp, rfl, hB, hP⟩ := h
  obtain ⟨A, c, rfl, hc, hcell⟩ := pts_form hP
  obtain ⟨Ab, cb, rfl, _, _⟩ := ints_form hB
  have HB := hide hB
  have HP := hide hP
  clear hcell hB hP
  obtain ⟨next, lb, l, mark⟩ := t
  dsimp only at *
  have hgoal : Hid (allowsT ⟨next, lb, l, mark⟩ seq time = if puCheck ⟨next, lb, l, mark⟩ ≠ 0 then (false, puCheck ⟨next, lb, l, mark⟩) else if seq < 0 ∨ 1099511627776 < seq ∨ time < 0 ∨ 1099511627776 < time then (false, 2) else if seq < next ∨ lb.contains seq = true then (false, 7) else (decide (latest mark l seq < time), 0)) := rfl
  generalize hq : puCheck ⟨next, lb, l, mark⟩ = q at *
  generalize hla : latest mark l seq = la at *
  generalize allowsT ⟨next, lb, l, mark⟩ seq time = res at *
  have Hq := hide hq
  have Hla := hide hla
  clear hq hla
  by_cases hq0 : q = 0
  · have hne : (q != 0) = false := by simp [hq0]
    have hq0' := hide hq0
    clear hq0
    cases hr : lb.contains seq
    all_goals
      have Hr := hide hr
      have hgo := hgoal.out
      rw [hr] at hgo
      simp only [reduceCtorEq, or_false, or_true, if_true, hq0'.out, ne_eq, not_true_eq_false, if_false] at hgo
      clear hr hgoal
      have hgoal := hide hgo
      clear hgo
      go_enter Try.func70, Try.ntmps70
      go_wp2_with fail
      refine (puCheck_any ⟨next, lb, l, mark⟩ S _ _ ⟨_, _, rfl, HB.out.below (by go_grown), HP.out.below (by go_grown)⟩).mono ?_
      rintro e w1 ⟨rfl, hb1⟩
      rw [Hq.out]
      have hw1 : Below w.heap.size w w1 := Below.next (by go_grown) hb1
      have ht0 := cell_later (a := ⟨w.heap.size, 0, none⟩) (v := .int .i64 next) hb1 (by simp)
      have ht1 := cell_later (a := ⟨w.heap.size, 1, none⟩) (v := .slice Ab lb.length cb) hb1 (by simp)
      have ht2 := cell_later (a := ⟨w.heap.size, 2, none⟩) (v := .slice A l.length c) hb1 (by simp)
      have ht3 := cell_later (a := ⟨w.heap.size, 3, none⟩) (v := .int .i64 mark) hb1 (by simp)
      clear hb1
      go_wp2_with (first
        | (go_at_call 76; refine (containsI_any lb seq S _ _ (HB.out.below ?_) hl1).mono ?_; assumption; rintro e w2 ⟨rfl, hb2⟩; rw [Hr.out]; have hw2 := Below.next hw1 hb2; have ht2' := cell_later hb2 ht2; have ht3' := cell_later hb2 ht3)
        | (go_at_call 77; refine (latest_any mark l seq S _ _ (HP.out.below ?_) hl2).mono ?_; assumption; rintro e w3 ⟨rfl, hb3⟩; rw [Hla.out]; have hw3 := Below.next hw2 hb3))
      all_goals
        go_ret2
        refine ⟨?_, by first | assumption | exact hw3 | exact hw2 | exact hw1⟩
        rw [hgoal.out]
        repeat (first | rw [if_pos (by omega)] | rw [if_neg (by omega)])
        try rfl
  · have hne : (q != 0) = true := by simp [hq0]
    have hr := hide (hgoal.out.trans (if_pos hq0))
    clear hgoal hq0
    go_enter Try.func70, Try.ntmps70
    go_wp2_with fail
    refine (puCheck_any ⟨next, lb, l, mark⟩ S _ _ ⟨_, _, rfl, HB.out.below (by go_grown), HP.out.below (by go_grown)⟩).mono ?_
    rintro e w1 ⟨rfl, hb1⟩
    rw [Hq.out]
    go_wp2
    go_ret2
    exact ⟨by rw [hr.out]; rfl, Below.next (by go_grown) hb1⟩

end Go.Proofs.Ytcbdhigllelmcaa
namespace Go.Proofs.Ytcbdhigllelmcaa
open Go.RowKit

end Go.Proofs.Ytcbdhigllelmcaa
namespace Go.Proofs.Ytcbdhigllelmcaa
open Go.RowKit

theorem int_cell {w : World} {S : Nat → Prop} {n : Int} {j : Nat} (hj : j < (aI n).cells.length) {u : Value} (h : Rep w S G0 ((aI n).cells[j]) u) : (encI n)[j]? = some u := by
  have : j = 0 := by simpa [aI, AV.cells] using hj
  subst this
  have h : Rep w S G0 (aI n) u := h
  rw [h.int_inv]; rfl
theorem rep_ints {w : World} {S : Nat → Prop} {v : Value} {l : List Int} : Rep w S G0 (aInts l) v ↔ Ints w S v l := by
  constructor
  · intro h
    exact sl_of_rep h (fun x _ => rfl) (fun x _ j hj u hu => int_cell hj hu)
  · intro h
    refine rep_sl_of h (fun x _ => rfl) (fun x _ => rfl) (fun x _ u hu => ?_) (fun x _ j hj => ?_)
    · simp only [encI, List.mem_singleton] at hu; subst hu; rfl
    · have : j = 0 := by simpa [aI, AV.cells] using hj
      subst this
      exact .int _ _
theorem rep_pts {w : World} {S : Nat → Prop} {v : Value} {l : List Pt} : Rep w S G0 (aPts l) v ↔ Pts w S v l := by
  constructor
  · intro h
    refine sl_of_rep h (fun x _ => rfl) (fun x _ j hj u hu => ?_)
    have hj' : j < 2 := hj
    rcases j with _ | _ | j
    · have hu : Rep w S G0 (aI x.seq) u := hu
      rw [hu.int_inv]; rfl
    · have hu : Rep w S G0 (aI x.time) u := hu
      rw [hu.int_inv]; rfl
    · omega
  · intro h
    refine rep_sl_of h (fun x _ => rfl) (fun x _ => rfl) (fun x _ u hu => ?_) (fun x _ j hj => ?_)
    · simp only [encP, List.mem_cons, List.not_mem_nil, or_false] at hu; rcases hu with rfl | rfl <;> rfl
    · have hj' : j < 2 := hj
      rcases j with _ | _ | j
      · exact .int _ _
      · exact .int _ _
      · omega
theorem rep_trk {w : World} {S : Nat → Prop} {v : Value} {t : Trk} : Rep w S G0 (aTrk t) v ↔ TrkV w S v t := by
  constructor
  · intro h
    obtain ⟨vs, rfl, hl, hr, _⟩ := h.agg_inv
    have e := getD4 hl
    have h0 : Rep w S G0 (aI t.next) (vs.getD 0 undef) := hr 0 (by simp)
    have h1 : Rep w S G0 (aInts t.beyond) (vs.getD 1 undef) := hr 1 (by simp)
    have h2 : Rep w S G0 (aPts t.points) (vs.getD 2 undef) := hr 2 (by simp)
    have h3 : Rep w S G0 (aI t.mark) (vs.getD 3 undef) := hr 3 (by simp)
    refine ⟨vs.getD 1 undef, vs.getD 2 undef, ?_, rep_ints.1 h1, rep_pts.1 h2⟩
    rw [← h0.int_inv, ← h3.int_inv, ← e]
  · rintro ⟨vb, vp, rfl, hB, hP⟩
    have rB := rep_ints.2 hB
    have rP := rep_pts.2 hP
    refine .agg _ rfl (fun i hi => ?_) (fun i hi => ?_)
    · have hi' : i < 4 := hi
      rcases i with _ | _ | _ | _ | i
      · exact .int _ _
      · exact rB
      · exact rP
      · exact .int _ _
      · omega
    · have hi' : i < 4 := hi
      rcases i with _ | _ | _ | _ | i
      · rfl
      · obtain ⟨A, c, rfl, _⟩ := hB; rfl
      · obtain ⟨A, c, rfl, _⟩ := hP; rfl
      · rfl
      · omega
theorem rep_pt {w : World} {S : Nat → Prop} {γ : Gam} {v : Value} {p : Pt} (h : Rep w S γ (aPt p) v) : v = .agg #[.int .i64 p.seq, .int .i64 p.time] := by
  obtain ⟨vs, rfl, hl, hr, _⟩ := h.agg_inv
  have e := getD2 hl
  have h0 : Rep w S γ (aI p.seq) (vs.getD 0 undef) := hr 0 (by simp)
  have h1 : Rep w S γ (aI p.time) (vs.getD 1 undef) := hr 1 (by simp)
  rw [← h0.int_inv, ← h1.int_inv, ← e]

theorem puCheck_con (t : Trk) : Con E0 true 46 [aTrk t] (aI (puCheck t)) :=
  Con.of1 (enters_of Try.func46 rfl rfl) fun S w x hx => (puCheck_any t S x w (rep_trk.1 hx)).mono fun e w' ⟨h1, h2⟩ => ⟨_, h1, h2, .int _ _⟩
theorem rep_be {w : World} {S : Nat → Prop} {γ : Gam} (b : Bool) (n : Int) : Rep w S γ (.tup [.bool b, aI n]) (.tuple #[.bool b, .int .i64 n]) :=
  .tup _ rfl fun i hi => by
    have hi' : i < 2 := hi
    rcases i with _ | _ | i
    · exact .bool _
    · exact .int _ _
    · omega
theorem allows_con (t : Trk) (seq time : Int) (hl1 : t.beyond.length ≤ 1000000000) (hl2 : t.points.length ≤ 1000000000) : Con E0 true 70 [aTrk t, aI seq, aI time] (.tup [.bool (allowsT t seq time).1, aI (allowsT t seq time).2]) :=
  Con.of3 (enters_of Try.func70 rfl rfl) fun S w x y z hx hy hz => by
    rw [hy.int_inv, hz.int_inv]
    exact (allows_any t seq time S x w (rep_trk.1 hx) hl1 hl2).mono fun e w' ⟨h1, h2⟩ => ⟨_, h1, h2, rep_be _ _⟩
theorem add_con (t : Trk) (p : Pt) (hl1 : t.beyond.length ≤ 1000000) (hl2 : t.points.length ≤ 1000000) : Con E0 true 74 [aTrk t, aPt p] (.tup [aTrk (addT t p).1, aI (addT t p).2]) :=
  Con.of2 (enters_of Try.func74 rfl rfl) fun S w x y hx hy => by
    rw [rep_pt hy]
    refine (add_any t p S x w (rep_trk.1 hx) hl1 hl2).mono fun e w' ⟨A, c, A', c', h1, h2, h3, h4⟩ => ⟨_, h1, h4, ?_⟩
    have := rep_trk.2 (RetTE.trkV h2 h3)
    refine .tup _ rfl fun i hi => ?_
    have hi' : i < 2 := hi
    rcases i with _ | _ | i
    · exact this.mono (Nat.le_refl _) (fun b hb _ => ⟨rfl, Or.inr hb⟩)
    · exact .int _ _
    · omega
end Go.Proofs.Ytcbdhigllelmcaa
namespace Go.Proofs.Ytcbdhigllelmcaa
open Go.RowKit

theorem any_false {α : Type} {q : α → Bool} {l : List α} (h : ¬ l.any q = true) : ∀ x ∈ l, q x = false := fun x hx => by
  cases hq : q x with
  | false => rfl
  | true => exact absurd (List.any_eq_true.2 ⟨x, hx, hq⟩) h
def Forb (t : Trk) (s τ : Int) : Prop := τ ≤ t.mark ∨ ∃ p ∈ t.points, p.seq ≤ s ∧ τ ≤ p.time
theorem implies_iff (a b : Pt) : implies a b = true ↔ a.seq ≤ b.seq ∧ b.time ≤ a.time := by simp [implies]
theorem implies_false (a b : Pt) : implies a b = false ↔ b.seq < a.seq ∨ a.time < b.time := by
  simp only [implies, Bool.and_eq_false_iff, decide_eq_false_iff_not]; omega
theorem pairwise_insert {R : Pt → Pt → Prop} (l : List Pt) (k : Nat) (p : Pt) (hl : l.Pairwise R) (h1 : ∀ x ∈ l.take k, R x p) (h2 : ∀ x ∈ l.drop k, R p x) : (l.take k ++ p :: l.drop k).Pairwise R := by
  have e := List.take_append_drop k l
  rw [← e] at hl
  have h := List.pairwise_append.1 hl
  refine List.pairwise_append.2 ⟨h.1, List.pairwise_cons.2 ⟨h2, h.2.1⟩, fun a ha b hb => ?_⟩
  rcases List.mem_cons.1 hb with rfl | hb
  · exact h1 a ha
  · exact h.2.2 a ha b hb
theorem below_take (l : List Pt) (s : Int) (h : l.Pairwise fun a b => a.seq < b.seq) : (∀ x ∈ l.take (below l s), x.seq < s) ∧ (∀ x ∈ l.drop (below l s), s ≤ x.seq) := by
  have hb := below_lt l s h
  constructor
  · intro x hx
    obtain ⟨k, hk, rfl⟩ := List.mem_iff_getElem.1 hx
    rw [List.length_take] at hk
    rw [List.getElem_take]
    exact (hb k (by omega)).2 (by omega)
  · intro x hx
    obtain ⟨k, hk, rfl⟩ := List.mem_iff_getElem.1 hx
    rw [List.length_drop] at hk
    rw [List.getElem_drop]
    have := (hb (below l s + k) (by omega))
    omega

structure Added (t u : Trk) (p : Pt) : Prop where
  ok : TOk u
  next : u.next = t.next
  beyond : u.beyond = t.beyond
  len : u.points.length ≤ t.points.length + 1
  forb : ∀ s τ, t.next ≤ s → (Forb u s τ ↔ Forb t s τ ∨ p.seq ≤ s ∧ τ ≤ p.time)
  mark : t.mark ≤ u.mark
  has : p.time ≤ u.mark ∨ (u.points.any fun x => implies x p) = true

theorem added (t : Trk) (p : Pt) (h : (addT t p).2 = 0) : TOk t ∧ ptValid p = true ∧ Added t (addT t p).1 p := by
  unfold addT at h ⊢
  by_cases h1 : puCheck t ≠ 0
  · rw [if_pos h1] at h; exact absurd h h1
  rw [if_neg h1] at h ⊢
  have h1 : puCheck t = 0 := by simpa using h1
  have ht := (puCheck_zero t).1 h1
  by_cases h2 : ptValid p = false
  · rw [if_pos h2] at h; exact absurd h (by simp)
  rw [if_neg h2] at h ⊢
  have hv : ptValid p = true := by simpa using h2
  have hp := (ptValid_iff p).1 hv
  refine ⟨ht, hv, ?_⟩
  by_cases h3 : p.time ≤ t.mark ∨ (t.points.any fun x => implies x p) = true
  · rw [if_pos h3]
    refine ⟨ht, rfl, rfl, Nat.le_succ _, fun s τ hs => ⟨Or.inl, fun hf => hf.elim id fun ⟨a, b⟩ => ?_⟩, Int.le_refl _, h3⟩
    rcases h3 with h3 | h3
    · exact Or.inl (by show τ ≤ t.mark; omega)
    · obtain ⟨x, hx, hi⟩ := List.any_eq_true.1 h3
      have := (implies_iff x p).1 hi
      exact Or.inr ⟨x, hx, by omega, by omega⟩
  rw [if_neg h3] at h ⊢
  have h3a : t.mark < p.time := by omega
  have h3b : ∀ x ∈ t.points, implies x p = false := any_false (fun h => h3 (Or.inr h))
  have hpw := (List.pairwise_cons.1 ht.asc).2
  have hgt : ∀ x ∈ t.points, t.next < x.seq ∧ t.mark < x.time := (List.pairwise_cons.1 ht.asc).1
  have hfl := List.length_filter_le (fun x => !implies p x) t.points
  by_cases h4 : p.seq ≤ t.next
  · rw [if_pos h4]
    refine ⟨⟨ht.sq, ⟨by have := ht.mark; show -1 ≤ p.time; omega, hp.2.2.2⟩, by have := ht.len; show (List.filter _ _).length ≤ 256; omega, fun x hx => ht.ok x (List.mem_filter.1 hx).1, ?_⟩, rfl, rfl, by show (List.filter _ _).length ≤ _; omega, fun s τ hs => ?_, by show t.mark ≤ p.time; omega, Or.inl (Int.le_refl _)⟩
    · refine List.pairwise_cons.2 ⟨fun x hx => ?_, hpw.filter _⟩
      obtain ⟨hx, hi⟩ := List.mem_filter.1 hx
      have hi : implies p x = false := by simpa using hi
      have := (implies_false p x).1 hi
      have hg := hgt x hx
      exact ⟨hg.1, by show p.time < x.time; omega⟩
    · constructor
      · rintro (h | ⟨x, hx, h⟩)
        · exact Or.inr ⟨by omega, h⟩
        · exact Or.inl (Or.inr ⟨x, (List.mem_filter.1 hx).1, h⟩)
      · rintro ((h | ⟨x, hx, h⟩) | h)
        · exact Or.inl (by show τ ≤ p.time; omega)
        · by_cases hi : implies p x = true
          · exact Or.inl (by have := (implies_iff p x).1 hi; show τ ≤ p.time; omega)
          · exact Or.inr ⟨x, List.mem_filter.2 ⟨hx, by simpa using hi⟩, h⟩
        · exact Or.inl h.2
  rw [if_neg h4] at h ⊢
  by_cases h5 : 256 < ((t.points.filter fun x => !implies p x).length + 1)
  · rw [if_pos h5] at h; exact absurd h (by simp)
  rw [if_neg h5]
  clear h
  have hkf : ∀ x ∈ t.points.filter fun x => !implies p x, x ∈ t.points ∧ (x.seq < p.seq → x.time < p.time) ∧ (p.seq ≤ x.seq → p.time < x.time) ∧ (p.seq ≤ x.seq → p.seq < x.seq) := fun x hx => by
    obtain ⟨hx, hi⟩ := List.mem_filter.1 hx
    have hi : implies p x = false := by simpa using hi
    have a := (implies_false p x).1 hi
    have b := (implies_false x p).1 (h3b x hx)
    exact ⟨hx, by omega, by omega, by omega⟩
  have hfpw : (t.points.filter fun x => !implies p x).Pairwise Asc2 := hpw.filter _
  have hbt := below_take (t.points.filter fun x => !implies p x) p.seq (hfpw.imp fun h => h.1)
  have hmem : ∀ x, x ∈ ((t.points.filter fun x => !implies p x).take (below (t.points.filter fun x => !implies p x) p.seq) ++ p :: (t.points.filter fun x => !implies p x).drop (below (t.points.filter fun x => !implies p x) p.seq)) ↔ x = p ∨ x ∈ t.points.filter fun x => !implies p x := fun x => by
    conv => rhs; rw [← List.take_append_drop (below (t.points.filter fun x => !implies p x) p.seq) (t.points.filter fun x => !implies p x)]
    simp only [List.mem_append, List.mem_cons]
    constructor
    · rintro (h | h | h)
      · exact Or.inr (Or.inl h)
      · exact Or.inl h
      · exact Or.inr (Or.inr h)
    · rintro (h | h | h)
      · exact Or.inr (Or.inl h)
      · exact Or.inl h
      · exact Or.inr (Or.inr h)
  have hlen : ((t.points.filter fun x => !implies p x).take (below (t.points.filter fun x => !implies p x) p.seq) ++ p :: (t.points.filter fun x => !implies p x).drop (below (t.points.filter fun x => !implies p x) p.seq)).length = (t.points.filter fun x => !implies p x).length + 1 := by
    simp; omega
  have hins : ((t.points.filter fun x => !implies p x).take (below (t.points.filter fun x => !implies p x) p.seq) ++ p :: (t.points.filter fun x => !implies p x).drop (below (t.points.filter fun x => !implies p x) p.seq)).Pairwise Asc2 :=
    pairwise_insert _ _ p hfpw
      (fun x hx => by have a := hbt.1 x hx; have b := hkf x (List.take_subset _ _ hx); exact ⟨a, b.2.1 a⟩)
      (fun x hx => by have a := hbt.2 x hx; have b := hkf x (List.drop_subset _ _ hx); exact ⟨b.2.2.2 a, b.2.2.1 a⟩)
  generalize ((t.points.filter fun x => !implies p x).take (below (t.points.filter fun x => !implies p x) p.seq) ++ p :: (t.points.filter fun x => !implies p x).drop (below (t.points.filter fun x => !implies p x) p.seq)) = L at *
  refine ⟨⟨ht.sq, ht.mark, by show L.length ≤ 256; omega, fun x hx => ?_, List.pairwise_cons.2 ⟨fun x hx => ?_, hins⟩⟩, rfl, rfl, by show L.length ≤ _; omega, fun s τ hs => ?_, Int.le_refl _, Or.inr (List.any_eq_true.2 ⟨p, (hmem p).2 (Or.inl rfl), (implies_iff p p).2 ⟨Int.le_refl _, Int.le_refl _⟩⟩)⟩
  · rcases (hmem x).1 hx with rfl | hx
    · exact hp
    · exact ht.ok x (hkf x hx).1
  · rcases (hmem x).1 hx with rfl | hx
    · exact ⟨by show t.next < x.seq; omega, h3a⟩
    · exact hgt x (hkf x hx).1
  · unfold Forb
    constructor
    · rintro (h | ⟨x, hx, h⟩)
      · exact Or.inl (Or.inl h)
      · rcases (hmem x).1 hx with rfl | hx
        · exact Or.inr h
        · exact Or.inl (Or.inr ⟨x, (hkf x hx).1, h⟩)
    · rintro ((h | ⟨x, hx, h⟩) | h)
      · exact Or.inl h
      · by_cases hi : implies p x = true
        · have := (implies_iff p x).1 hi
          exact Or.inr ⟨p, (hmem p).2 (Or.inl rfl), by omega, by omega⟩
        · exact Or.inr ⟨x, (hmem x).2 (Or.inr (List.mem_filter.2 ⟨hx, by simpa using hi⟩)), h⟩
      · exact Or.inr ⟨p, (hmem p).2 (Or.inl rfl), h⟩
theorem add_fits (t : Trk) (p : Pt) (ht : TOk t) (hp : ptValid p = true) (hl : t.points.length < 256) : (addT t p).2 = 0 := by
  unfold addT
  have hfl := List.length_filter_le (fun x => !implies p x) t.points
  rw [if_neg (by simp [(puCheck_zero t).2 ht]), if_neg (by simp [hp])]
  split
  · rfl
  split
  · rfl
  rw [if_neg (by omega)]
theorem add_invalid (t : Trk) (p : Pt) (hp : ptValid p = false) : (addT t p).2 ≠ 0 := by
  unfold addT
  split
  · assumption
  · simp

end Go.Proofs.Ytcbdhigllelmcaa
namespace Go.Proofs.Ytcbdhigllelmcaa
open Go.RowKit

end Go.Proofs.Ytcbdhigllelmcaa
namespace Go.Proofs.Ytcbdhigllelmcaa
open Go.RowKit

theorem sub_zero : Sub (.agg [.int .i64 0, .nils, .nils, .int .i64 0]) (aTrk zeroT) := .agg (.cons (.refl _) (.cons (.nil 1) (.cons (.nil 2) (.cons (.refl _) .nil))))
end Go.Proofs.Ytcbdhigllelmcaa
namespace Go.Proofs.Ytcbdhigllelmcaa
open Go.RowKit

section
variable {E : Env} {nt : Nat} {R : Exit → AS → Prop}
theorem AW.weaken {c : Code} {K : List KItem} {σ τ : AS} (hl : LeX E nt σ τ) (h : AW E nt R (.code c :: K) .normal τ) : AW E nt R (.code c :: K) .normal σ := ⟨fun cx hE hn => WP.weaken (hl cx hE hn) (h.out cx hE hn)⟩
end
end Go.Proofs.Ytcbdhigllelmcaa
namespace Go.Proofs.Ytcbdhigllelmcaa
open Go.RowKit

def Ent.frz (r sz : Nat) (xs : List AV) : Ent → Ent
  | .box ty cs => .box ty (AV.frzL r sz xs cs)
  | e => e
def AS.frzAll (σ : AS) (r sz : Nat) (xs : List AV) : AS := ⟨σ.tm.map fun p => (p.1, p.2.frz r sz xs), (r, .dead) :: σ.me.map fun p => (p.1, p.2.frz r sz xs)⟩
theorem lkV_map (g : AV → AV) (h : g .any = .any) (l : List (Nat × AV)) (t : Nat) : lkV (l.map fun p => (p.1, g p.2)) t = g (lkV l t) := by
  induction l with
  | nil => simp [lkV, h]
  | cons p l ih =>
    obtain ⟨u, x⟩ := p
    simp only [List.map_cons, lkV]
    cases Nat.beq u t <;> simp [ih]
theorem lkE_map (g : Ent → Ent) (l : List (Nat × Ent)) (t : Nat) : lkE (l.map fun p => (p.1, g p.2)) t = (lkE l t).map g := by
  induction l with
  | nil => simp [lkE]
  | cons p l ih =>
    obtain ⟨u, x⟩ := p
    simp only [List.map_cons, lkE]
    cases Nat.beq u t <;> simp [ih]
theorem LeX.frzAll {E : Env} {nt : Nat} {σ : AS} (r ty sz : Nat) (xs : List AV) (hr : σ.find r = some (.row ty sz xs)) : LeX E nt σ (σ.frzAll r sz xs) := fun cx hE hn a w ⟨γ, h⟩ => by
  have hme := h.me r
  rw [hr] at hme
  obtain ⟨d, hd, he⟩ := hme
  have hown : ∀ b, own (γ.set r none) b → own γ b ∧ ∀ s, γ r ≠ some (some (some b, s)) := fun b ⟨i, s, hi⟩ => by
    by_cases hir : i = r
    · subst hir; rw [Gam.set_self] at hi; cases hi
    · rw [Gam.set_ne _ _ _ hir] at hi
      exact ⟨⟨i, s, hi⟩, fun s' hs' => hir (h.inj _ _ _ _ _ hi hs')⟩
  have hS : ∀ b, Sg cx.S0 cx.w0.heap.size γ b → Sg cx.S0 cx.w0.heap.size (γ.set r none) b := fun b hb => hb.elim Or.inl (fun ⟨h1, h2⟩ => Or.inr ⟨h1, fun ho => h2 (hown b ho).1⟩)
  have hg : ∀ i x, γ i = some x → γ.set r none i = some x ∨ γ.set r none i = some none := fun i x hx => by
    by_cases hir : i = r
    · subst hir; exact Or.inr (Gam.set_self _ _ _)
    · exact Or.inl (by rw [Gam.set_ne _ _ _ hir]; exact hx)
  obtain ⟨s, hs, hrr⟩ := row_sl (S' := Sg cx.S0 cx.w0.heap.size (γ.set r none)) he (fun b hb _ => hS b hb) (fun s g hg => Or.inr ⟨(h.ge g ⟨r, s, by rw [hd, hg]⟩).1, fun ho => (hown g ho).2 s (by rw [hd, hg])⟩) (γ.set r none)
  have mv : ∀ {av v}, Rep w (Sg cx.S0 cx.w0.heap.size γ) γ av v → Rep w (Sg cx.S0 cx.w0.heap.size (γ.set r none)) (γ.set r none) (av.frz r sz xs) v := fun hv =>
    (hv.mono (Nat.le_refl _) (fun b hb _ => ⟨rfl, hS b hb⟩)).frz (fun i x hi hx => by rw [Gam.set_ne _ _ _ hi]; exact hx) hd (Gam.set_self _ _ _) (fun v hv => by rw [hv _ _ hs]; exact hrr)
  refine ⟨γ.set r none, fun u => ?_, fun i => ?_, fun i j b s s' hi hj => ?_, fun b hb => h.ge b (hown b hb).1, h.below, h.size, h.defers.gam (fun b hb => (hown b hb).1), h.gh, fun b hb => by obtain ⟨f2, f3, f4⟩ := h.fr b hb; exact ⟨fun ho => f2 (hown b ho).1, f3, f4⟩, h.dr⟩
  · have e : (σ.frzAll r sz xs).get u = (σ.get u).frz r sz xs := lkV_map _ rfl _ _
    rw [e]
    exact mv (h.tm u)
  · by_cases hi : r = i
    · subst hi
      have e : (σ.frzAll r sz xs).find r = some .dead := by simp [AS.frzAll, AS.find, lkE]
      rw [e]
      exact ⟨none, Gam.set_self _ _ _, rfl⟩
    · have e : (σ.frzAll r sz xs).find i = (σ.find i).map (Ent.frz r sz xs) := by
        unfold AS.frzAll AS.find
        simp only [lkE]
        cases hb : Nat.beq r i with
        | true => exact absurd (Nat.eq_of_beq_eq_true hb) hi
        | false => exact lkE_map _ _ _
      rw [e, Gam.set_ne _ _ _ (Ne.symm hi)]
      have := h.me i
      cases hf : σ.find i with
      | none => rw [hf] at this; exact this
      | some en =>
        rw [hf] at this
        obtain ⟨x, hx, he⟩ := this
        cases en with
        | box ty cs =>
          obtain ⟨g, vs, h1, h2, h3, h4, h5⟩ := he
          exact ⟨x, hx, g, vs, h1, h2, by rw [h3, AV.frzL_length], fun i hi => by
            have hi2 := hi
            rw [AV.frzL_length] at hi2
            rw [AV.frzL_at r sz xs _ i hi2]
            exact mv (h4 i hi2), h5⟩
        | _ => exact ⟨x, hx, he.move (Nat.le_refl _) (fun b hb _ => ⟨rfl, hS b hb⟩) hg (fun _ _ _ => rfl)⟩
  · have hir : i ≠ r := fun e => by subst e; rw [Gam.set_self] at hi; cases hi
    have hjr : j ≠ r := fun e => by subst e; rw [Gam.set_self] at hj; cases hj
    rw [Gam.set_ne _ _ _ hir] at hi
    rw [Gam.set_ne _ _ _ hjr] at hj
    exact h.inj _ _ _ _ _ hi hj

def closeT0 (σ : AS) (i : Nat) : AV → AV
  | .row j => match Nat.beq j i with
    | true => .row j
    | false => match σ.find j with | some (.row _ sz xs) => .sl sz xs | _ => .any
  | x => match x.closed with | true => x | false => .any
def closeT1 (σ : AS) (i : Nat) : AV → AV
  | .agg cs => .agg (cs.map (closeT0 σ i))
  | x => closeT0 σ i x
def closeT (σ : AS) (i : Nat) : AV → AV
  | .tup cs => .tup (cs.map (closeT1 σ i))
  | x => closeT1 σ i x
section
variable {cx : Cx} {σ : AS} {γ γ' : Gam} {a : Act} {w : World} {S' : Nat → Prop} {i : Nat} {x : Option (Option Nat × Value)}
theorem closeT0_rep (hst : StG cx γ σ a w) (hi : γ i = some x) (hi' : γ' i = some x) (hS : ∀ b, Sg cx.S0 cx.w0.heap.size γ b → S' b) (ho : ∀ j b s, j ≠ i → γ j = some (some (some b, s)) → S' b) {av : AV} {v : Value} (h : Rep w (Sg cx.S0 cx.w0.heap.size γ) γ av v) : Rep w S' γ' (closeT0 σ i av) v := by
  have cl : ∀ av v, Rep w (Sg cx.S0 cx.w0.heap.size γ) γ av v → Rep w S' γ' (match av.closed with | true => av | false => .any) v := fun av v h => by
    cases hc : av.closed with
    | true => exact (h.close hc).mono (Nat.le_refl _) (fun b hb _ => ⟨rfl, hS b hb⟩)
    | false => exact .any _
  cases av with
  | row j =>
    simp only [closeT0]
    cases hb : Nat.beq j i with
    | true =>
      have := Nat.eq_of_beq_eq_true hb
      subst this
      cases h with
      | row h hv => rw [hi] at h; injection h with h; subst h; exact .row hi' hv
    | false =>
      have hji := Nat.ne_of_beq_eq_false hb
      simp only
      have hme := hst.me j
      cases hf : σ.find j with
      | none => exact .any _
      | some e =>
        cases e with
        | row ty sz xs =>
          rw [hf] at hme
          obtain ⟨d, hd, he⟩ := hme
          obtain ⟨s, hs, hrr⟩ := row_sl (S' := S') he (fun b hb _ => hS b hb) (fun s g hg => ho j g s hji (by rw [hd, hg])) γ'
          subst hs
          rw [h.row_inv hd]
          exact hrr
        | _ => exact .any _
  | _ => exact cl _ _ h
theorem closeT1_rep (hst : StG cx γ σ a w) (hi : γ i = some x) (hi' : γ' i = some x) (hS : ∀ b, Sg cx.S0 cx.w0.heap.size γ b → S' b) (ho : ∀ j b s, j ≠ i → γ j = some (some (some b, s)) → S' b) {av : AV} {v : Value} (h : Rep w (Sg cx.S0 cx.w0.heap.size γ) γ av v) : Rep w S' γ' (closeT1 σ i av) v := by
  cases av with
  | agg cs =>
    obtain ⟨vs, rfl, hl, hr, h1⟩ := h.agg_inv
    simp only [closeT1]
    refine .agg vs (by simpa using hl) (fun k hk => ?_) h1
    have hk' : k < cs.length := by simpa using hk
    simp only [List.getElem_map]
    exact closeT0_rep hst hi hi' hS ho (hr k hk')
  | _ => exact closeT0_rep hst hi hi' hS ho h
theorem closeT_rep (hst : StG cx γ σ a w) (hi : γ i = some x) (hi' : γ' i = some x) (hS : ∀ b, Sg cx.S0 cx.w0.heap.size γ b → S' b) (ho : ∀ j b s, j ≠ i → γ j = some (some (some b, s)) → S' b) {av : AV} {v : Value} (h : Rep w (Sg cx.S0 cx.w0.heap.size γ) γ av v) : Rep w S' γ' (closeT σ i av) v := by
  cases av with
  | tup cs =>
    obtain ⟨vs, rfl, hl, hr⟩ := h.tup_inv
    simp only [closeT]
    refine .tup vs (by simpa using hl) (fun k hk => ?_)
    have hk' : k < cs.length := by simpa using hk
    simp only [List.getElem_map]
    exact closeT1_rep hst hi hi' hS ho (hr k hk')
  | _ => exact closeT1_rep hst hi hi' hS ho h
end
inductive TX (E : Env) (nt : Nat) (fn : Func) (σ : AS) (ty sz : Nat) (xs : List AV) (res : AV) : Prop
  | mk (τ : AS) (i : Nat) (hl : LeX E nt σ τ) (avs : List AV) (h1 : retA E.tab τ fn.results.toList = some avs) (h2 : τ.find i = some (.row ty sz xs)) (h3 : Sub (closeT τ i (packA avs)) (res.ren fun _ => i))
def EndT (E : Env) (nt : Nat) (fn : Func) (ty sz : Nat) (xs : List AV) (res : AV) : Exit → AS → Prop
  | .normal, σ => TX E nt fn σ ty sz xs res
  | .ret, σ => TX E nt fn σ ty sz xs res
  | _, _ => False
theorem ConT.walk {E : Env} {f : FuncId} {fn : Func} {args xs : List AV} {ty sz : Nat} {res : AV} (c : Code) (hf : E.P.funcs[f]? = some fn) (hb : fn.body = some c) (he : Enters E f) (hn : Nat.ble args.length fn.ntmps = true) (hres : res.inM [0] = true)
    (h : AW E fn.ntmps (EndT E fn.ntmps fn ty sz xs res) [.code c] .normal (start args)) (hrg : E.rg = false := by rfl) (hyl : E.yl = none := by rfl) (hnp : E.np = 0 := by rfl) : ConT E f args ty sz xs res := by
  refine ⟨he, hres, fun S w vs ha => callsIn_wide.1 (callsIn_of_wp (F := Fence.wide) (n := 0) hf hb trivial ?_)⟩
  have h0 : WP (Cx.call E S w fn.ntmps) c (EndT E fn.ntmps fn ty sz xs res) (start args) := WP.mono (h.out (Cx.call E S w fn.ntmps) rfl rfl) fun e σ hk => by cases e <;> exact hk
  refine wpIn_mono (h0 _ _ (start_st hyl hnp ha (Nat.le_of_ble_eq_true hn))) (fun e a w' ⟨σ, hq, hst0⟩ => ?_)
  have key : TX E fn.ntmps fn σ ty sz xs res → bodyPost E.P fn (fun e w' => ∃ u v us, e = .returned u ∧ Below w.heap.size w w' ∧ w'.ownsRow w.heap.size ty sz v xs.length us ∧
    (∀ k (hk : k < xs.length), (xs[k]).cells.length = sz) ∧ (∀ k (hk : k < xs.length) j (hj : j < (xs[k]).cells.length), Rep w' (fun b => (S b ∨ w.heap.size ≤ b) ∧ v.ownBlock ≠ some b) G0 ((xs[k]).cells[j]) (us.getD (k * sz + j) undef)) ∧ (∀ u ∈ us, u.oneCell' = true) ∧
    ∀ γ' : Gam, γ' 0 = some (some (v.ownBlock, v)) → Rep w' (fun b => (S b ∨ w.heap.size ≤ b) ∧ v.ownBlock ≠ some b) γ' res u) .ret a w' := by
    rintro ⟨τ, i, hl, avs, h1, h2, h3⟩
    obtain ⟨γ, hst⟩ := hl (Cx.call E S w fn.ntmps) rfl rfl a w' hst0
    obtain ⟨u, hu, hr⟩ := results_run hst h1
    have hme := hst.me i
    rw [h2] at hme
    obtain ⟨d, hd, s, us, hde, hone, hown, hlen, hrr, hone2⟩ := hme
    subst hde
    have hS : ∀ b, Sg (fun b => S b ∧ b < w.heap.size) w.heap.size γ b → (S b ∨ w.heap.size ≤ b) ∧ s.ownBlock ≠ some b := fun b hb => by
      refine ⟨?_, fun e => ?_⟩
      · rcases hb with ⟨hb, _⟩ | ⟨hb, _⟩
        · exact Or.inl hb.1
        · exact Or.inr hb.1
      · have ho : own γ b := ⟨i, s, by rw [hd, e]⟩
        rcases hb with ⟨_, hb⟩ | ⟨_, hb⟩
        · have := (hst.ge b ho).1.1; exact absurd hb (by show ¬ b < w.heap.size; exact Nat.not_lt.2 this)
        · exact hb ho
    refine ⟨hst.defers.d0 hrg, u, hu, u, s, us, rfl, hst.below, hown, hlen, fun k hk j hj => (hrr k hk j hj).mono (Nat.le_refl _) (fun b hb _ => ⟨rfl, hS b hb⟩), hone2, fun γ' hγ' => ?_⟩
    have hc := closeT_rep (S' := fun b => (S b ∨ w.heap.size ≤ b) ∧ s.ownBlock ≠ some b) (γ' := fun j => if j = i then γ i else none) hst hd (by simp [hd]) hS (fun j b s' hj hb => ⟨Or.inr (hst.ge b ⟨j, s', hb⟩).1.1, fun e => hj (hst.inj _ _ _ _ _ hb (by rw [hd, e]))⟩) hr
    exact (hc.sub h3).ren (ids := [0]) (ρ := fun _ => i) (fun id hid => by
      have : id = 0 := by simpa using hid
      subst this
      rw [hγ']
      simp [hd]) res rfl hres
  cases e with
  | normal => exact key hq
  | ret => exact key hq
  | _ => exact hq.elim
end Go.Proofs.Ytcbdhigllelmcaa
