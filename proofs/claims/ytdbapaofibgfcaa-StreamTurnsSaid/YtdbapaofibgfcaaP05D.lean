/- Layer 5, plain: Merge, Insert; the examples; the laws that compare with the reference. -/
import Derived.Test.YtdbapaofibgfcaaP05C
set_option linter.unusedVariables false
set_option linter.unusedSimpArgs false
namespace Go.Proofs.Ytdbapaofibgfcaa
open Go.RowKit

theorem p_grow (n : Nat) (s : Nat) (h : s ≤ 1000000) : F_slices_Grow n (s : Int) = some [] := by
  have w0 : IntKind.wrap .i64 ((0 : Int) - 0) = 0 := by decide
  have w1 : IntKind.wrap .i64 ((s : Int) - 0) = (s : Int) := by rw [wrap_in _ (by omega)]; omega
  unfold F_slices_Grow
  simp only [cnd_if, w0, w1]
  rw [if_neg (by omega)]
  by_cases h0 : 0 < s
  · rw [if_pos (by omega)]
    unfold psx
    rw [if_pos (by omega), mak_ok (by omega) (by omega)]
    have := sls_ok (l := List.replicate s (⟨0, 0, 0, 0, []⟩ : T_api_Event)) (a := 0) (b := 0) (Nat.le_refl _) (Nat.zero_le _) (fun x2 => some x2)
    simpa using this
  · rw [if_neg (by omega)]
theorem idx_one {α β : Type} {x y : α} {l : List α} (k : α → Option β) : idx (x :: y :: l) 1 k = k y := by unfold idx; simp
theorem p_concat (n : Nat) (a b : List Ev) (hn : 3 ≤ n) (ha : a.length ≤ 100000) (hb : b.length ≤ 100000) : F_slices_Concat n [a, b] = some (a ++ b) := by
  obtain ⟨m, rfl⟩ : ∃ m, n = m + 3 := ⟨n - 3, by omega⟩
  have w0 : IntKind.wrap .i64 ((0 : Int) + 1) = 1 := by decide
  have w1 : IntKind.wrap .i64 ((1 : Int) + 1) = 2 := by decide
  have wa : IntKind.wrap .i64 ((0 : Int) + (a.length : Int)) = (a.length : Int) := by rw [wrap_in _ (by omega)]; omega
  have wb : IntKind.wrap .i64 ((a.length : Int) + (b.length : Int)) = ((a.length + b.length : Nat) : Int) := by rw [wrap_in _ (by omega)]; omega
  unfold F_slices_Concat
  simp only [F_slices_Concat_l1, List.length_map, List.length_cons, List.length_nil, cnd_if, idx_zero, idx_one, w0, w1, wa, wb]
  have c1 : ¬ ((a.length : Int) < 0) := by omega
  have c2 : ¬ (((a.length + b.length : Nat) : Int) < 0) := by omega
  rw [if_pos (by decide), if_neg c1, if_pos (by decide), if_neg c2, if_neg (by decide)]
  rw [p_grow _ _ (by omega), bndR_some]
  simp only [F_slices_Concat_l2, List.length_map, List.length_cons, List.length_nil, cnd_if, idx_zero, idx_one, w0, w1]
  rw [if_pos (by decide), app_ok (by simp; omega) (by omega), if_pos (by decide), app_ok (by simp; omega) (by omega), if_neg (by decide)]
  simp
def joinedS (a b : List Ev) : List Ev × Int := if DistI (a ++ b) then (if 4096 < (srt (a ++ b)).length then ([], 5) else (srt (a ++ b), 0)) else ([], 22)
theorem p_joined (n : Nat) (a b : List Ev) (hv : ∀ x ∈ a ++ b, fewV n x) (hn : a.length + b.length < n) (hn3 : 3 ≤ n) (ha : a.length ≤ 10000) (hb : b.length ≤ 10000) : F_stream_joined n a b = some (joinedS a b) := by
  unfold F_stream_joined joinedS
  rw [p_concat n a b hn3 (by omega) (by omega), bnd_some, p_sorted n (a ++ b) hv (by rw [List.length_append]; omega) (by rw [List.length_append]; omega), bnd_some]
  unfold sortedS
  by_cases h : DistI (a ++ b)
  · rw [if_pos h, if_pos h]
    simp only [Bool.not_true, cnd_f, List.length_map, cnd_if]
    by_cases h4 : 4096 < (srt (a ++ b)).length
    · rw [if_pos (by omega), if_pos h4]
    · rw [if_neg (by omega), if_neg h4]
  · rw [if_neg h, if_neg h]
    simp only [Bool.not_false, cnd_t]
def mergeS (a b : List Ev) : List Ev × Int := if strChk a ≠ 0 then ([], strChk a) else if strChk b ≠ 0 then ([], strChk b) else joinedS a b
theorem strChk_len {l : List Ev} (h : strChk l = 0) : l.length ≤ 4096 := (strChk_zero h).1
theorem p_merge (n : Nat) (a b : List Ev) (hv : ∀ x ∈ a ++ b, fewV n x) (hn : a.length + b.length < n) (hn3 : 3 ≤ n) (ha : a.length ≤ 10000) (hb : b.length ≤ 10000) : F_stream_Merge n a b = some (mergeS a b) := by
  unfold F_stream_Merge mergeS
  rw [p_chk n a (by omega) (by omega), bnd_some]
  simp only [cnd_not, cnd_if]
  by_cases h1 : strChk a = 0
  · rw [if_pos h1, if_neg (show ¬ strChk a ≠ 0 by simp [h1]), p_chk n b (by omega) (by omega), bnd_some]
    by_cases h2 : strChk b = 0
    · rw [if_pos h2, if_neg (show ¬ strChk b ≠ 0 by simp [h2]), p_joined n a b hv hn hn3 ha hb, bnd_some]
    · rw [if_neg h2, if_pos h2]
  · rw [if_neg h1, if_pos h1]
theorem p_rmerge_l1 (n : Nat) (b a : List Ev) (hv : ∀ x ∈ a, fewV n x) (hn : a.length < n) (ha : a.length ≤ 1000000) (K : Option (List Ev × Int)) : ∀ (m k : Nat), k ≤ b.length → b.length ≤ 1000000 → b.length < m + k → F_tidegateref05_Merge_l1 n b a K m (k : Int) = if confB a (b.drop k) then some ([], 22) else K
  | 0, k, h1, h2, h3 => by omega
  | m + 1, k, h1, h2, h3 => by
    unfold F_tidegateref05_Merge_l1
    simp only [List.length_map, cnd_if, cnd_not]
    by_cases h : k < b.length
    · rw [if_pos (by omega), idx_nat h, wrapS k (by omega)]
      rw [p_conf n a hv b[k] hn ha, bnd_some, cnd_b]
      rw [drop_eq_cons b k h, p_rmerge_l1 n b a hv hn ha K m (k + 1) (by omega) h2 (by omega)]
      conv => rhs; unfold confB; rw [List.any_cons]
      generalize hq : (a.any fun x => decide (idt x = idt b[k]) && !decide (x = b[k])) = q
      cases q
      · simp only [Bool.false_eq_true, if_false, Bool.false_or]; rfl
      · simp
    · rw [if_neg (by omega), List.drop_eq_nil_of_le (by omega)]; simp [confB]
theorem distI_append {a b : List Ev} (ha : DistI a) (hb : DistI b) : DistI (a ++ b) ↔ confB a b = false := by
  rw [confB_iff]
  constructor
  · intro h e he x hx hi
    exact h x (by simp [hx]) e (by simp [he]) hi
  · intro h x hx y hy hi
    simp only [List.mem_append] at hx hy
    rcases hx with hx | hx <;> rcases hy with hy | hy
    · exact ha x hx y hy hi
    · exact h y hy x hx hi
    · exact (h x hx y hy hi.symm).symm
    · exact hb x hx y hy hi
theorem stream_dist {l : List Ev} (h : strChk l = 0) : DistI l ∧ l.Nodup := stream_distI (strChk_zero h).2.2.1
theorem p_rmerge (n : Nat) (a b : List Ev) (hv : ∀ x ∈ a ++ b, fewV n x) (hn : a.length + b.length < n) (ha : a.length ≤ 10000) (hb : b.length ≤ 10000) : F_tidegateref05_Merge n a b = some (mergeS a b) := by
  unfold F_tidegateref05_Merge mergeS
  rw [p_rchk n a (by omega) (by omega), bnd_some]
  simp only [cnd_not, cnd_if]
  by_cases h1 : strChk a = 0
  · rw [if_pos h1, if_neg (show ¬ strChk a ≠ 0 by simp [h1]), p_rchk n b (by omega) (by omega), bnd_some]
    by_cases h2 : strChk b = 0
    · rw [if_pos h2, if_neg (show ¬ strChk b ≠ 0 by simp [h2])]
      have hl1 := p_rmerge_l1 n b a (fun x hx => hv x (by simp [hx])) (by omega) (by omega) (app [] a 56 fun x43 => app x43 b 56 fun x44 => bnd (F_tidegateref05_Sorted n x44) fun x45 => if (4096 : Int) < ((List.map e_api_Event x45).length : Int) then some ([], 5) else some (x45, 0)) n 0 (by omega) (by omega) (by omega)
      simp only [Int.natCast_zero, List.drop_zero] at hl1
      rw [hl1, app_ok (by simp; omega) (by omega), app_ok (by simp; omega) (by omega), List.nil_append, p_rsorted n (a ++ b) hv (by rw [List.length_append]; omega) (by rw [List.length_append]; omega), bnd_some]
      unfold joinedS
      by_cases hd : DistI (a ++ b)
      · have hc := (distI_append (stream_dist h1).1 (stream_dist h2).1).1 hd
        rw [hc, if_pos hd, sortedR_srt hd]
        simp only [Bool.false_eq_true, if_false, List.length_map]
        by_cases h4 : 4096 < (srt (a ++ b)).length
        · rw [if_pos (by omega), if_pos h4]
        · rw [if_neg (by omega), if_neg h4]
      · have hc : confB a b = true := by
          cases hb' : confB a b with
          | true => rfl
          | false => exact absurd ((distI_append (stream_dist h1).1 (stream_dist h2).1).2 hb') hd
        rw [hc, if_neg hd]
        simp
    · rw [if_neg h2, if_pos h2]
  · rw [if_neg h1, if_pos h1]
def insS (l : List Ev) (e : Ev) : List Ev × Int := if strChk l ≠ 0 then ([], strChk l) else if placedB e = false then ([], 2) else joinedS l [e]
theorem p_insert (n : Nat) (l : List Ev) (e : Ev) (hv : ∀ x ∈ l ++ [e], fewV n x) (hn : l.length + 1 < n) (hn3 : 3 ≤ n) (ha : l.length ≤ 10000) : F_stream_Insert n l e = some (insS l e) := by
  unfold F_stream_Insert insS
  rw [p_chk n l (by omega) (by omega), bnd_some]
  simp only [cnd_not, cnd_if]
  by_cases h1 : strChk l = 0
  · rw [if_pos h1, if_neg (show ¬ strChk l ≠ 0 by simp [h1]), p_placed, bnd_some, cnd_b]
    by_cases h2 : placedB e = true
    · rw [if_pos h2, if_neg (show ¬ placedB e = false by rw [h2]; simp), p_joined n l [e] hv (by simpa using hn) hn3 ha (by simp), bnd_some]
    · rw [if_neg h2, if_pos (show placedB e = false by simpa using h2)]
  · rw [if_neg h1, if_pos h1]
theorem p_rinsert (n : Nat) (l : List Ev) (e : Ev) (hv : ∀ x ∈ l ++ [e], fewV n x) (hn : l.length + 1 < n) (ha : l.length ≤ 10000) : F_tidegateref05_Insert n l e = some (insS l e) := by
  unfold F_tidegateref05_Insert insS
  rw [p_rchk n l (by omega) (by omega), bnd_some]
  simp only [cnd_not, cnd_if]
  by_cases h1 : strChk l = 0
  · rw [if_pos h1, if_neg (show ¬ strChk l ≠ 0 by simp [h1]), p_rplaced, bnd_some, cnd_b]
    by_cases h2 : placedB e = true
    · rw [if_pos h2, if_neg (show ¬ placedB e = false by rw [h2]; simp)]
      have hvl : ∀ x ∈ l, fewV n x := fun x hx => hv x (by simp [hx])
      rw [p_conf n l hvl e (by omega) (by omega), bnd_some, p_has n l hvl e (by omega) (by omega), bnd_some]
      have hl := (strChk_zero h1).1
      obtain ⟨hd, hnd⟩ := stream_dist h1
      have hde : DistI [e] := fun x hx y hy _ => by simp at hx hy; rw [hx, hy]
      have hc1 : confB l [e] = (l.any fun x => decide (idt x = idt e) && !decide (x = e)) := by simp [confB]
      rw [← hc1]
      unfold joinedS
      by_cases hdd : DistI (l ++ [e])
      · rw [(distI_append hd hde).1 hdd, cnd_f, if_pos hdd]
        by_cases hm : e ∈ l
        · rw [cnd_if, if_pos hm]
          have e1 : srt (l ++ [e]) = l := by
            rw [← stream_srt h1]
            rw [stream_srt h1]
            refine (srt_congr hdd (l' := l) fun x => ?_).trans (stream_srt h1)
            simp only [List.mem_append, List.mem_singleton]
            exact ⟨fun h => h.elim id (fun h => h ▸ hm), Or.inl⟩
          rw [e1, if_neg (by omega)]
        · rw [cnd_if, if_neg hm]
          have hperm := putR_perm e l
          have hs : l.Pairwise (fun x y => ltOf evCmp y x = false) := by
            have := srt_sorted l
            rwa [stream_srt h1] at this
          have e1 : putR l e = srt (l ++ [e]) := srt_uniq hdd (fun x => by rw [hperm.mem_iff]; simp [or_comm]) (hperm.symm.nodup (List.nodup_cons.2 ⟨hm, hnd⟩)) (putR_sorted e l hs)
          have hlen : (srt (l ++ [e])).length = l.length + 1 := by rw [← e1]; exact putR_length l e
          try simp only [List.length_map]
          by_cases h4 : l.length = 4096
          · rw [if_pos (by omega), if_pos (by omega)]
          · rw [if_neg (by omega), if_neg (by omega), p_put n l e (by omega) (by omega), bnd_some, e1]
      · have hc : confB l [e] = true := by
          cases hb' : confB l [e] with
          | true => rfl
          | false => exact absurd ((distI_append hd hde).2 hb') hdd
        rw [hc, cnd_t, if_neg hdd]
    · rw [if_neg h2, if_pos (show placedB e = false by simpa using h2)]
  · rw [if_neg h1, if_pos h1]

/-! ### The examples -/
abbrev evA : Ev := ⟨0, 0, 0, 5, []⟩
abbrev evB : Ev := ⟨0, 1, 0, 3, []⟩
abbrev evC : Ev := ⟨0, 2, 0, 5, []⟩
abbrev evO : Ev := ⟨0, 0, 0, 5, [⟨0, 1, ByteArray.empty⟩]⟩
theorem ex_srt : srt [evA, evB, evC, evA] = [evB, evA, evC] :=
  (srt_uniq (by decide) (fun x => by
    simp only [List.mem_cons, List.not_mem_nil, or_false]
    constructor
    · intro h; rcases h with h | h | h <;> simp [h]
    · intro h; rcases h with h | h | h | h <;> simp [h]) (by decide) (by decide)).symm
theorem fewV_lit (n : Nat) (hn : 10 ≤ n) (e : Ev) (h : e.fValues.length ≤ 1) : fewV n e := ⟨by omega, by omega⟩
theorem awake05 (n : Nat) (hn : 100 ≤ n) : F_tidegatelaw05_awake n = some true := by
  have hv : ∀ l : List Ev, (∀ x ∈ l, x.fValues.length ≤ 1) → ∀ x ∈ l, fewV n x := fun l h x hx => fewV_lit n (by omega) x (h x hx)
  have s1 : sortS [evA, evB, evC, evA] = ([evB, evA, evC], 0) := by
    unfold sortS
    rw [if_neg (by decide), if_pos (by decide), ex_srt]
  have s2 : invS [evA, evB, evC] = (1, 0) := by decide
  have s3 : findS [evB, evA, evC] ⟨5, 0, 1⟩ = (2, false, 0) := by decide
  have s4 : findS [evB, evA, evC] ⟨5, 0, 2⟩ = (2, true, 0) := by decide
  have s5 : sliceS [evB, evA, evC] 4 5 = ([evA, evC], 0) := by decide
  have s6 : mergeS [evB, evA] [evO] = ([], 22) := by
    unfold mergeS joinedS
    rw [if_neg (by decide), if_neg (by decide), if_neg (by decide)]
  unfold F_tidegatelaw05_awake
  rw [p_sort n [evA, evB, evC, evA] (hv _ (by decide)) (by simp; omega) (by simp), bnd_some, s1, p_inv n [evA, evB, evC] (by simp; omega) (by simp), bnd_some, s2]
  rw [p_find n [evB, evA, evC] ⟨5, 0, 1⟩ (by omega) (by simp; omega) (by simp), bnd_some, s3, p_find n [evB, evA, evC] ⟨5, 0, 2⟩ (by omega) (by simp; omega) (by simp), bnd_some, s4]
  rw [p_slice n [evB, evA, evC] 4 5 (hv _ (by decide)) (by simp; omega) (by simp), bnd_some, s5, p_merge n [evB, evA] [evO] (hv _ (by decide)) (by simp; omega) (by omega) (by simp) (by simp), bnd_some, s6]
  simp only [decide_true, Bool.not_true, cnd_f]
  rw [p_rSame n [evB, evA, evC] [evB, evA, evC] (hv _ (by decide)) (by simp; omega) (by simp), bnd_some, p_rSame n [evA, evC] [evA, evC] (hv _ (by decide)) (by simp; omega) (by simp)]
  simp [cnd_t, cnd_f, bnd_some]

/-! ### Laws -/
theorem few_v {n : Nat} (hn : 100 ≤ n) {l : List Ev} (h : fewE l = true) : l.length ≤ 12 ∧ ∀ x ∈ l, fewV n x := by
  obtain ⟨h1, h2⟩ := fewE_out h
  exact ⟨h1, fun x hx => ⟨by have := h2 x hx; omega, by have := h2 x hx; omega⟩⟩
theorem srt_few {n : Nat} {l : List Ev} (h : DistI l) (hv : ∀ x ∈ l, fewV n x) : ∀ x ∈ srt l, fewV n x := fun x hx => hv x ((srt_mem h x).1 hx)
theorem srt_len {l : List Ev} (h : DistI l) : (srt l).length ≤ l.length := (srt_nodup h).length_le_of_subset (fun x hx => (srt_mem h x).1 hx)
theorem sortS_props {n : Nat} {l : List Ev} (hv : ∀ x ∈ l, fewV n x) : (∀ x ∈ (sortS l).1, fewV n x) ∧ (sortS l).1.length ≤ l.length := by
  unfold sortS
  split
  · exact ⟨by simp, by simp⟩
  · split
    · rename_i h; exact ⟨srt_few h hv, srt_len h⟩
    · exact ⟨by simp, by simp⟩
theorem law_checks05 (l : List Ev) : F_tidegatelaw05_StreamChecks 200 l = some true := by
  unfold F_tidegatelaw05_StreamChecks
  rw [p_few 200 l (by omega), bnd_some, awake05 200 (by omega), bnd_some]
  cases hf : fewE l with
  | false => simp only [Bool.not_false, Bool.not_true, cnd_t, cnd_f]
  | true =>
    obtain ⟨h1, h2⟩ := few_v (n := 200) (by omega) hf
    obtain ⟨q1, q2⟩ := sortS_props h2
    simp only [Bool.not_true, cnd_f]
    rw [p_sort 200 l h2 (by omega) (by omega), bnd_some, p_rsort 200 l h2 (by omega) (by omega), bnd_some, p_chk 200 l (by omega) (by omega), bnd_some, p_rchk 200 l (by omega) (by omega), bnd_some]
    simp only [decide_true, cnd_t]
    rw [p_rSame 200 _ _ q1 (by omega) (by omega), bnd_some]
    simp [cnd_t]
theorem law_finds05 (l : List Ev) (r : T_api_Ref) : F_tidegatelaw05_StreamFinds 200 l r = some true := by
  unfold F_tidegatelaw05_StreamFinds
  rw [p_few 200 l (by omega), bnd_some, awake05 200 (by omega), bnd_some]
  cases hf : fewE l with
  | false => simp only [Bool.not_false, Bool.not_true, cnd_t, cnd_f]
  | true =>
    obtain ⟨h1, h2⟩ := few_v (n := 200) (by omega) hf
    simp only [Bool.not_true, cnd_f]
    rw [p_find 200 l r (by omega) (by omega) (by omega), bnd_some, p_rfind 200 l r (by omega) (by omega), bnd_some]
    simp [cnd_t]
theorem sliceS_props {n : Nat} {l : List Ev} (a b : Int) (hv : ∀ x ∈ l, fewV n x) : (∀ x ∈ (sliceS l a b).1, fewV n x) ∧ (sliceS l a b).1.length ≤ l.length := by
  unfold sliceS
  split
  · exact ⟨by simp, by simp⟩
  · exact ⟨fun x hx => hv x (List.mem_filter.1 hx).1, List.length_filter_le _ _⟩
theorem law_slices05 (l : List Ev) (a b : Int) : F_tidegatelaw05_StreamSlices 200 l a b = some true := by
  unfold F_tidegatelaw05_StreamSlices
  rw [p_few 200 l (by omega), bnd_some, awake05 200 (by omega), bnd_some]
  cases hf : fewE l with
  | false => simp only [Bool.not_false, Bool.not_true, cnd_t, cnd_f]
  | true =>
    obtain ⟨h1, h2⟩ := few_v (n := 200) (by omega) hf
    obtain ⟨q1, q2⟩ := sliceS_props a b h2
    simp only [Bool.not_true, cnd_f]
    rw [p_slice 200 l a b h2 (by omega) (by omega), bnd_some, p_rslice 200 l a b (by omega) (by omega), bnd_some, p_inv 200 l (by omega) (by omega), bnd_some, p_rinv 200 l (by omega) (by omega), bnd_some, p_rSame 200 _ _ q1 (by omega) (by omega), bnd_some]
    simp [cnd_t]
theorem joinedS_props {n : Nat} {a b : List Ev} (hv : ∀ x ∈ a ++ b, fewV n x) : (∀ x ∈ (joinedS a b).1, fewV n x) ∧ (joinedS a b).1.length ≤ a.length + b.length := by
  unfold joinedS
  split
  · rename_i h
    split
    · exact ⟨by simp, by simp⟩
    · exact ⟨srt_few h hv, by have := srt_len h; rw [List.length_append] at this; exact this⟩
  · exact ⟨by simp, by simp⟩
theorem mergeS_props {n : Nat} {a b : List Ev} (hv : ∀ x ∈ a ++ b, fewV n x) : (∀ x ∈ (mergeS a b).1, fewV n x) ∧ (mergeS a b).1.length ≤ a.length + b.length := by
  unfold mergeS
  split
  · exact ⟨by simp, by simp⟩
  · split
    · exact ⟨by simp, by simp⟩
    · exact joinedS_props hv
theorem insS_props {n : Nat} {l : List Ev} {e : Ev} (hv : ∀ x ∈ l ++ [e], fewV n x) : (∀ x ∈ (insS l e).1, fewV n x) ∧ (insS l e).1.length ≤ l.length + 1 := by
  unfold insS
  split
  · exact ⟨by simp, by simp⟩
  · split
    · exact ⟨by simp, by simp⟩
    · exact joinedS_props hv
theorem law_merges05 (a b : List Ev) (e : Ev) : F_tidegatelaw05_StreamMerges 200 a b e = some true := by
  unfold F_tidegatelaw05_StreamMerges
  rw [p_few 200 a (by omega), bnd_some, p_few 200 b (by omega), bnd_some, p_few 200 [e] (by omega), bnd_some, awake05 200 (by omega), bnd_some]
  cases hf : fewE a with
  | false => simp only [Bool.not_false, Bool.not_true, cnd_t, cnd_f]
  | true =>
  cases hg : fewE b with
  | false => simp only [Bool.not_false, Bool.not_true, cnd_t, cnd_f]
  | true =>
  cases hh : fewE [e] with
  | false => simp only [Bool.not_false, Bool.not_true, cnd_t, cnd_f]
  | true =>
    obtain ⟨h1, h2⟩ := few_v (n := 200) (by omega) hf
    obtain ⟨g1, g2⟩ := few_v (n := 200) (by omega) hg
    obtain ⟨_, k2⟩ := few_v (n := 200) (by omega) hh
    have hv : ∀ x ∈ a ++ b, fewV 200 x := fun x hx => (List.mem_append.1 hx).elim (h2 x) (g2 x)
    have hw : ∀ x ∈ a ++ [e], fewV 200 x := fun x hx => (List.mem_append.1 hx).elim (h2 x) (k2 x)
    obtain ⟨q1, q2⟩ := mergeS_props hv
    obtain ⟨q3, q4⟩ := insS_props hw
    simp only [Bool.not_true, cnd_f]
    rw [p_merge 200 a b hv (by omega) (by omega) (by omega) (by omega), bnd_some, p_rmerge 200 a b hv (by omega) (by omega) (by omega), bnd_some, p_insert 200 a e hw (by omega) (by omega) (by omega), bnd_some, p_rinsert 200 a e hw (by omega) (by omega), bnd_some, p_rSame 200 _ _ q1 (by omega) (by omega), bnd_some, p_rSame 200 _ _ q3 (by omega) (by omega), bnd_some]
    simp [cnd_t]
end Go.Proofs.Ytdbapaofibgfcaa
