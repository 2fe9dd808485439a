/- Layer 5, plain: sorting what is turned, and inserting one by one. -/
import Derived.Test.YtdbapaofibgfcaaP05E
import Derived.Test.YtdbapaofibgfcaaH05T
set_option linter.unusedVariables false
set_option linter.unusedSimpArgs false
namespace Go.Proofs.Ytdbapaofibgfcaa
open Go.RowKit

theorem srt_nil : srt [] = [] := (srt_uniq (l := []) (r := []) (fun x hx => by simp at hx) (fun x => Iff.rfl) .nil .nil).symm
theorem insS_srt {p : List Ev} {x : Ev} (hd : DistI (p ++ [x])) (hp : ∀ y ∈ p ++ [x], placedB y = true) (hl : p.length ≤ 100) : insS (srt p) x = (srt (p ++ [x]), 0) := by
  have hdp : DistI p := distI_of hd (fun y hy => by simp [hy])
  have hlp := srt_len hdp
  have h1 : strChk (srt p) = 0 := srt_stream hdp (fun y hy => hp y (by simp [hy])) (by omega)
  have h2 : placedB x = true := hp x (by simp)
  have e : ∀ y, y ∈ srt p ++ [x] ↔ y ∈ p ++ [x] := fun y => by rw [List.mem_append, srt_mem hdp, List.mem_append]
  have hd2 : DistI (srt p ++ [x]) := distI_of hd (fun y hy => (e y).1 hy)
  have e1 := srt_congr hd2 e
  have hl2 := srt_len hd
  rw [List.length_append] at hl2
  unfold insS joinedS
  rw [if_neg (show ¬ strChk (srt p) ≠ 0 by simp [h1]), if_neg (show ¬ placedB x = false by simp [h2]), if_pos hd2, e1, if_neg (by simp at hl2; omega)]
theorem take_snoc {l : List Ev} {k : Nat} (h : k < l.length) : l.take (k + 1) = l.take k ++ [l[k]] := by
  rw [List.take_succ_eq_append_getElem h]
theorem p_turns_l1 (x4 : List Ev × Int) (s t : List Ev) (hs : x4.1 = s) (hsv : ∀ x ∈ s, fewV 200 x) (hsl : s.length ≤ 12) (hd : DistI t) (hp : ∀ x ∈ t, placedB x = true) (hlen : t.length ≤ 12) (hm : ∀ x ∈ t, x ∈ s) (hv : ∀ x ∈ t, fewV 200 x) (K : List Ev → List Ev → Option Bool) :
    ∀ (m i : Nat), i ≤ t.length → t.length < m + i → F_tidegatelaw05_StreamTurns_l1 200 x4 t K m (srt (t.take i), (i : Int)) = K s (srt t)
  | 0, i, h1, h2 => by omega
  | m + 1, i, h1, h2 => by
    unfold F_tidegatelaw05_StreamTurns_l1
    simp only [List.length_map, cnd_if, cnd_not]
    by_cases h : i < t.length
    · rw [if_pos (by omega), idx_nat h, wrapS i (by omega)]
      have hm1 : ∀ y, y ∈ t.take i ++ [t[i]] → y ∈ t := fun y hy => by
        rw [← take_snoc h] at hy; exact List.mem_of_mem_take hy
      have hd1 : DistI (t.take i ++ [t[i]]) := distI_of hd hm1
      have hdi : DistI (t.take i) := distI_of hd (fun y hy => List.mem_of_mem_take hy)
      have hli := srt_len hdi
      have htl : (t.take i).length ≤ 12 := by rw [List.length_take]; omega
      have hvi : ∀ x ∈ srt (t.take i) ++ [t[i]], fewV 200 x := fun x hx => by
        rw [List.mem_append, srt_mem hdi] at hx
        exact hx.elim (fun h => hv x (List.mem_of_mem_take h)) (fun h' => by simp at h'; subst h'; exact hv _ (List.getElem_mem h))
      rw [p_insert 200 (srt (t.take i)) t[i] hvi (by omega) (by omega) (by omega), bnd_some, insS_srt hd1 (fun y hy => hp y (hm1 y hy)) (by omega)]
      rw [if_pos rfl, hs, p_has 200 s hsv t[i] (by omega) (by omega), bnd_some, cnd_if, if_pos (hm _ (List.getElem_mem h)), ← take_snoc h]
      exact p_turns_l1 x4 s t hs hsv hsl hd hp hlen hm hv K m (i + 1) (by omega) (by omega)
    · have e : i = t.length := by omega
      subst e
      rw [if_neg (by omega), hs, List.take_length]
theorem sortS_congr {l t : List Ev} (hl : t.length = l.length) (hm : ∀ x, x ∈ t ↔ x ∈ l) : sortS t = sortS l := by
  have e1 : allE t = allE l := by
    unfold allE
    rw [hl]
    have : t.all placedB = l.all placedB := by
      rw [Bool.eq_iff_iff, List.all_eq_true, List.all_eq_true]
      exact ⟨fun h x hx => h x ((hm x).2 hx), fun h x hx => h x ((hm x).1 hx)⟩
    rw [this]
  unfold sortS
  rw [e1]
  by_cases hd : DistI l
  · have hdt : DistI t := distI_of hd (fun x hx => (hm x).1 hx)
    rw [if_pos hd, if_pos hdt, srt_congr hdt hm]
  · have hdt : ¬ DistI t := fun h => hd (distI_of h (fun x hx => (hm x).2 hx))
    rw [if_neg hd, if_neg hdt]
theorem sortS_err {l : List Ev} (hl : l.length ≤ 12) (h : (sortS l).2 ≠ 0) : (sortS l).2 = 2 ∨ (sortS l).2 = 22 := by
  have hA : allE l = 0 ∨ allE l = 2 := by
    unfold allE
    rw [if_neg (show ¬ 4096 < l.length by omega)]
    split
    · exact Or.inl rfl
    · exact Or.inr rfl
  unfold sortS at *
  rcases hA with hA | hA
  · by_cases h2 : DistI l
    · simp [hA, h2] at h
    · simp [hA, h2]
  · simp [hA]
theorem sortS_ok {l : List Ev} (h : (sortS l).2 = 0) : sortS l = (srt l, 0) ∧ DistI l ∧ allE l = 0 := by
  unfold sortS at *
  by_cases h1 : allE l = 0
  · by_cases h2 : DistI l
    · simp [h1, h2]
    · simp [h1, h2] at h
  · simp [h1] at h
theorem allE_out {l : List Ev} (h : allE l = 0) : ∀ x ∈ l, placedB x = true := by
  unfold allE at h
  split at h
  · simp at h
  · split at h
    · rename_i h2; exact List.all_eq_true.1 h2
    · simp at h
theorem law_turns05 (l : List Ev) (a : Nat) (ha : a ≤ 255) : F_tidegatelaw05_StreamTurns 200 l a = some true := by
  unfold F_tidegatelaw05_StreamTurns
  rw [p_few 200 l (by omega), bnd_some, awake05 200 (by omega), bnd_some]
  cases hf : fewE l with
  | false => simp only [Bool.not_false, Bool.not_true, cnd_t, cnd_f]
  | true =>
    obtain ⟨h1, h2⟩ := few_v (n := 200) (by omega) hf
    simp only [Bool.not_true, cnd_f, List.length_map, cnd_if]
    by_cases h0 : l.length = 0
    · rw [if_pos (by omega)]
    · rw [if_neg (by omega)]
      obtain ⟨q1, q2⟩ := sortS_props h2
      rw [p_sort 200 l h2 (by omega) (by omega), bnd_some]
      have w2 : IntKind.wrap .i64 (a : Int) = (a : Int) := wrap_in _ (by omega)
      have w3 : (a : Int).tmod ((l.length : Nat) : Int) = ((a % l.length : Nat) : Int) := (Int.ofNat_tmod a l.length).symm
      rw [w2, w3]
      have hk : a % l.length < l.length := Nat.mod_lt _ (by omega)
      generalize hkk : a % l.length = k at hk ⊢
      rw [nzx_ok (by omega), sls_ok (by omega) (by omega), List.take_length, clone_some 200 (by rw [List.length_drop]; omega), bndR_some]
      have hz : sls l 0 (k : Int) = sls l ((0 : Nat) : Int) (k : Int) (β := Bool) := rfl
      rw [hz, sls_ok (by omega) (by omega), List.drop_zero, app_ok (by rw [List.length_drop, List.length_take]; omega) (by omega)]
      have hlen : (l.drop k ++ l.take k).reverse.length = l.length := by
        rw [List.length_reverse, List.length_append, List.length_drop, List.length_take]; omega
      have hmem : ∀ x, x ∈ (l.drop k ++ l.take k).reverse ↔ x ∈ l := fun x => by
        rw [List.mem_reverse, List.mem_append]
        conv => rhs; rw [← List.take_append_drop k l, List.mem_append]
        exact or_comm
      have hrev : F_rev 200 (l.drop k ++ l.take k) = some (l.drop k ++ l.take k).reverse := by
        unfold F_rev
        rw [List.length_reverse] at hlen
        rw [if_pos (by omega)]
      rw [hrev, bndC_some]
      generalize htt : (l.drop k ++ l.take k).reverse = t at hlen hmem ⊢
      have hvt : ∀ x ∈ t, fewV 200 x := fun x hx => h2 x ((hmem x).1 hx)
      rw [frz_eq, reg_eq, p_sort 200 t hvt (by omega) (by omega), bnd_some, sortS_congr hlen hmem]
      simp only [decide_true, Bool.not_true, cnd_f]
      rw [p_rSame 200 _ _ q1 (by omega) (by omega), bnd_some]
      simp only [decide_true, Bool.not_true, cnd_f, cnd_not, cnd_if]
      by_cases he : (sortS l).2 = 0
      · rw [if_pos he]
        obtain ⟨e1, hd, hA⟩ := sortS_ok he
        have hp := allE_out hA
        have hs : (sortS l).1 = srt l := by rw [e1]
        have ls := srt_len hd
        have vs := srt_few hd h2
        rw [hs]
        have hds := DistI.srt hd
        have e2 : sortS (srt l) = (srt l, 0) := by
          unfold sortS
          rw [allE_ok (by omega) (fun x hx => hp x ((srt_mem hd x).1 hx)), if_neg (by simp), if_pos hds, srt_congr hds (fun x => srt_mem hd x)]
        have e3 : strChk (srt l) = 0 := srt_stream hd hp (by omega)
        rw [p_sort 200 (srt l) vs (by omega) (by omega), bnd_some, e2, if_pos rfl, p_chk 200 (srt l) (by omega) (by omega), bnd_some, if_pos e3]
        rw [p_rSame 200 (srt l) (srt l) vs (by omega) (by omega), bnd_some]
        simp only [decide_true, cnd_t]
        have hdt : DistI t := distI_of hd (fun x hx => (hmem x).1 hx)
        have := p_turns_l1 (sortS l) (srt l) t hs vs (by omega) hdt (fun x hx => hp x ((hmem x).1 hx)) (by omega) (fun x hx => (srt_mem hd x).2 ((hmem x).1 hx)) hvt
          (fun k1_0_0y0 k1_0_0y1 => bnd (F_tidegateref05_Same 200 k1_0_0y1 k1_0_0y0) fun x59 => cnd (x59) (some true) <| some false) 200 0 (by omega) (by omega)
        rw [List.take_zero, srt_nil] at this
        refine this.trans ?_
        have e4 : srt t = srt l := srt_congr hdt hmem
        rw [e4, p_rSame 200 (srt l) (srt l) vs (by omega) (by omega), bnd_some]
        simp [cnd_t]
      · rw [if_neg he]
        rcases sortS_err h1 he with h | h
        · rw [if_pos h]
        · rw [if_neg (by omega), if_pos h]
theorem turns_con05 (l : List T_api_Event) (a : Nat) (h : a ≤ 255) : Con E0 true 9 [.sl 5 (l.map e_api_Event), .int .u8 a] (.bool true) := con_tidegatelaw05_StreamTurns (law_turns05 l a h)
end Go.Proofs.Ytdbapaofibgfcaa
