/- Layer 5, plain: merging as an operation of sets, and inversions of neighbours. -/
import Derived.Test.YtdbapaofibgfcaaP05D
set_option linter.unusedVariables false
set_option linter.unusedSimpArgs false
namespace Go.Proofs.Ytdbapaofibgfcaa
open Go.RowKit

theorem distI_of {l l' : List Ev} (h : DistI l) (hm : ∀ x, x ∈ l' → x ∈ l) : DistI l' := fun x hx y hy => h x (hm x hx) y (hm y hy)
def Mok (a b : List Ev) : Prop := strChk a = 0 ∧ strChk b = 0 ∧ DistI (a ++ b) ∧ (srt (a ++ b)).length ≤ 4096
theorem mergeS_ok {a b : List Ev} : (mergeS a b).2 = 0 ↔ Mok a b := by
  unfold mergeS joinedS Mok
  by_cases h1 : strChk a = 0 <;> by_cases h2 : strChk b = 0 <;> by_cases h3 : DistI (a ++ b) <;> by_cases h4 : 4096 < (srt (a ++ b)).length <;> simp [h1, h2, h3, h4] <;> omega
theorem mergeS_eq {a b : List Ev} (h : Mok a b) : mergeS a b = (srt (a ++ b), 0) := by
  obtain ⟨h1, h2, h3, h4⟩ := h
  unfold mergeS joinedS
  rw [if_neg (show ¬ strChk a ≠ 0 by simp [h1]), if_neg (show ¬ strChk b ≠ 0 by simp [h2]), if_pos h3, if_neg (by omega)]
theorem Mok.placed {a b : List Ev} (h : Mok a b) : ∀ x ∈ a ++ b, placedB x = true := fun x hx =>
  (List.mem_append.1 hx).elim (fun h1 => (strChk_zero h.1).2.1 x h1) (fun h1 => (strChk_zero h.2.1).2.1 x h1)
theorem Mok.stream {a b : List Ev} (h : Mok a b) : strChk (srt (a ++ b)) = 0 := srt_stream h.2.2.1 h.placed h.2.2.2
theorem Mok.symm {a b : List Ev} (h : Mok a b) : Mok b a ∧ srt (a ++ b) = srt (b ++ a) := by
  have e : ∀ x, x ∈ a ++ b ↔ x ∈ b ++ a := fun x => by simp [or_comm]
  have e1 := srt_congr h.2.2.1 e
  exact ⟨⟨h.2.1, h.1, distI_of h.2.2.1 (fun x hx => (e x).2 hx), by rw [← e1]; exact h.2.2.2⟩, e1⟩
theorem unite_same {a b : List Ev} (h : Mok a b) : Mok (srt (a ++ b)) b ∧ srt (srt (a ++ b) ++ b) = srt (a ++ b) := by
  have e : ∀ x, x ∈ srt (a ++ b) ++ b ↔ x ∈ a ++ b := fun x => by
    rw [List.mem_append, srt_mem h.2.2.1, List.mem_append]
    exact ⟨fun h => h.elim id Or.inr, Or.inl⟩
  have hd : DistI (srt (a ++ b) ++ b) := distI_of h.2.2.1 (fun x hx => (e x).1 hx)
  have e1 := srt_congr hd e
  exact ⟨⟨h.stream, h.2.1, hd, by rw [e1]; exact h.2.2.2⟩, e1⟩
theorem unite_assoc {a b c : List Ev} (h : Mok a b) (h1 : Mok (srt (a ++ b)) c) (h2 : Mok b c) : Mok a (srt (b ++ c)) ∧ srt (a ++ srt (b ++ c)) = srt (srt (a ++ b) ++ c) := by
  have e : ∀ x, x ∈ a ++ srt (b ++ c) ↔ x ∈ srt (a ++ b) ++ c := fun x => by
    rw [List.mem_append, List.mem_append, srt_mem h.2.2.1, srt_mem h2.2.2.1, List.mem_append, List.mem_append, or_assoc]
  have hd : DistI (a ++ srt (b ++ c)) := distI_of h1.2.2.1 (fun x hx => (e x).1 hx)
  have e1 := srt_congr hd e
  exact ⟨⟨h.1, h2.stream, hd, by rw [e1]; exact h1.2.2.2⟩, e1⟩
theorem allE_ok {l : List Ev} (hl : l.length ≤ 4096) (hp : ∀ x ∈ l, placedB x = true) : allE l = 0 := by
  unfold allE
  rw [if_neg (by omega), if_pos (List.all_eq_true.2 hp)]
theorem clone_some (n : Nat) {l : List Ev} (h : l.length ≤ 1000000) : F_clone n l = some l := by
  unfold F_clone; exact if_pos (by omega)
theorem law_unites05 (a b c : List Ev) : F_tidegatelaw05_StreamUnites 200 a b c = some true := by
  unfold F_tidegatelaw05_StreamUnites
  rw [p_few 200 a (by omega), bnd_some, p_few 200 b (by omega), bnd_some, p_few 200 c (by omega), bnd_some, awake05 200 (by omega), bnd_some]
  cases hf : fewE a with
  | false => simp only [Bool.not_false, Bool.not_true, cnd_t, cnd_f]
  | true =>
  cases hg : fewE b with
  | false => simp only [Bool.not_false, Bool.not_true, cnd_t, cnd_f]
  | true =>
  cases hh : fewE c with
  | false => simp only [Bool.not_false, Bool.not_true, cnd_t, cnd_f]
  | true =>
    obtain ⟨a1, a2⟩ := few_v (n := 200) (by omega) hf
    obtain ⟨b1, b2⟩ := few_v (n := 200) (by omega) hg
    obtain ⟨c1, c2⟩ := few_v (n := 200) (by omega) hh
    have vab : ∀ x ∈ a ++ b, fewV 200 x := fun x hx => (List.mem_append.1 hx).elim (a2 x) (b2 x)
    have vba : ∀ x ∈ b ++ a, fewV 200 x := fun x hx => (List.mem_append.1 hx).elim (b2 x) (a2 x)
    have vbc : ∀ x ∈ b ++ c, fewV 200 x := fun x hx => (List.mem_append.1 hx).elim (b2 x) (c2 x)
    simp only [Bool.not_true, cnd_f]
    rw [p_merge 200 a b vab (by omega) (by omega) (by omega) (by omega), bnd_some, p_merge 200 b a vba (by omega) (by omega) (by omega) (by omega), bnd_some]
    by_cases h : Mok a b
    · obtain ⟨hs, es⟩ := h.symm
      rw [mergeS_eq h, mergeS_eq hs]
      obtain ⟨h3, e3⟩ := unite_same h
      have vs : ∀ x ∈ srt (a ++ b), fewV 200 x := srt_few h.2.2.1 vab
      have ls := srt_len h.2.2.1
      rw [List.length_append] at ls
      simp only [decide_true, Bool.not_true, cnd_f]
      rw [clone_some 200 (by omega), bndR_some, app_ok (by omega) (by omega), p_sort 200 (a ++ b) vab (by rw [List.length_append]; omega) (by rw [List.length_append]; omega), bnd_some,
        p_merge 200 (srt (a ++ b)) b (fun x hx => (List.mem_append.1 hx).elim (vs x) (b2 x)) (by omega) (by omega) (by omega) (by omega), bnd_some]
      have e4 : sortS (a ++ b) = (srt (a ++ b), 0) := by
        unfold sortS
        rw [allE_ok (by rw [List.length_append]; omega) h.placed, if_neg (by simp), if_pos h.2.2.1]
      rw [e4, mergeS_eq h3, e3]
      simp only [decide_true, Bool.not_true, cnd_f]
      rw [← es, p_rSame 200 (srt (a ++ b)) (srt (a ++ b)) vs (by omega) (by omega), bnd_some]
      simp only [decide_true, Bool.not_true, cnd_f, bnd_some]
      rw [p_merge 200 (srt (a ++ b)) c (fun x hx => (List.mem_append.1 hx).elim (vs x) (c2 x)) (by omega) (by omega) (by omega) (by omega), bnd_some,
        p_merge 200 b c vbc (by omega) (by omega) (by omega) (by omega), bnd_some]
      simp only [cnd_not, cnd_if]
      by_cases h5 : (mergeS (srt (a ++ b)) c).2 = 0
      · rw [if_pos h5]
        by_cases h6 : (mergeS b c).2 = 0
        · rw [if_pos h6]
          have k5 := mergeS_ok.1 h5
          have k6 := mergeS_ok.1 h6
          obtain ⟨k7, e7⟩ := unite_assoc h k5 k6
          have vs2 : ∀ x ∈ srt (b ++ c), fewV 200 x := srt_few k6.2.2.1 vbc
          have ls2 := srt_len k6.2.2.1
          rw [List.length_append] at ls2
          rw [mergeS_eq k6, mergeS_eq k5]
          rw [p_merge 200 a (srt (b ++ c)) (fun x hx => (List.mem_append.1 hx).elim (a2 x) (vs2 x)) (by omega) (by omega) (by omega) (by omega), bnd_some, mergeS_eq k7, e7]
          have vs3 : ∀ x ∈ srt (srt (a ++ b) ++ c), fewV 200 x := srt_few k5.2.2.1 (fun x hx => (List.mem_append.1 hx).elim (vs x) (c2 x))
          have ls3 := srt_len k5.2.2.1
          rw [List.length_append] at ls3
          rw [if_pos rfl, p_rSame 200 _ _ vs3 (by omega) (by omega), bnd_some]
          simp [cnd_t]
        · rw [if_neg h6]
      · rw [if_neg h5]
    · have h1 : (mergeS a b).2 ≠ 0 := fun e => h (mergeS_ok.1 e)
      have h2 : (mergeS b a).2 ≠ 0 := fun e => h (mergeS_ok.1 e).symm.1
      simp [h1, h2, cnd_t, cnd_f]

/-! ### Inversions -/
theorem p_pl52 (n : Nat) (e : Ev) : F_tidegatelaw05_StreamDisorders_1 n e = some (!placedB e) := by
  unfold F_tidegatelaw05_StreamDisorders_1; simp only [p_rplaced, bnd_some]
theorem p_idx52_l1 (n : Nat) (l : List Ev) : ∀ (m k : Nat), k ≤ l.length → l.length ≤ 1000000 → l.length < m + k → ∃ r : Int, F_slices_IndexFunc_s52_l1 n l (some (-1)) m (k : Int) = some r ∧ (0 ≤ r ↔ (l.drop k).all placedB = false)
  | 0, k, h1, h2, h3 => by omega
  | m + 1, k, h1, h2, h3 => by
    unfold F_slices_IndexFunc_s52_l1
    simp only [List.length_map, cnd_if]
    by_cases h : k < l.length
    · rw [if_pos (by omega), idx_nat h, wrapS k (by omega)]
      simp only [p_pl52, bnd_some, cnd_not]
      simp only [cnd_b]
      rw [drop_eq_cons l k h, List.all_cons]
      obtain ⟨r, hr, hiff⟩ := p_idx52_l1 n l m (k + 1) (by omega) h2 (by omega)
      by_cases hp : placedB l[k] = true
      · rw [if_pos hp]; exact ⟨r, hr, by rw [hiff, hp, Bool.true_and]⟩
      · rw [if_neg hp]
        have hp' : placedB l[k] = false := by simpa using hp
        exact ⟨_, rfl, by rw [hp']; simp⟩
    · rw [if_neg (by omega)]
      exact ⟨_, rfl, by rw [List.drop_eq_nil_of_le (by omega)]; simp⟩
theorem p_cont52 (n : Nat) (l : List Ev) (hn : l.length < n) (h2 : l.length ≤ 1000000) : F_slices_ContainsFunc_s52 n l = some (!l.all placedB) := by
  unfold F_slices_ContainsFunc_s52 F_slices_IndexFunc_s52
  obtain ⟨r, hr, hiff⟩ := p_idx52_l1 n l n 0 (by omega) h2 (by omega)
  simp only [Int.natCast_zero, List.drop_zero] at hr hiff
  rw [hr, bnd_some]
  cases hb : l.all placedB with
  | true =>
    have : ¬ (0 ≤ r) := by rw [hiff, hb]; simp
    simp [this]
  | false =>
    have : 0 ≤ r := by rw [hiff, hb]
    simp [this]
theorem evCmp_gt (a b : Ev) : 0 < evCmp a b ↔ evCmp b a < 0 := by
  rw [evCmp_lt]
  unfold evCmp or3 cmpI
  repeat' split
  all_goals omega
theorem p_cmp52 (n : Nat) (a b : Ev) : F_tidegatelaw05_StreamDisorders_2 n a b = some (evCmp a b) := by
  unfold F_tidegatelaw05_StreamDisorders_2
  simp only [p_ref, bnd_some, p_order]
  rfl
/-- No neighbours stand in the wrong order, up to a place. -/
def Asc (l : List Ev) (k : Nat) : Prop := ∀ j (h : j + 1 < l.length), j < k → ¬ evCmp l[j + 1] (l[j]'(by omega)) < 0
theorem p_sorted52_l1 (n : Nat) (l : List Ev) (h2 : l.length ≤ 1000000) : ∀ (m k : Nat), k < l.length → k < m → ∃ b, F_slices_IsSortedFunc_l1 n l (some true) m (k : Int) = some b ∧ (b = true ↔ Asc l k)
  | 0, k, h1, h3 => by omega
  | m + 1, k, h1, h3 => by
    unfold F_slices_IsSortedFunc_l1
    simp only [cnd_if]
    by_cases h : 0 < k
    · rw [if_pos (by omega), wrap_pred h (by omega), idx_nat h1, idx_nat (by omega : k - 1 < l.length), p_cmp52, bnd_some]
      obtain ⟨b, hb, ib⟩ := p_sorted52_l1 n l h2 m (k - 1) (by omega) (by omega)
      rw [hb]
      obtain ⟨j, rfl⟩ : ∃ j, k = j + 1 := ⟨k - 1, by omega⟩
      simp only [Nat.add_sub_cancel] at ib ⊢
      by_cases hc : evCmp l[j + 1] l[j] < 0
      · rw [if_pos hc]
        have : ¬ Asc l (j + 1) := fun hA => hA j h1 (by omega) hc
        exact ⟨_, rfl, by simp [this]⟩
      · rw [if_neg hc]
        have : Asc l j ↔ Asc l (j + 1) := by
          constructor
          · intro hA i hi hik
            by_cases e : i = j
            · subst e; exact hc
            · exact hA i hi (by omega)
          · intro hA i hi hik
            exact hA i hi (by omega)
        exact ⟨_, rfl, by rw [ib, this]⟩
    · have e : k = 0 := by omega
      subst e
      rw [if_neg (by omega)]
      have : Asc l 0 := fun j h hj => by omega
      exact ⟨_, rfl, by simp [this]⟩
theorem p_sorted52 (n : Nat) (l : List Ev) (hn : l.length < n) (h2 : l.length ≤ 1000000) : ∃ b, F_slices_IsSortedFunc n l = some b ∧ (b = true ↔ Asc l l.length) := by
  unfold F_slices_IsSortedFunc
  rw [List.length_map]
  by_cases h : l.length = 0
  · have e : IntKind.wrap .i64 ((l.length : Int) - 1) = -1 := by rw [h]; rfl
    rw [e]
    obtain ⟨m, rfl⟩ : ∃ m, n = m + 1 := ⟨n - 1, by omega⟩
    unfold F_slices_IsSortedFunc_l1
    simp only [cnd_if]
    rw [if_neg (by omega)]
    have : Asc l l.length := fun j h' hj => by omega
    exact ⟨_, rfl, by simp [this]⟩
  · obtain ⟨b, hb, ib⟩ := p_sorted52_l1 n l h2 n (l.length - 1) (by omega) (by omega)
    rw [wrap_pred (by omega) (by omega), hb]
    have : Asc l (l.length - 1) ↔ Asc l l.length := ⟨fun hA i hi _ => hA i hi (by omega), fun hA i hi _ => hA i hi (by omega)⟩
    exact ⟨_, rfl, by rw [ib, this]⟩
theorem le_trans_ev {a b c : Ev} (h1 : ¬ evCmp b a < 0) (h2 : ¬ evCmp c b < 0) : ¬ evCmp c a < 0 := by
  rw [evCmp_lt] at *
  omega
theorem asc_pair : ∀ l : List Ev, Asc l l.length → l.Pairwise (fun x y => ¬ evCmp y x < 0)
  | [], _ => .nil
  | [a], _ => by simp
  | a :: b :: r, h => by
    have h0 : ¬ evCmp b a < 0 := h 0 (by simp) (by simp)
    have ih := asc_pair (b :: r) (fun j hj _ => h (j + 1) (by simpa using hj) (by simp at hj ⊢; omega))
    refine List.pairwise_cons.2 ⟨fun x hx => ?_, ih⟩
    rcases List.mem_cons.1 hx with rfl | hx
    · exact h0
    · exact le_trans_ev h0 ((List.pairwise_cons.1 ih).1 x hx)
theorem inv_zero : ∀ l : List Ev, inv l = 0 ↔ l.Pairwise (fun x y => ¬ evCmp y x < 0)
  | [] => by simp [inv]
  | e :: r => by
    rw [inv, List.pairwise_cons, ← inv_zero r, Nat.add_eq_zero_iff, List.countP_eq_zero]
    unfold gtB
    simp only [decide_eq_true_eq, evCmp_gt]
theorem inv_asc (l : List Ev) : inv l = 0 ↔ Asc l l.length := by
  constructor
  · intro h j hj _
    exact List.pairwise_iff_getElem.1 ((inv_zero l).1 h) j (j + 1) (by omega) hj (by omega)
  · intro h
    exact (inv_zero l).2 (asc_pair l h)
theorem inv_swap (x y : Ev) (q : List Ev) : ∀ p : List Ev, inv (p ++ x :: y :: q) + (if gtB y x then 1 else 0) = inv (p ++ y :: x :: q) + (if gtB x y then 1 else 0)
  | [] => by
    simp only [List.nil_append, inv, List.countP_cons]
    omega
  | e :: p => by
    have ih := inv_swap x y q p
    simp only [List.cons_append, inv]
    have : (p ++ x :: y :: q).countP (gtB e) = (p ++ y :: x :: q).countP (gtB e) := by
      simp only [List.countP_append, List.countP_cons]; omega
    omega
theorem swap_split {l : List Ev} {k : Nat} (h : k + 1 < l.length) : l = l.take k ++ l[k] :: l[k + 1] :: l.drop (k + 2) ∧ (l.set k l[k + 1]).set (k + 1) l[k] = l.take k ++ l[k + 1] :: l[k] :: l.drop (k + 2) := by
  have e1 : l = l.take k ++ l[k] :: l[k + 1] :: l.drop (k + 2) := by
    conv => lhs; rw [← List.take_append_drop k l, drop_eq_cons l k (by omega), drop_eq_cons l (k + 1) h]
  refine ⟨e1, ?_⟩
  apply List.ext_getElem
  · have := congrArg List.length e1
    simp only [List.length_set, List.length_append, List.length_cons] at this ⊢
    exact this
  · intro i h1 h2
    have hi : i < l.length := by simpa using h1
    have tk : (l.take k).length = k := by rw [List.length_take]; omega
    rw [List.getElem_set, List.getElem_set, List.getElem_append]
    by_cases a1 : i < k
    · have a2 : ¬ k + 1 = i := by omega
      have a3 : ¬ k = i := by omega
      simp [a2, a3, tk, a1]
    · by_cases a4 : i = k
      · subst a4; simp [tk]
      · by_cases a5 : i = k + 1
        · subst a5; simp [tk]; intro h; omega
        · obtain ⟨j, rfl⟩ : ∃ j, i = k + 2 + j := ⟨i - (k + 2), by omega⟩
          have a2 : ¬ k + 1 = k + 2 + j := by omega
          have a3 : ¬ k = k + 2 + j := by omega
          have a6 : k + 2 + j - k = j + 2 := by omega
          simp [a2, a3, tk, a1, a6]
theorem evCmp_val (a b : Ev) : evCmp a b = (if gtB a b then 1 else 0) - (if gtB b a then 1 else 0) := by
  have e : gtB b a = decide (evCmp a b < 0) := by unfold gtB; simp only [evCmp_gt]
  rw [e]
  unfold gtB evCmp or3 cmpI
  repeat' split
  all_goals simp_all
theorem swap_key (p q : Nat) (b c : Bool) (h : p + (if b = true then 1 else 0) = q + (if c = true then 1 else 0)) : (q : Int) = (p : Int) - ((if c = true then 1 else 0) - (if b = true then 1 else 0)) := by
  cases b <;> cases c <;> simp at h ⊢ <;> omega
theorem law_disorders05 (l : List Ev) (a : Nat) (ha : a ≤ 255) : F_tidegatelaw05_StreamDisorders 200 l a = some true := by
  unfold F_tidegatelaw05_StreamDisorders
  rw [p_few 200 l (by omega), bnd_some, awake05 200 (by omega), bnd_some]
  cases hf : fewE l with
  | false => simp only [Bool.not_false, Bool.not_true, cnd_t, cnd_f]
  | true =>
    obtain ⟨h1, h2⟩ := few_v (n := 200) (by omega) hf
    simp only [Bool.not_true, cnd_f]
    rw [p_cont52 200 l (by omega) (by omega), bnd_some]
    cases hp : l.all placedB with
    | false => simp only [Bool.not_false, cnd_t]
    | true =>
      have hp' := List.all_eq_true.1 hp
      have eA := allE_ok (by omega) hp'
      have eI : ∀ l' : List Ev, l'.length ≤ 4096 → (∀ x ∈ l', placedB x = true) → invS l' = ((inv l' : Int), 0) := fun l' q1 q2 => by
        unfold invS; rw [allE_ok q1 q2, if_neg (by simp)]
      simp only [Bool.not_true, cnd_f]
      rw [p_inv 200 l (by omega) (by omega), bnd_some, eI l (by omega) hp']
      obtain ⟨bs, hbs, ibs⟩ := p_sorted52 200 l (by omega) (by omega)
      rw [hbs, bnd_some]
      have e1 : decide ((inv l : Int) = 0) = bs := Bool.eq_iff_iff.2 (by rw [ibs, ← inv_asc, decide_eq_true_eq]; omega)
      simp only [decide_true, Bool.not_true, cnd_f]
      rw [e1]
      simp only [beq_self_eq_true, Bool.not_true, cnd_f, List.length_map, cnd_if]
      by_cases h3 : l.length < 2
      · rw [if_pos (by omega)]
      · rw [if_neg (by omega)]
        obtain ⟨len, hlen⟩ : ∃ len, l.length = len + 2 := ⟨l.length - 2, by omega⟩
        have w1 : IntKind.wrap .i64 ((l.length : Int) - 1) = ((len + 1 : Nat) : Int) := by rw [wrap_in _ (by omega)]; omega
        have w2 : IntKind.wrap .i64 (a : Int) = (a : Int) := wrap_in _ (by omega)
        have w3 : (a : Int).tmod ((len + 1 : Nat) : Int) = ((a % (len + 1) : Nat) : Int) := by exact (Int.ofNat_tmod a (len + 1)).symm
        rw [w1, w2, w3]
        have hk : a % (len + 1) < len + 1 := Nat.mod_lt _ (by omega)
        generalize hkk : a % (len + 1) = k at hk ⊢
        rw [wrapS k (by omega), nzx_ok (by omega), clone_some 200 (by omega), bndR_some]
        try simp only [List.length_map]
        rw [nat_nat (by omega : k + 1 < l.length), elt_ok (by omega : k + 1 < l.length)]
        try simp only [List.length_map]
        rw [nat_nat (by omega : k < l.length), elt_ok (by omega : k < l.length), nat_nat (by omega : k < l.length), stx_ok (by omega : k < l.length)]
        try simp only [List.length_map, List.length_set]
        rw [nat_nat (by omega : k + 1 < l.length), stx_ok (by rw [List.length_set]; omega)]
        obtain ⟨s1, s2⟩ := swap_split (show k + 1 < l.length by omega)
        rw [s2]
        have hsw := inv_swap l[k] l[k + 1] (l.drop (k + 2)) (l.take k)
        rw [← s1] at hsw
        have hl2 : (l.take k ++ l[k + 1] :: l[k] :: l.drop (k + 2)).length = l.length := by rw [← s2]; simp
        have hm : ∀ x ∈ l.take k ++ l[k + 1] :: l[k] :: l.drop (k + 2), x ∈ l := fun x hx => by
          rw [s1]
          simp only [List.mem_append, List.mem_cons] at hx ⊢
          rcases hx with h | h | h | h
          · exact Or.inl h
          · exact Or.inr (Or.inr (Or.inl h))
          · exact Or.inr (Or.inl h)
          · exact Or.inr (Or.inr (Or.inr h))
        rw [p_inv 200 _ (by omega) (by omega), bnd_some, eI _ (by omega) (fun x hx => hp' x (hm x hx))]
        rw [if_pos rfl, idx_nat (by omega : k < l.length), p_ref, bnd_some, idx_nat (by omega : k + 1 < l.length), p_ref, bnd_some, p_order, bnd_some]
        have e2 : rCmp ⟨l[k].fTime, l[k].fSource, l[k].fSeq⟩ ⟨l[k + 1].fTime, l[k + 1].fSource, l[k + 1].fSeq⟩ = evCmp l[k] l[k + 1] := rfl
        rw [e2, evCmp_val]
        have hb := inv_le l
        have hb2 : l.length * l.length ≤ 12 * 12 := Nat.mul_le_mul h1 h1
        rw [wrap_in _ (by split <;> split <;> omega), if_pos (swap_key _ _ _ _ hsw)]
end Go.Proofs.Ytdbapaofibgfcaa
