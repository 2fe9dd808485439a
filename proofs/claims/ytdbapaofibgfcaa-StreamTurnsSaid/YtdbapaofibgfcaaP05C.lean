/- Layer 5, plain: Find, Slice, Inversions. -/
import Derived.Test.YtdbapaofibgfcaaP05B
set_option linter.unusedVariables false
set_option linter.unusedSimpArgs false
namespace Go.Proofs.Ytdbapaofibgfcaa
open Go.RowKit

/-! ### Streams -/
theorem chk_zero : ∀ (l p : List Ev), chk p l = 0 → (∀ x ∈ l, placedB x = true) ∧ (∀ x ∈ l, ∀ y ∈ p, idt y ≠ idt x) ∧ l.Pairwise (fun x y => idt x ≠ idt y) ∧ (match p, l with | x :: _, y :: _ => evCmp x y < 0 | _, _ => True) ∧ l.Pairwise (fun x y => evCmp x y < 0)
  | [], p, _ => ⟨by simp, by simp, .nil, by cases p <;> trivial, .nil⟩
  | e :: l, p, h => by
    unfold chk at h
    by_cases hp : placedB e = false
    · rw [if_pos hp] at h; exact absurd h (by decide)
    rw [if_neg hp] at h
    generalize ho : headGe p e = b at h
    cases b with
    | true => rw [if_pos rfl] at h; exact absurd h (by decide)
    | false =>
      rw [if_neg (by decide)] at h
      by_cases hi : p.any (fun x => decide (idt x = idt e)) = true
      · rw [if_pos hi] at h; exact absurd h (by decide)
      rw [if_neg hi] at h
      obtain ⟨i1, i2, i3, i4, i5⟩ := chk_zero l (e :: p) h
      have hp' : placedB e = true := by simpa using hp
      have hi' : ∀ y ∈ p, idt y ≠ idt e := fun y hy => by
        simp only [Bool.not_eq_true, List.any_eq_false, decide_eq_true_eq] at hi
        exact hi y hy
      refine ⟨fun x hx => ?_, fun x hx y hy => ?_, List.pairwise_cons.2 ⟨fun y hy => i2 y hy e (by simp), i3⟩, ?_, List.pairwise_cons.2 ⟨fun y hy => ?_, i5⟩⟩
      · rcases List.mem_cons.1 hx with rfl | hx
        · exact hp'
        · exact i1 x hx
      · rcases List.mem_cons.1 hx with rfl | hx
        · exact hi' y hy
        · exact i2 x hx y (by simp [hy])
      · cases p with
        | nil => trivial
        | cons x p => simp only [headGe, decide_eq_false_iff_not] at ho; show evCmp x e < 0; omega
      · cases l with
        | nil => simp at hy
        | cons z l =>
          have hz : evCmp e z < 0 := i4
          rcases List.mem_cons.1 hy with rfl | hy
          · exact hz
          · have h2 := (List.pairwise_cons.1 i5).1 y hy
            have := evCmp_swo.trans e z y (by simpa [ltOf] using hz) (by simpa [ltOf] using h2)
            simpa [ltOf] using this
theorem chk_mk : ∀ (l p : List Ev), (∀ x ∈ l, placedB x = true) → (∀ x ∈ l, ∀ y ∈ p, idt y ≠ idt x) → l.Pairwise (fun x y => idt x ≠ idt y) → (match p, l with | x :: _, y :: _ => evCmp x y < 0 | _, _ => True) → l.Pairwise (fun x y => evCmp x y < 0) → chk p l = 0
  | [], p, _, _, _, _, _ => rfl
  | e :: l, p, h1, h2, h3, h4, h5 => by
    unfold chk
    rw [if_neg (by rw [h1 e (by simp)]; simp)]
    have h3' := List.pairwise_cons.1 h3
    have h5' := List.pairwise_cons.1 h5
    rw [if_neg (by
      cases p with
      | nil => simp [headGe]
      | cons x p => simp only [headGe, decide_eq_true_eq]; have h4 : evCmp x e < 0 := h4; omega)]
    rw [if_neg (by
      simp only [Bool.not_eq_true, List.any_eq_false, decide_eq_true_eq]
      exact fun y hy => h2 e (by simp) y hy)]
    refine chk_mk l (e :: p) (fun x hx => h1 x (by simp [hx])) (fun x hx y hy => ?_) h3'.2 ?_ h5'.2
    · rcases List.mem_cons.1 hy with rfl | hy
      · exact h3'.1 x hx
      · exact h2 x (by simp [hx]) y hy
    · cases l with
      | nil => trivial
      | cons z l => exact h5'.1 z (by simp)
theorem strChk_zero {l : List Ev} (h : strChk l = 0) : l.length ≤ 4096 ∧ (∀ x ∈ l, placedB x = true) ∧ l.Pairwise (fun x y => idt x ≠ idt y) ∧ l.Pairwise (fun x y => evCmp x y < 0) := by
  unfold strChk at h
  split at h
  · cases h
  · obtain ⟨h1, _, h3, _, h5⟩ := chk_zero l [] h
    exact ⟨by omega, h1, h3, h5⟩
theorem strChk_mk {l : List Ev} (h0 : l.length ≤ 4096) (h1 : ∀ x ∈ l, placedB x = true) (h3 : l.Pairwise (fun x y => idt x ≠ idt y)) (h5 : l.Pairwise (fun x y => evCmp x y < 0)) : strChk l = 0 := by
  unfold strChk
  rw [if_neg (by omega)]
  exact chk_mk l [] h1 (by simp) h3 (by trivial) h5
theorem stream_distI {l : List Ev} (h : l.Pairwise (fun x y => idt x ≠ idt y)) : DistI l ∧ l.Nodup := by
  refine ⟨fun x hx y hy hi => ?_, h.imp (fun h e => h (by rw [e]))⟩
  induction l with
  | nil => simp at hx
  | cons a l ih =>
    have h' := List.pairwise_cons.1 h
    rcases List.mem_cons.1 hx with hx | hx <;> rcases List.mem_cons.1 hy with hy | hy
    · rw [hx, hy]
    · exact absurd (hx ▸ hi) (h'.1 y hy)
    · exact absurd (hy ▸ hi.symm) (h'.1 x hx)
    · exact ih h'.2 hx hy
theorem stream_srt {l : List Ev} (h : strChk l = 0) : srt l = l := by
  obtain ⟨_, _, h3, h5⟩ := strChk_zero h
  obtain ⟨h1, h2⟩ := stream_distI h3
  refine (srt_uniq h1 (fun _ => Iff.rfl) h2 (h5.imp fun {x y} hxy => ?_)).symm
  have : ltOf evCmp x y = true := by simpa [ltOf] using hxy
  cases h3 : ltOf evCmp y x with
  | false => rfl
  | true => have := evCmp_swo.trans _ _ _ h3 this; rw [evCmp_swo.irrefl] at this; cases this
theorem srt_stream {l : List Ev} (h : DistI l) (hp : ∀ x ∈ l, placedB x = true) (hl : (srt l).length ≤ 4096) : strChk (srt l) = 0 := by
  have hn := srt_nodup h
  have hs := srt_sorted l
  have hd := h.srt
  have key : (srt l).Pairwise (fun x y => idt x ≠ idt y ∧ evCmp x y < 0) := by
    generalize srt l = r at *
    clear hl
    induction r with
    | nil => exact .nil
    | cons a r ih =>
      have hn' := List.nodup_cons.1 hn
      have hs' := List.pairwise_cons.1 hs
      refine List.pairwise_cons.2 ⟨fun y hy => ?_, ih hn'.2 hs'.2 (fun x hx y hy => hd x (by simp [hx]) y (by simp [hy]))⟩
      have hne : idt a ≠ idt y := fun e => by
        have := hd a (by simp) y (by simp [hy]) e
        exact hn'.1 (this ▸ hy)
      refine ⟨hne, ?_⟩
      have h1 := hs'.1 y hy
      cases h2 : ltOf evCmp a y with
      | true => simpa [ltOf] using h2
      | false => exact absurd (evCmp_tie h2 h1).1 hne
  exact strChk_mk hl (fun x hx => hp x ((srt_mem h x).1 hx)) (key.imp And.left) (key.imp And.right)

/-! ### Find -/
def findI (l : List Ev) (r : T_api_Ref) : Nat := (l.takeWhile (fun x => decide (rCmp (refOf x) r < 0))).length
def findS (l : List Ev) (r : T_api_Ref) : Int × Bool × Int := if strChk l ≠ 0 then (0, false, strChk l) else ((findI l r : Int), (match l[findI l r]? with | some x => decide (refOf x = r) | none => false), 0)
theorem findI_le (l : List Ev) (r : T_api_Ref) : findI l r ≤ l.length := (List.takeWhile_sublist _).length_le
theorem takeWhile_len {α : Type} (p : α → Bool) : ∀ (l : List α) (k : Nat), k ≤ l.length → (∀ j (h : j < l.length), j < k → p l[j] = true) → (∀ h : k < l.length, p l[k] = false) → (l.takeWhile p).length = k
  | [], k, h, _, _ => by simp at h; simp [h]
  | x :: l, 0, h, _, h3 => by
    have := h3 (by simp)
    simp at this
    simp [this]
  | x :: l, k + 1, h, h2, h3 => by
    have hx := h2 0 (by simp) (by omega)
    simp at hx
    rw [List.takeWhile_cons, if_pos hx, List.length_cons, takeWhile_len p l k (by simpa using h) (fun j hj hjk => by have := h2 (j + 1) (by simpa using hj) (by omega); rwa [List.getElem_cons_succ] at this) (fun hk => by have := h3 (by simpa using hk); rwa [List.getElem_cons_succ] at this)]
theorem p_rfind_l1 (n : Nat) (l : List Ev) (r : T_api_Ref) (K : Int → Option (Int × Bool × Int)) : ∀ (m k : Nat), k ≤ l.length → l.length ≤ 1000000 → l.length < m + k → (∀ j (h : j < l.length), j < k → rCmp (refOf l[j]) r < 0) → F_tidegateref05_Find_l1 n r l K m (k : Int) = K (findI l r : Int)
  | 0, k, h1, h2, h3, _ => by omega
  | m + 1, k, h1, h2, h3, h4 => by
    unfold F_tidegateref05_Find_l1
    simp only [List.length_map, cnd_if]
    by_cases h : k < l.length
    · rw [if_pos (by omega), idx_nat h, wrapS k (by omega)]
      simp only [p_ref, bnd_some, p_order, cnd_if]
      have ec : rCmp ⟨l[k].fTime, l[k].fSource, l[k].fSeq⟩ ⟨r.fTime, r.fSource, r.fSeq⟩ = rCmp (refOf l[k]) r := rfl
      rw [ec]
      by_cases hc : rCmp (refOf l[k]) r < 0
      · rw [if_pos hc]
        refine p_rfind_l1 n l r K m (k + 1) (by omega) h2 (by omega) (fun j hj hjk => ?_)
        by_cases hjk' : j = k
        · subst hjk'; exact hc
        · exact h4 j hj (by omega)
      · rw [if_neg hc]
        have : findI l r = k := takeWhile_len _ l k h1 (fun j hj hjk => by simpa using h4 j hj hjk) (fun _ => by simpa using hc)
        rw [this]
    · rw [if_neg (by omega)]
      have : findI l r = k := takeWhile_len _ l k h1 (fun j hj hjk => by simpa using h4 j hj hjk) (fun h' => absurd h' h)
      rw [this]
theorem ref_eq (a b : T_api_Ref) : (decide (a.fTime = b.fTime) && (decide (a.fSource = b.fSource) && (decide (a.fSeq = b.fSeq) && true))) = decide (a = b) := by
  cases a; cases b; simp
theorem p_rfind (n : Nat) (l : List Ev) (r : T_api_Ref) (hn : l.length < n) (h2 : l.length ≤ 1000000) : F_tidegateref05_Find n l r = some (findS l r) := by
  unfold F_tidegateref05_Find findS
  simp only [p_rchk n l hn h2, bnd_some, cnd_not, cnd_if]
  by_cases h : strChk l = 0
  · rw [if_pos h, if_neg (by simp [h])]
    have := p_rfind_l1 n l r (fun k1_0_0y => cnd (decide (k1_0_0y < (((List.map e_api_Event (l)).length : Nat) : Int))) (idx l k1_0_0y fun x43 => bnd (F_tidegateref05_Ref n x43) fun x44 => some (k1_0_0y, (decide (x44.fTime = r.fTime) && (decide (x44.fSource = r.fSource) && (decide (x44.fSeq = r.fSeq) && true))), 0)) <| some (k1_0_0y, false, 0)) n 0 (by omega) h2 (by omega) (fun j hj h => by omega)
    simp only [Int.natCast_zero, cnd_if] at this
    rw [this]
    simp only [List.length_map]
    have hle := findI_le l r
    by_cases hl : findI l r < l.length
    · rw [if_pos (by omega), idx_nat hl, p_ref, bnd_some, ref_eq ⟨l[findI l r].fTime, l[findI l r].fSource, l[findI l r].fSeq⟩ r, List.getElem?_eq_getElem hl]
      rfl
    · rw [if_neg (by omega), List.getElem?_eq_none (by omega)]
  · rw [if_neg h, if_pos h]
theorem f_or3' (n : Nat) (hn : 4 ≤ n) (a b c : Int) : F_cmp_Or_d n [a, b, c] = some (or3 a b c) := by
  obtain ⟨m, rfl⟩ : ∃ m, n = m + 4 := ⟨n - 4, by omega⟩
  exact f_or3 m a b c
theorem p_compare (n : Nat) (hn : 4 ≤ n) (e : Ev) (r : T_api_Ref) : F_stream_compare n e r = some (rCmp (refOf e) r) := by
  unfold F_stream_compare F_cmpI
  simp only [bnd_some, f_or3' n hn]
  rfl
theorem wrapU (x : Int) (h0 : 0 ≤ x) (h1 : x ≤ 18446744073709551615) : IntKind.wrap .u64 x = x := IntWalk.u64_in _ ⟨h0, h1⟩
theorem half_eq (i j : Nat) (h : i + j ≤ 2000000) : IntKind.wrap .i64 (Int.fdiv (IntKind.wrap .u64 (IntKind.wrap .i64 ((i : Int) + (j : Int)))) (2 ^ min (Int.toNat (1 : Int)) (IntKind.bits .u64))) = (((i + j) / 2 : Nat) : Int) := by
  have e1 : IntKind.wrap .i64 ((i : Int) + (j : Int)) = ((i + j : Nat) : Int) := by rw [wrap_in _ (by omega)]; omega
  rw [e1, wrapU _ (by omega) (by omega)]
  have e2 : (2 : Int) ^ min (Int.toNat (1 : Int)) (IntKind.bits .u64) = 2 := by decide
  rw [e2]
  have e3 : Int.fdiv ((i + j : Nat) : Int) 2 = (((i + j) / 2 : Nat) : Int) := by
    rw [Int.fdiv_eq_ediv_of_nonneg _ (by omega)]; omega
  rw [e3, wrap_in _ (by omega)]
theorem p_bs_l1 (n : Nat) (hn4 : 4 ≤ n) (l : List Ev) (r : T_api_Ref) (hmono : ∀ a b (ha : a < l.length) (hb : b < l.length), a ≤ b → rCmp (refOf l[b]) r < 0 → rCmp (refOf l[a]) r < 0) (K : Int → Option (Int × Bool)) :
    ∀ (m i j : Nat), i ≤ j → j ≤ l.length → l.length ≤ 1000000 → j - i < m → (∀ k (h : k < l.length), k < i → rCmp (refOf l[k]) r < 0) → (∀ k (h : k < l.length), j ≤ k → ¬ rCmp (refOf l[k]) r < 0) → F_slices_BinarySearchFunc_l1 n r l K m ((i : Int), (j : Int)) = K (findI l r : Int)
  | 0, i, j, h1, h2, h3, h4, _, _ => by omega
  | m + 1, i, j, h1, h2, h3, h4, hlo, hhi => by
    unfold F_slices_BinarySearchFunc_l1
    simp only [cnd_if]
    by_cases h : i < j
    · rw [if_pos (by omega), shx_ok (by omega), half_eq i j (by omega)]
      have hh : (i + j) / 2 < l.length := by omega
      rw [idx_nat hh, p_compare n hn4, bnd_some, wrapS _ (by omega)]
      by_cases hc : rCmp (refOf l[(i + j) / 2]) ⟨r.fTime, r.fSource, r.fSeq⟩ < 0
      · rw [if_pos hc]
        have hc' : rCmp (refOf l[(i + j) / 2]) r < 0 := hc
        exact p_bs_l1 n hn4 l r hmono K m ((i + j) / 2 + 1) j (by omega) h2 h3 (by omega) (fun k hk hki => hmono k ((i + j) / 2) hk hh (by omega) hc') hhi
      · rw [if_neg hc]
        have hc' : ¬ rCmp (refOf l[(i + j) / 2]) r < 0 := hc
        exact p_bs_l1 n hn4 l r hmono K m i ((i + j) / 2) (by omega) (by omega) h3 (by omega) hlo (fun k hk hjk hlt => hc' (hmono ((i + j) / 2) k hh hk hjk hlt))
    · have hij : i = j := by omega
      subst hij
      rw [if_neg (by omega)]
      have : findI l r = i := takeWhile_len _ l i h2 (fun k hk hki => by simpa using hlo k hk hki) (fun h' => by simpa using hhi i h' (Nat.le_refl _))
      rw [this]
theorem rCmp_lt (a b : T_api_Ref) : rCmp a b < 0 ↔ a.fTime < b.fTime ∨ (a.fTime = b.fTime ∧ (a.fSource < b.fSource ∨ (a.fSource = b.fSource ∧ a.fSeq < b.fSeq))) := by
  unfold rCmp or3 cmpI
  split <;> split <;> (try split) <;> (try split) <;> (try split) <;> (try split) <;> omega
theorem rCmp_zero (a b : T_api_Ref) : rCmp a b = 0 ↔ a = b := by
  obtain ⟨a1, a2, a3⟩ := a
  obtain ⟨b1, b2, b3⟩ := b
  unfold rCmp or3 cmpI
  simp only [T_api_Ref.mk.injEq]
  split <;> split <;> (try split) <;> (try split) <;> (try split) <;> (try split) <;> omega
theorem p_find (n : Nat) (l : List Ev) (r : T_api_Ref) (hn4 : 4 ≤ n) (hn : l.length < n) (h2 : l.length ≤ 1000000) : F_stream_Find n l r = some (findS l r) := by
  unfold F_stream_Find findS
  simp only [p_chk n l hn h2, bnd_some, cnd_not, cnd_if]
  by_cases h : strChk l = 0
  · rw [if_pos h, if_neg (by simp [h])]
    obtain ⟨_, _, _, h5⟩ := strChk_zero h
    have hmono : ∀ a b (ha : a < l.length) (hb : b < l.length), a ≤ b → rCmp (refOf l[b]) r < 0 → rCmp (refOf l[a]) r < 0 := fun a b ha hb hab hlt => by
      rcases Nat.eq_or_lt_of_le hab with rfl | hab
      · exact hlt
      · have h1 := List.pairwise_iff_getElem.1 h5 a b ha hb hab
        rw [evCmp_lt] at h1
        rw [rCmp_lt] at hlt ⊢
        simp only [refOf] at hlt ⊢
        omega
    unfold F_slices_BinarySearchFunc
    simp only [List.length_map, cnd_if]
    have e1 : (⟨r.fTime, r.fSource, r.fSeq⟩ : T_api_Ref) = r := rfl
    have := p_bs_l1 n hn4 l r hmono (fun k1_0_0y => if k1_0_0y < ((l.length : Nat) : Int) then (idx l k1_0_0y fun x42 => bnd (F_stream_compare n x42 r) fun x43 => some (k1_0_0y, decide (x43 = 0))) else some (k1_0_0y, false)) n 0 l.length (Nat.zero_le _) (Nat.le_refl _) h2 (by omega) (fun k _ h => by omega) (fun k hk h => by omega)
    simp only [Int.natCast_zero] at this
    simp only [e1]
    rw [this]
    have hle := findI_le l r
    by_cases hl : findI l r < l.length
    · rw [if_pos (by omega), idx_nat hl, p_compare n hn4, bnd_some, bnd_some, List.getElem?_eq_getElem hl]
      simp only
      congr 3
      exact decide_eq_decide.2 (rCmp_zero _ _)
    · rw [if_neg (by omega), List.getElem?_eq_none (by omega), bnd_some]
  · rw [if_neg h, if_pos h]

/-! ### Slice -/
def sliceB (a b : Int) (x : Ev) : Bool := decide (a ≤ x.fTime) && decide (x.fTime ≤ b)
def sliceS (l : List Ev) (a b : Int) : List Ev × Int := if strChk l ≠ 0 then ([], strChk l) else (l.filter (sliceB a b), 0)
theorem p_slice_l1 (n : Nat) (l : List Ev) (a b : Int) (hv : ∀ x ∈ l, fewV n x) : ∀ (m k : Nat) (out : List Ev), k ≤ l.length → l.length ≤ 1000000 → l.length < m + k → out.length ≤ k → F_stream_Slice_l1 n b a l (fun k1_0_0y => some (k1_0_0y, 0)) m ((k : Int), out) = some (out ++ (l.drop k).filter (sliceB a b), 0)
  | 0, k, _, h1, h2, h3, _ => by omega
  | m + 1, k, out, h1, h2, h3, h4 => by
    unfold F_stream_Slice_l1
    simp only [List.length_map, cnd_if]
    by_cases h : k < l.length
    · rw [if_pos (by omega), idx_nat h, wrapS k (by omega)]
      rw [p_copied n l[k] (hv _ (List.getElem_mem h)).2, bnd_some, app_ok (by simp; omega) (by omega)]
      rw [drop_eq_cons l k h, List.filter_cons]
      have ih1 := p_slice_l1 n l a b hv m (k + 1) (out ++ [l[k]]) (by omega) h2 (by omega) (by simp; omega)
      have ih2 := p_slice_l1 n l a b hv m (k + 1) out (by omega) h2 (by omega) (by omega)
      unfold sliceB at *
      by_cases h5 : a ≤ l[k].fTime
      · rw [if_pos h5]
        by_cases h6 : l[k].fTime ≤ b
        · rw [if_pos h6, ih1, if_pos (by simp [h5, h6]), List.append_assoc]; rfl
        · rw [if_neg h6, ih2, if_neg (by simp [h6])]
      · rw [if_neg h5, ih2, if_neg (by simp [h5])]
    · rw [if_neg (by omega), List.drop_eq_nil_of_le (by omega)]; simp
theorem p_slice (n : Nat) (l : List Ev) (a b : Int) (hv : ∀ x ∈ l, fewV n x) (hn : l.length < n) (h2 : l.length ≤ 1000000) : F_stream_Slice n l a b = some (sliceS l a b) := by
  unfold F_stream_Slice sliceS
  simp only [p_chk n l hn h2, bnd_some, cnd_not, cnd_if]
  by_cases h : strChk l = 0
  · rw [if_pos h, if_neg (by simp [h])]
    have := p_slice_l1 n l a b hv n 0 [] (by omega) h2 (by omega) (by simp)
    simpa using this
  · rw [if_neg h, if_pos h]
theorem p_rslice_l1 (n : Nat) (l : List Ev) (a b : Int) : ∀ (m k : Nat) (out : List Ev), k ≤ l.length → l.length ≤ 1000000 → l.length < m + k → out.length ≤ k → F_tidegateref05_Slice_l1 n b a l (fun k1_0_0y => some (k1_0_0y, 0)) m ((k : Int), out) = some (out ++ (l.drop k).filter (sliceB a b), 0)
  | 0, k, _, h1, h2, h3, _ => by omega
  | m + 1, k, out, h1, h2, h3, h4 => by
    unfold F_tidegateref05_Slice_l1
    simp only [List.length_map, cnd_if]
    by_cases h : k < l.length
    · rw [if_pos (by omega), idx_nat h, wrapS k (by omega), idx_nat h, idx_nat h]
      rw [app_ok (by simp; omega) (by omega)]
      rw [drop_eq_cons l k h, List.filter_cons]
      have ih1 := p_rslice_l1 n l a b m (k + 1) (out ++ [l[k]]) (by omega) h2 (by omega) (by simp; omega)
      have ih2 := p_rslice_l1 n l a b m (k + 1) out (by omega) h2 (by omega) (by omega)
      unfold sliceB at *
      by_cases h5 : a ≤ l[k].fTime
      · rw [if_pos h5]
        by_cases h6 : l[k].fTime ≤ b
        · rw [if_pos h6, ih1, if_pos (by simp [h5, h6]), List.append_assoc]; rfl
        · rw [if_neg h6, ih2, if_neg (by simp [h6])]
      · rw [if_neg h5, ih2, if_neg (by simp [h5])]
    · rw [if_neg (by omega), List.drop_eq_nil_of_le (by omega)]; simp
theorem p_rslice (n : Nat) (l : List Ev) (a b : Int) (hn : l.length < n) (h2 : l.length ≤ 1000000) : F_tidegateref05_Slice n l a b = some (sliceS l a b) := by
  unfold F_tidegateref05_Slice sliceS
  simp only [p_rchk n l hn h2, bnd_some, cnd_not, cnd_if]
  by_cases h : strChk l = 0
  · rw [if_pos h, if_neg (by simp [h])]
    have := p_rslice_l1 n l a b n 0 [] (by omega) h2 (by omega) (by simp)
    simpa using this
  · rw [if_neg h, if_pos h]

/-! ### Inversions -/
def gtB (a b : Ev) : Bool := decide (0 < evCmp a b)
def inv : List Ev → Nat
  | [] => 0
  | e :: r => r.countP (gtB e) + inv r
theorem inv_snoc (e : Ev) : ∀ p : List Ev, inv (p ++ [e]) = inv p + p.countP (fun x => gtB x e)
  | [] => rfl
  | a :: p => by
    rw [List.cons_append, inv, inv, inv_snoc e p, List.countP_append, List.countP_cons (l := p)]
    simp only [List.countP_cons, List.countP_nil]
    omega
theorem inv_le : ∀ l : List Ev, inv l ≤ l.length * l.length
  | [] => Nat.le_refl _
  | e :: r => by
    rw [inv, List.length_cons]
    have h1 := inv_le r
    have h2 := List.countP_le_length (p := gtB e) (l := r)
    rw [Nat.succ_mul, Nat.mul_succ]
    omega
def invS (l : List Ev) : Int × Int := if allE l ≠ 0 then (0, allE l) else ((inv l : Int), 0)
theorem p_inv_l2 (n : Nat) (l : List Ev) (v : Int × Int) (e : Ev) (q : List Ev) (K : Int → Option (Int × Int)) : ∀ (m k c : Nat), k ≤ q.length → q.length ≤ 1000000 → q.length < m + k → c + (q.length - k) ≤ 100000000000000 → F_stream_Inversions_l2 n l v e q K m ((c : Int), (k : Int)) = K (((c + (q.drop k).countP (fun x => gtB x e) : Nat)) : Int)
  | 0, k, c, h1, h2, h3, _ => by omega
  | m + 1, k, c, h1, h2, h3, h4 => by
    unfold F_stream_Inversions_l2
    simp only [List.length_map, cnd_if]
    by_cases h : k < q.length
    · have hw : IntKind.wrap .i64 ((c : Int) + 1) = ((c + 1 : Nat) : Int) := by rw [wrap_in _ (by omega)]; omega
      rw [if_pos (by omega), idx_nat h, wrapS k (by omega), hw]
      simp only [F_evCmp, bnd_some]
      rw [drop_eq_cons q k h, List.countP_cons]
      by_cases hc : 0 < evCmp q[k] e
      · rw [if_pos hc, p_inv_l2 n l v e q K m (k + 1) (c + 1) (by omega) h2 (by omega) (by omega), if_pos (by simpa [gtB] using hc)]
        congr 2; omega
      · rw [if_neg hc, p_inv_l2 n l v e q K m (k + 1) c (by omega) h2 (by omega) (by omega), if_neg (by simpa [gtB] using hc)]
        rfl
    · rw [if_neg (by omega), List.drop_eq_nil_of_le (by omega)]; simp
theorem inv_bound {l : List Ev} {k : Nat} (h2 : l.length ≤ 1000000) : inv (l.take k) ≤ 1000000000000 := by
  have h := inv_le (l.take k)
  have h3 : (l.take k).length ≤ 1000000 := by rw [List.length_take]; omega
  have := Nat.mul_le_mul h3 h3
  omega
theorem p_inv_l1 (n : Nat) (l : List Ev) (hn : l.length < n) (K : Int → Option (Int × Int)) : ∀ (m k : Nat), k ≤ l.length → l.length ≤ 1000000 → l.length < m + k → F_stream_Inversions_l1 n l K m ((inv (l.take k) : Int), (k : Int)) = K (inv l : Int)
  | 0, k, h1, h2, h3 => by omega
  | m + 1, k, h1, h2, h3 => by
    unfold F_stream_Inversions_l1
    simp only [List.length_map, cnd_if]
    by_cases h : k < l.length
    · rw [if_pos (by omega), idx_nat h, wrapS k (by omega)]
      have hs := sls_ok (a := 0) (b := k) (Nat.zero_le _) h1 (fun x44 => F_stream_Inversions_l2 n l ((inv (l.take k) : Int), (k : Int)) l[k] x44 (fun k2_1_0y => F_stream_Inversions_l1 n l K m (k2_1_0y, ((k + 1 : Nat) : Int))) n ((inv (l.take k) : Int), 0))
      simp only [Int.natCast_zero] at hs
      rw [hs, List.drop_zero]
      have hb := inv_bound (l := l) (k := k) h2
      have hl2 := p_inv_l2 n l ((inv (l.take k) : Int), (k : Int)) l[k] (l.take k) (fun k2_1_0y => F_stream_Inversions_l1 n l K m (k2_1_0y, ((k + 1 : Nat) : Int))) n 0 (inv (l.take k)) (by omega) (by rw [List.length_take]; omega) (by rw [List.length_take]; omega) (by rw [List.length_take]; omega)
      simp only [Int.natCast_zero, List.drop_zero] at hl2
      rw [hl2, ← inv_snoc, ← List.take_succ_eq_append_getElem h]
      exact p_inv_l1 n l hn K m (k + 1) (by omega) h2 (by omega)
    · rw [if_neg (by omega), List.take_of_length_le (by omega)]
theorem p_inv (n : Nat) (l : List Ev) (hn : l.length < n) (h2 : l.length ≤ 1000000) : F_stream_Inversions n l = some (invS l) := by
  unfold F_stream_Inversions invS
  simp only [p_all n l hn h2, bnd_some, cnd_not, cnd_if]
  by_cases h : allE l = 0
  · rw [if_pos h, if_neg (show ¬ allE l ≠ 0 by simp [h])]
    have := p_inv_l1 n l hn (fun k1_0_0y => some (k1_0_0y, 0)) n 0 (by omega) h2 (by omega)
    simpa [inv] using this
  · rw [if_neg h, if_pos h]
theorem p_rinv_l2 (n : Nat) (l : List Ev) (i : Nat) (hi : i < l.length) (a : Int) (K : Int → Option (Int × Int)) : ∀ (m k c : Nat), k ≤ l.length → l.length ≤ 1000000 → l.length < m + k → c + (l.length - k) ≤ 100000000000000 → F_tidegateref05_Inversions_l2 n l (a, (i : Int)) K m ((c : Int), (k : Int)) = K (((c + (l.drop k).countP (gtB l[i]) : Nat)) : Int)
  | 0, k, c, h1, h2, h3, _ => by omega
  | m + 1, k, c, h1, h2, h3, h4 => by
    unfold F_tidegateref05_Inversions_l2
    simp only [List.length_map, cnd_if]
    by_cases h : k < l.length
    · have hw : IntKind.wrap .i64 ((c : Int) + 1) = ((c + 1 : Nat) : Int) := by rw [wrap_in _ (by omega)]; omega
      rw [if_pos (by omega), idx_nat hi, p_ref, bnd_some, idx_nat h, wrapS k (by omega), hw]
      simp only [p_ref, bnd_some, p_order]
      have ec : rCmp ⟨l[i].fTime, l[i].fSource, l[i].fSeq⟩ ⟨l[k].fTime, l[k].fSource, l[k].fSeq⟩ = evCmp l[i] l[k] := rfl
      rw [ec, drop_eq_cons l k h, List.countP_cons]
      by_cases hc : 0 < evCmp l[i] l[k]
      · rw [if_pos hc, p_rinv_l2 n l i hi a K m (k + 1) (c + 1) (by omega) h2 (by omega) (by omega), if_pos (by simpa [gtB] using hc)]
        congr 2; omega
      · rw [if_neg hc, p_rinv_l2 n l i hi a K m (k + 1) c (by omega) h2 (by omega) (by omega), if_neg (by simpa [gtB] using hc)]
        rfl
    · rw [if_neg (by omega), List.drop_eq_nil_of_le (by omega)]; simp
theorem p_rinv_l1 (n : Nat) (l : List Ev) (hn : l.length < n) (K : Int → Option (Int × Int)) : ∀ (m k c : Nat), k ≤ l.length → l.length ≤ 1000000 → l.length < m + k → c + inv (l.drop k) = inv l → F_tidegateref05_Inversions_l1 n l K m ((c : Int), (k : Int)) = K (inv l : Int)
  | 0, k, c, h1, h2, h3, _ => by omega
  | m + 1, k, c, h1, h2, h3, h4 => by
    unfold F_tidegateref05_Inversions_l1
    simp only [List.length_map, cnd_if]
    have hb := inv_bound (l := l) (k := l.length) h2
    rw [List.take_length] at hb
    by_cases h : k < l.length
    · rw [if_pos (by omega), wrapS k (by omega), p_rinv_l2 n l k h (c : Int) _ n (k + 1) c (by omega) h2 (by omega) (by omega)]
      refine p_rinv_l1 n l hn K m (k + 1) _ (by omega) h2 (by omega) ?_
      rw [drop_eq_cons l k h, inv] at h4
      omega
    · rw [if_neg (by omega)]
      rw [List.drop_eq_nil_of_le (by omega)] at h4
      have : c = inv l := by simpa [inv] using h4
      rw [this]
theorem p_rinv (n : Nat) (l : List Ev) (hn : l.length < n) (h2 : l.length ≤ 1000000) : F_tidegateref05_Inversions n l = some (invS l) := by
  unfold F_tidegateref05_Inversions invS
  simp only [p_list n l hn h2, bnd_some, cnd_not, cnd_if]
  by_cases h : allE l = 0
  · rw [if_pos h, if_neg (show ¬ allE l ≠ 0 by simp [h])]
    have := p_rinv_l1 n l hn (fun k1_0_0y => some (k1_0_0y, 0)) n 0 0 (by omega) h2 (by omega) (by simp)
    simpa using this
  · rw [if_neg h, if_pos h]
end Go.Proofs.Ytdbapaofibgfcaa
