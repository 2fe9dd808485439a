/- Layer 5, plain: sorting, in the program and in the reference. Layer 5, plain: Find, Slice, Inversions. Layer 5, plain: Merge, Insert; the examples; the laws that compare with the reference. Layer 5: Split, plainly. What some functions compute, over plain values. Printed by a program of mine (gen_fun.lean). -/
import Derived.Test.YtkbopbgcjfcjjaaK09
set_option linter.unusedVariables false
set_option linter.unusedSimpArgs false
set_option maxRecDepth 100000
set_option maxHeartbeats 8000000
namespace Go.Proofs.Ytkbopbgcjfcjjaa
open Go.RowKit

def allE (l : List Ev) : Int := if 4096 < l.length then 5 else if l.all placedB then 0 else 2
theorem p_all1 (n : Nat) (e : Ev) : F_stream_all_1 n e = some (!placedB e) := by
  unfold F_stream_all_1; simp only [p_placed, bnd_some]
theorem p_idxf_l1 (n : Nat) (l : List Ev) : ∀ (m k : Nat), k ≤ l.length → l.length ≤ 1000000 → l.length < m + k → ∃ r : Int, F_slices_IndexFunc_l1 n l (some (-1)) m (k : Int) = some r ∧ (0 ≤ r ↔ (l.drop k).all placedB = false)
  | 0, k, h1, h2, h3 => by omega
  | m + 1, k, h1, h2, h3 => by
    unfold F_slices_IndexFunc_l1
    simp only [List.length_map, cnd_if]
    by_cases h : k < l.length
    · rw [if_pos (by omega), idx_nat h, wrapS k (by omega)]
      simp only [p_all1, bnd_some, cnd_not]
      simp only [cnd_b]
      rw [drop_eq_cons l k h, List.all_cons]
      obtain ⟨r, hr, hiff⟩ := p_idxf_l1 n l m (k + 1) (by omega) h2 (by omega)
      by_cases hp : placedB l[k] = true
      · rw [if_pos hp]; exact ⟨r, hr, by rw [hiff, hp, Bool.true_and]⟩
      · rw [if_neg hp]
        have hp' : placedB l[k] = false := by simpa using hp
        exact ⟨_, rfl, by rw [hp']; simp⟩
    · rw [if_neg (by omega)]
      exact ⟨_, rfl, by rw [List.drop_eq_nil_of_le (by omega)]; simp⟩
theorem p_all (n : Nat) (l : List Ev) (hn : l.length < n) (h2 : l.length ≤ 1000000) : F_stream_all n l = some (allE l) := by
  unfold F_stream_all F_slices_ContainsFunc F_slices_IndexFunc allE
  obtain ⟨r, hr, hiff⟩ := p_idxf_l1 n l n 0 (by omega) h2 (by omega)
  simp only [Int.natCast_zero, List.drop_zero] at hr hiff
  simp only [hr, bnd_some, List.length_map, cnd_if]
  by_cases h : 4096 < l.length
  · rw [if_pos (by omega), if_pos h]
  · rw [if_neg (by omega), if_neg h]
    by_cases ha : l.all placedB = true
    · rw [if_neg (by rw [hiff]; simp [ha]), if_pos ha]
    · rw [if_pos (by rw [hiff]; simpa using ha), if_neg ha]
def dd : List Ev → List Ev → Option (List Ev)
  | acc, [] => some acc
  | acc, e :: r => match acc.find? (fun x => decide (idt x = idt e)) with
    | some f => if f = e then dd acc r else none
    | none => dd (acc ++ [e]) r
def DistI (l : List Ev) : Prop := ∀ x ∈ l, ∀ y ∈ l, idt x = idt y → x = y
instance (l : List Ev) : Decidable (DistI l) := inferInstanceAs (Decidable (∀ x ∈ l, ∀ y ∈ l, idt x = idt y → x = y))
theorem dd_some : ∀ (l acc : List Ev), acc.Nodup → DistI (acc ++ l) → ∃ r, dd acc l = some r ∧ (∀ x, x ∈ r ↔ x ∈ acc ∨ x ∈ l) ∧ r.Nodup
  | [], acc, hn, h => ⟨acc, rfl, fun x => by simp, hn⟩
  | e :: l, acc, hn, h => by
    unfold dd
    cases hf : acc.find? (fun x => decide (idt x = idt e)) with
    | some f =>
      have h1 := List.mem_of_find?_eq_some hf
      have h2 : idt f = idt e := by have := List.find?_some hf; simpa using this
      have h3 : f = e := h f (by simp [h1]) e (by simp) h2
      simp only [h3, if_true]
      obtain ⟨r, hr, hm, hnr⟩ := dd_some l acc hn (fun x hx y hy => h x (by simp at hx ⊢; exact hx.elim Or.inl (fun h => Or.inr (Or.inr h))) y (by simp at hy ⊢; exact hy.elim Or.inl (fun h => Or.inr (Or.inr h))))
      refine ⟨r, hr, fun x => ?_, hnr⟩
      rw [hm, List.mem_cons]
      constructor
      · rintro (h | h); exact Or.inl h; exact Or.inr (Or.inr h)
      · rintro (h | h | h)
        · exact Or.inl h
        · subst h; exact Or.inl (h3 ▸ h1)
        · exact Or.inr h
    | none =>
      have hne : e ∉ acc := fun he => by
        have := List.find?_eq_none.1 hf e he
        simp at this
      have hn' : (acc ++ [e]).Nodup := by
        rw [List.nodup_append]
        exact ⟨hn, by simp, fun a ha b hb hab => by simp at hb; subst hb; exact hne (hab ▸ ha)⟩
      obtain ⟨r, hr, hm, hnr⟩ := dd_some l (acc ++ [e]) hn' (by rw [List.append_assoc]; exact h)
      refine ⟨r, hr, fun x => ?_, hnr⟩
      rw [hm]
      simp only [List.mem_append, List.mem_cons, List.not_mem_nil, or_false, or_assoc]
theorem dd_out : ∀ (l acc r : List Ev), DistI acc → dd acc l = some r → DistI (acc ++ l) ∧ ∀ x ∈ acc, x ∈ r
  | [], acc, r, h, hr => by injection hr with hr; subst hr; exact ⟨by simpa using h, fun x hx => hx⟩
  | e :: l, acc, r, h, hr => by
    unfold dd at hr
    cases hf : acc.find? (fun x => decide (idt x = idt e)) with
    | some f =>
      rw [hf] at hr
      simp only at hr
      split at hr
      · rename_i hfe
        subst hfe
        have h1 := List.mem_of_find?_eq_some hf
        obtain ⟨h2, h3⟩ := dd_out l acc r h hr
        have key : ∀ x, x ∈ acc ++ f :: l → x ∈ acc ++ l := fun x hx => by
          simp only [List.mem_append, List.mem_cons] at hx ⊢
          rcases hx with hx | rfl | hx
          · exact Or.inl hx
          · exact Or.inl h1
          · exact Or.inr hx
        exact ⟨fun x hx y hy => h2 x (key x hx) y (key y hy), h3⟩
      · cases hr
    | none =>
      rw [hf] at hr
      simp only at hr
      have hd : DistI (acc ++ [e]) := fun x hx y hy he => by
        simp only [List.mem_append, List.mem_singleton] at hx hy
        have hno := List.find?_eq_none.1 hf
        rcases hx with hx | rfl <;> rcases hy with hy | rfl
        · exact h x hx y hy he
        · exact absurd he (by have := hno x hx; simpa using this)
        · exact absurd he.symm (by have := hno y hy; simpa using this)
        · rfl
      obtain ⟨h2, h3⟩ := dd_out l (acc ++ [e]) r hd hr
      exact ⟨by rw [List.append_assoc] at h2; exact h2, fun x hx => h3 x (by simp [hx])⟩
theorem dd_none {l acc : List Ev} (h : DistI acc) (hn : ¬ DistI (acc ++ l)) : dd acc l = none := by
  cases hr : dd acc l with
  | none => rfl
  | some r => exact absurd (dd_out l acc r h hr).1 hn
theorem evCmp_tie {a b : Ev} (h1 : ltOf evCmp a b = false) (h2 : ltOf evCmp b a = false) : idt a = idt b ∧ a.fTime = b.fTime := by
  unfold ltOf at h1 h2
  simp only [decide_eq_false_iff_not, evCmp_lt] at h1 h2
  refine ⟨?_, by omega⟩
  have e1 : a.fSource = b.fSource := by omega
  have e2 : a.fSeq = b.fSeq := by omega
  simp [idt, e1, e2]
theorem distI_ties {l : List Ev} (h : DistI l) : ∀ x ∈ l, ∀ y ∈ l, ltOf evCmp x y = false → ltOf evCmp y x = false → x = y := fun x hx y hy h1 h2 => h x hx y hy (evCmp_tie h1 h2).1
def srt (l : List Ev) : List Ev := match dd [] l with | some r => sortF evCmp r | none => []
theorem srt_mem {l : List Ev} (h : DistI l) (x : Ev) : x ∈ srt l ↔ x ∈ l := by
  obtain ⟨r, hr, hm, hn⟩ := dd_some l [] (by simp) (by simpa using h)
  unfold srt
  rw [hr]
  simp only [(sortF_perm evCmp r).mem_iff, hm]
  simp
theorem srt_nodup {l : List Ev} (h : DistI l) : (srt l).Nodup := by
  obtain ⟨r, hr, hm, hn⟩ := dd_some l [] (by simp) (by simpa using h)
  unfold srt
  rw [hr]
  exact (sortF_perm evCmp r).symm.nodup hn
theorem srt_sorted (l : List Ev) : (srt l).Pairwise (fun x y => ltOf evCmp y x = false) := by
  unfold srt
  split
  · exact sortF_sorted evCmp_swo _
  · exact .nil
theorem srt_uniq {l r : List Ev} (h : DistI l) (hm : ∀ x, x ∈ r ↔ x ∈ l) (hn : r.Nodup) (hs : r.Pairwise (fun x y => ltOf evCmp y x = false)) : r = srt l := by
  have hp : r.Perm (srt l) := (List.perm_ext_iff_of_nodup hn (srt_nodup h)).2 fun x => by rw [hm, srt_mem h]
  exact List.Perm.eq_of_pairwise (le := fun x y => ltOf evCmp y x = false) (fun a b ha hb h1 h2 => distI_ties h a ((hm a).1 ha) b ((srt_mem h b).1 hb) h2 h1) hs (srt_sorted l) hp
theorem DistI.srt {l : List Ev} (h : DistI l) : DistI (srt l) := fun x hx y hy => h x ((srt_mem h x).1 hx) y ((srt_mem h y).1 hy)

def MapE (m : List (T_stream_identity × Ev)) (acc : List Ev) : Prop := ∀ k, mlk m k = acc.find? (fun x => decide (idt x = k))
theorem MapE.put {m : List (T_stream_identity × Ev)} {acc : List Ev} (h : MapE m acc) (e : Ev) (hf : acc.find? (fun x => decide (idt x = idt e)) = none) : MapE (mput m (idt e) e) (acc ++ [e]) := fun k => by
  rw [mlk_mput, List.find?_append, h k]
  by_cases hk : k = idt e
  · subst hk; rw [hf]; simp
  · rw [if_neg hk]
    have : ¬ idt e = k := fun e => hk e.symm
    simp [this]
theorem p_copied (n : Nat) (e : Ev) (h : e.fValues.length ≤ 1000000) : F_stream_copied n e = some e := by
  unfold F_stream_copied F_clone
  rw [if_pos (by omega), bnd_some]
theorem p_sorted_l1 (n : Nat) (l : List Ev) (hv : ∀ x ∈ l, fewV n x) (K : List Ev → Option (List Ev × Bool)) : ∀ (m k : Nat) (mp : List (T_stream_identity × Ev)) (acc : List Ev), k ≤ l.length → l.length ≤ 1000000 → l.length < m + k → acc.length ≤ k → (∀ x ∈ acc, x ∈ l) → MapE mp acc →
    F_stream_sorted_l1 n l K m ((k : Int), mp, acc) = match dd acc (l.drop k) with | some r => K r | none => some ([], false)
  | 0, k, _, _, h1, h2, h3, _, _, _ => by omega
  | m + 1, k, mp, acc, h1, h2, h3, h4, hsub, hm => by
    unfold F_stream_sorted_l1
    simp only [List.length_map, cnd_if, cnd_not]
    by_cases h : k < l.length
    · rw [if_pos (by omega), idx_nat h, wrapS k (by omega)]
      have hml : l[k] ∈ l := List.getElem_mem h
      simp only [p_of, bnd_some, mgt_eq, mst_eq, hm (idt l[k]), p_copied n l[k] (hv _ hml).2, cnd_b]
      rw [app_ok (by simp; omega) (by omega)]
      rw [drop_eq_cons l k h]
      conv => rhs; unfold dd
      cases hf : acc.find? (fun x => decide (idt x = idt l[k])) with
      | some f =>
        have hfm := List.mem_of_find?_eq_some hf
        simp only [Option.isSome_some, if_true, Option.getD_some]
        rw [p_evEqual n f l[k] (hv _ (hsub f hfm)), bnd_some]
        have ih := p_sorted_l1 n l hv K m (k + 1) mp acc (by omega) h2 (by omega) (by omega) hsub hm
        by_cases he : f = l[k]
        · rw [if_pos he]
          simp only [he, decide_true, if_true]
          exact ih
        · rw [if_neg he]
          simp only [he, decide_false, Bool.false_eq_true, if_false]
      | none =>
        simp only [Option.isSome_none, Bool.false_eq_true, if_false, Bool.not_false]
        have hm' := hm.put l[k] hf
        exact p_sorted_l1 n l hv K m (k + 1) _ (acc ++ [l[k]]) (by omega) h2 (by omega) (by simp; omega) (fun x hx => by
          simp only [List.mem_append, List.mem_singleton] at hx
          rcases hx with hx | rfl
          · exact hsub x hx
          · exact hml) hm'
    · rw [if_neg (by omega), List.drop_eq_nil_of_le (by omega)]; rfl
theorem f_sort_ok (n : Nat) {l : List Ev} (h : DistI l) (h2 : l.length ≤ 1000000) : F_sort evCmp n l = some (sortF evCmp l) := by
  unfold F_sort
  rw [if_pos ⟨by omega, distI_ties h⟩]
def sortedS (l : List Ev) : List Ev × Bool := if DistI l then (srt l, true) else ([], false)
theorem p_sorted (n : Nat) (l : List Ev) (hv : ∀ x ∈ l, fewV n x) (hn : l.length < n) (h2 : l.length ≤ 1000000) : F_stream_sorted n l = some (sortedS l) := by
  unfold F_stream_sorted sortedS
  have := p_sorted_l1 n l hv (fun k1_0_0y => bndC (F_sort evCmp n k1_0_0y) fun x42 => some (x42, true)) n 0 [] [] (by omega) h2 (by omega) (by simp) (by simp) (fun k => rfl)
  simp only [Int.natCast_zero, List.drop_zero] at this
  rw [this]
  by_cases h : DistI l
  · rw [if_pos h]
    obtain ⟨r, hr, hm, hnd⟩ := dd_some l [] (by simp) (by simpa using h)
    have hd : DistI r := fun x hx y hy => h x (by have := (hm x).1 hx; simpa using this) y (by have := (hm y).1 hy; simpa using this)
    have hlen : r.length ≤ l.length := hnd.length_le_of_subset (fun x hx => by have := (hm x).1 hx; simpa using this)
    unfold srt
    rw [hr]
    simp only
    rw [f_sort_ok n hd (by omega), bndC_some]
  · rw [if_neg h, dd_none (by intro x hx; simp at hx) (by simpa using h)]
def sortS (l : List Ev) : List Ev × Int := if allE l ≠ 0 then ([], allE l) else if DistI l then (srt l, 0) else ([], 22)
theorem p_sort (n : Nat) (l : List Ev) (hv : ∀ x ∈ l, fewV n x) (hn : l.length < n) (h2 : l.length ≤ 1000000) : F_stream_Sort n l = some (sortS l) := by
  unfold F_stream_Sort sortS
  simp only [p_all n l hn h2, p_sorted n l hv hn h2, bnd_some, cnd_not, cnd_if]
  by_cases h : allE l = 0
  · rw [if_pos h, if_neg (by simp [h])]
    unfold sortedS
    split <;> simp [cnd_t, cnd_f]
  · rw [if_neg h, if_pos h]

end Go.Proofs.Ytkbopbgcjfcjjaa
namespace Go.Proofs.Ytkbopbgcjfcjjaa
open Go.RowKit

theorem chk_zero : ∀ (l p : List Ev), chk p l = 0 → (∀ x ∈ l, placedB x = true) ∧ (∀ x ∈ l, ∀ y ∈ p, idt y ≠ idt x) ∧ l.Pairwise (fun x y => idt x ≠ idt y) ∧ (match p, l with | x :: _, y :: _ => evCmp x y < 0 | _, _ => True) ∧ l.Pairwise (fun x y => evCmp x y < 0)
  | [], p, _ => ⟨by simp, by simp, .nil, by cases p <;> trivial, .nil⟩
  | e :: l, p, h => by
    unfold chk at h
    by_cases hp : placedB e = false
    · rw [if_pos hp] at h; exact absurd h (by decide)
    rw [if_neg hp] at h
    generalize ho : headGe p e = b at h
    cases b with
    | true => rw [if_pos rfl] at h; exact absurd h (by decide)
    | false =>
      rw [if_neg (by decide)] at h
      by_cases hi : p.any (fun x => decide (idt x = idt e)) = true
      · rw [if_pos hi] at h; exact absurd h (by decide)
      rw [if_neg hi] at h
      obtain ⟨i1, i2, i3, i4, i5⟩ := chk_zero l (e :: p) h
      have hp' : placedB e = true := by simpa using hp
      have hi' : ∀ y ∈ p, idt y ≠ idt e := fun y hy => by
        simp only [Bool.not_eq_true, List.any_eq_false, decide_eq_true_eq] at hi
        exact hi y hy
      refine ⟨fun x hx => ?_, fun x hx y hy => ?_, List.pairwise_cons.2 ⟨fun y hy => i2 y hy e (by simp), i3⟩, ?_, List.pairwise_cons.2 ⟨fun y hy => ?_, i5⟩⟩
      · rcases List.mem_cons.1 hx with rfl | hx
        · exact hp'
        · exact i1 x hx
      · rcases List.mem_cons.1 hx with rfl | hx
        · exact hi' y hy
        · exact i2 x hx y (by simp [hy])
      · cases p with
        | nil => trivial
        | cons x p => simp only [headGe, decide_eq_false_iff_not] at ho; show evCmp x e < 0; omega
      · cases l with
        | nil => simp at hy
        | cons z l =>
          have hz : evCmp e z < 0 := i4
          rcases List.mem_cons.1 hy with rfl | hy
          · exact hz
          · have h2 := (List.pairwise_cons.1 i5).1 y hy
            have := evCmp_swo.trans e z y (by simpa [ltOf] using hz) (by simpa [ltOf] using h2)
            simpa [ltOf] using this
theorem strChk_zero {l : List Ev} (h : strChk l = 0) : l.length ≤ 4096 ∧ (∀ x ∈ l, placedB x = true) ∧ l.Pairwise (fun x y => idt x ≠ idt y) ∧ l.Pairwise (fun x y => evCmp x y < 0) := by
  unfold strChk at h
  split at h
  · cases h
  · obtain ⟨h1, _, h3, _, h5⟩ := chk_zero l [] h
    exact ⟨by omega, h1, h3, h5⟩
def findI (l : List Ev) (r : T_api_Ref) : Nat := (l.takeWhile (fun x => decide (rCmp (refOf x) r < 0))).length
def findS (l : List Ev) (r : T_api_Ref) : Int × Bool × Int := if strChk l ≠ 0 then (0, false, strChk l) else ((findI l r : Int), (match l[findI l r]? with | some x => decide (refOf x = r) | none => false), 0)
theorem findI_le (l : List Ev) (r : T_api_Ref) : findI l r ≤ l.length := (List.takeWhile_sublist _).length_le
theorem takeWhile_len {α : Type} (p : α → Bool) : ∀ (l : List α) (k : Nat), k ≤ l.length → (∀ j (h : j < l.length), j < k → p l[j] = true) → (∀ h : k < l.length, p l[k] = false) → (l.takeWhile p).length = k
  | [], k, h, _, _ => by simp at h; simp [h]
  | x :: l, 0, h, _, h3 => by
    have := h3 (by simp)
    simp at this
    simp [this]
  | x :: l, k + 1, h, h2, h3 => by
    have hx := h2 0 (by simp) (by omega)
    simp at hx
    rw [List.takeWhile_cons, if_pos hx, List.length_cons, takeWhile_len p l k (by simpa using h) (fun j hj hjk => by have := h2 (j + 1) (by simpa using hj) (by omega); rwa [List.getElem_cons_succ] at this) (fun hk => by have := h3 (by simpa using hk); rwa [List.getElem_cons_succ] at this)]
theorem f_or3' (n : Nat) (hn : 4 ≤ n) (a b c : Int) : F_cmp_Or_d n [a, b, c] = some (or3 a b c) := by
  obtain ⟨m, rfl⟩ : ∃ m, n = m + 4 := ⟨n - 4, by omega⟩
  exact f_or3 m a b c
theorem p_compare (n : Nat) (hn : 4 ≤ n) (e : Ev) (r : T_api_Ref) : F_stream_compare n e r = some (rCmp (refOf e) r) := by
  unfold F_stream_compare F_cmpI
  simp only [bnd_some, f_or3' n hn]
  rfl
theorem wrapU (x : Int) (h0 : 0 ≤ x) (h1 : x ≤ 18446744073709551615) : IntKind.wrap .u64 x = x := IntWalk.u64_in _ ⟨h0, h1⟩
theorem half_eq (i j : Nat) (h : i + j ≤ 2000000) : IntKind.wrap .i64 (Int.fdiv (IntKind.wrap .u64 (IntKind.wrap .i64 ((i : Int) + (j : Int)))) (2 ^ min (Int.toNat (1 : Int)) (IntKind.bits .u64))) = (((i + j) / 2 : Nat) : Int) := by
  have e1 : IntKind.wrap .i64 ((i : Int) + (j : Int)) = ((i + j : Nat) : Int) := by rw [wrap_in _ (by omega)]; omega
  rw [e1, wrapU _ (by omega) (by omega)]
  have e2 : (2 : Int) ^ min (Int.toNat (1 : Int)) (IntKind.bits .u64) = 2 := by decide
  rw [e2]
  have e3 : Int.fdiv ((i + j : Nat) : Int) 2 = (((i + j) / 2 : Nat) : Int) := by
    rw [Int.fdiv_eq_ediv_of_nonneg _ (by omega)]; omega
  rw [e3, wrap_in _ (by omega)]
theorem p_bs_l1 (n : Nat) (hn4 : 4 ≤ n) (l : List Ev) (r : T_api_Ref) (hmono : ∀ a b (ha : a < l.length) (hb : b < l.length), a ≤ b → rCmp (refOf l[b]) r < 0 → rCmp (refOf l[a]) r < 0) (K : Int → Option (Int × Bool)) :
    ∀ (m i j : Nat), i ≤ j → j ≤ l.length → l.length ≤ 1000000 → j - i < m → (∀ k (h : k < l.length), k < i → rCmp (refOf l[k]) r < 0) → (∀ k (h : k < l.length), j ≤ k → ¬ rCmp (refOf l[k]) r < 0) → F_slices_BinarySearchFunc_l1 n r l K m ((i : Int), (j : Int)) = K (findI l r : Int)
  | 0, i, j, h1, h2, h3, h4, _, _ => by omega
  | m + 1, i, j, h1, h2, h3, h4, hlo, hhi => by
    unfold F_slices_BinarySearchFunc_l1
    simp only [cnd_if]
    by_cases h : i < j
    · rw [if_pos (by omega), shx_ok (by omega), half_eq i j (by omega)]
      have hh : (i + j) / 2 < l.length := by omega
      rw [idx_nat hh, p_compare n hn4, bnd_some, wrapS _ (by omega)]
      by_cases hc : rCmp (refOf l[(i + j) / 2]) ⟨r.fTime, r.fSource, r.fSeq⟩ < 0
      · rw [if_pos hc]
        have hc' : rCmp (refOf l[(i + j) / 2]) r < 0 := hc
        exact p_bs_l1 n hn4 l r hmono K m ((i + j) / 2 + 1) j (by omega) h2 h3 (by omega) (fun k hk hki => hmono k ((i + j) / 2) hk hh (by omega) hc') hhi
      · rw [if_neg hc]
        have hc' : ¬ rCmp (refOf l[(i + j) / 2]) r < 0 := hc
        exact p_bs_l1 n hn4 l r hmono K m i ((i + j) / 2) (by omega) (by omega) h3 (by omega) hlo (fun k hk hjk hlt => hc' (hmono ((i + j) / 2) k hh hk hjk hlt))
    · have hij : i = j := by omega
      subst hij
      rw [if_neg (by omega)]
      have : findI l r = i := takeWhile_len _ l i h2 (fun k hk hki => by simpa using hlo k hk hki) (fun h' => by simpa using hhi i h' (Nat.le_refl _))
      rw [this]
theorem rCmp_lt (a b : T_api_Ref) : rCmp a b < 0 ↔ a.fTime < b.fTime ∨ (a.fTime = b.fTime ∧ (a.fSource < b.fSource ∨ (a.fSource = b.fSource ∧ a.fSeq < b.fSeq))) := by
  unfold rCmp or3 cmpI
  split <;> split <;> (try split) <;> (try split) <;> (try split) <;> (try split) <;> omega
theorem rCmp_zero (a b : T_api_Ref) : rCmp a b = 0 ↔ a = b := by
  obtain ⟨a1, a2, a3⟩ := a
  obtain ⟨b1, b2, b3⟩ := b
  unfold rCmp or3 cmpI
  simp only [T_api_Ref.mk.injEq]
  split <;> split <;> (try split) <;> (try split) <;> (try split) <;> (try split) <;> omega
theorem p_find (n : Nat) (l : List Ev) (r : T_api_Ref) (hn4 : 4 ≤ n) (hn : l.length < n) (h2 : l.length ≤ 1000000) : F_stream_Find n l r = some (findS l r) := by
  unfold F_stream_Find findS
  simp only [p_chk n l hn h2, bnd_some, cnd_not, cnd_if]
  by_cases h : strChk l = 0
  · rw [if_pos h, if_neg (by simp [h])]
    obtain ⟨_, _, _, h5⟩ := strChk_zero h
    have hmono : ∀ a b (ha : a < l.length) (hb : b < l.length), a ≤ b → rCmp (refOf l[b]) r < 0 → rCmp (refOf l[a]) r < 0 := fun a b ha hb hab hlt => by
      rcases Nat.eq_or_lt_of_le hab with rfl | hab
      · exact hlt
      · have h1 := List.pairwise_iff_getElem.1 h5 a b ha hb hab
        rw [evCmp_lt] at h1
        rw [rCmp_lt] at hlt ⊢
        simp only [refOf] at hlt ⊢
        omega
    unfold F_slices_BinarySearchFunc
    simp only [List.length_map, cnd_if]
    have e1 : (⟨r.fTime, r.fSource, r.fSeq⟩ : T_api_Ref) = r := rfl
    have := p_bs_l1 n hn4 l r hmono (fun k1_0_0y => if k1_0_0y < ((l.length : Nat) : Int) then (idx l k1_0_0y fun x42 => bnd (F_stream_compare n x42 r) fun x43 => some (k1_0_0y, decide (x43 = 0))) else some (k1_0_0y, false)) n 0 l.length (Nat.zero_le _) (Nat.le_refl _) h2 (by omega) (fun k _ h => by omega) (fun k hk h => by omega)
    simp only [Int.natCast_zero] at this
    simp only [e1]
    rw [this]
    have hle := findI_le l r
    by_cases hl : findI l r < l.length
    · rw [if_pos (by omega), idx_nat hl, p_compare n hn4, bnd_some, bnd_some, List.getElem?_eq_getElem hl]
      simp only
      congr 3
      exact decide_eq_decide.2 (rCmp_zero _ _)
    · rw [if_neg (by omega), List.getElem?_eq_none (by omega), bnd_some]
  · rw [if_neg h, if_pos h]

def sliceB (a b : Int) (x : Ev) : Bool := decide (a ≤ x.fTime) && decide (x.fTime ≤ b)
def sliceS (l : List Ev) (a b : Int) : List Ev × Int := if strChk l ≠ 0 then ([], strChk l) else (l.filter (sliceB a b), 0)
theorem p_slice_l1 (n : Nat) (l : List Ev) (a b : Int) (hv : ∀ x ∈ l, fewV n x) : ∀ (m k : Nat) (out : List Ev), k ≤ l.length → l.length ≤ 1000000 → l.length < m + k → out.length ≤ k → F_stream_Slice_l1 n b a l (fun k1_0_0y => some (k1_0_0y, 0)) m ((k : Int), out) = some (out ++ (l.drop k).filter (sliceB a b), 0)
  | 0, k, _, h1, h2, h3, _ => by omega
  | m + 1, k, out, h1, h2, h3, h4 => by
    unfold F_stream_Slice_l1
    simp only [List.length_map, cnd_if]
    by_cases h : k < l.length
    · rw [if_pos (by omega), idx_nat h, wrapS k (by omega)]
      rw [p_copied n l[k] (hv _ (List.getElem_mem h)).2, bnd_some, app_ok (by simp; omega) (by omega)]
      rw [drop_eq_cons l k h, List.filter_cons]
      have ih1 := p_slice_l1 n l a b hv m (k + 1) (out ++ [l[k]]) (by omega) h2 (by omega) (by simp; omega)
      have ih2 := p_slice_l1 n l a b hv m (k + 1) out (by omega) h2 (by omega) (by omega)
      unfold sliceB at *
      by_cases h5 : a ≤ l[k].fTime
      · rw [if_pos h5]
        by_cases h6 : l[k].fTime ≤ b
        · rw [if_pos h6, ih1, if_pos (by simp [h5, h6]), List.append_assoc]; rfl
        · rw [if_neg h6, ih2, if_neg (by simp [h6])]
      · rw [if_neg h5, ih2, if_neg (by simp [h5])]
    · rw [if_neg (by omega), List.drop_eq_nil_of_le (by omega)]; simp
theorem p_slice (n : Nat) (l : List Ev) (a b : Int) (hv : ∀ x ∈ l, fewV n x) (hn : l.length < n) (h2 : l.length ≤ 1000000) : F_stream_Slice n l a b = some (sliceS l a b) := by
  unfold F_stream_Slice sliceS
  simp only [p_chk n l hn h2, bnd_some, cnd_not, cnd_if]
  by_cases h : strChk l = 0
  · rw [if_pos h, if_neg (by simp [h])]
    have := p_slice_l1 n l a b hv n 0 [] (by omega) h2 (by omega) (by simp)
    simpa using this
  · rw [if_neg h, if_pos h]
def gtB (a b : Ev) : Bool := decide (0 < evCmp a b)
def inv : List Ev → Nat
  | [] => 0
  | e :: r => r.countP (gtB e) + inv r
theorem inv_snoc (e : Ev) : ∀ p : List Ev, inv (p ++ [e]) = inv p + p.countP (fun x => gtB x e)
  | [] => rfl
  | a :: p => by
    rw [List.cons_append, inv, inv, inv_snoc e p, List.countP_append, List.countP_cons (l := p)]
    simp only [List.countP_cons, List.countP_nil]
    omega
theorem inv_le : ∀ l : List Ev, inv l ≤ l.length * l.length
  | [] => Nat.le_refl _
  | e :: r => by
    rw [inv, List.length_cons]
    have h1 := inv_le r
    have h2 := List.countP_le_length (p := gtB e) (l := r)
    rw [Nat.succ_mul, Nat.mul_succ]
    omega
def invS (l : List Ev) : Int × Int := if allE l ≠ 0 then (0, allE l) else ((inv l : Int), 0)
theorem p_inv_l2 (n : Nat) (l : List Ev) (v : Int × Int) (e : Ev) (q : List Ev) (K : Int → Option (Int × Int)) : ∀ (m k c : Nat), k ≤ q.length → q.length ≤ 1000000 → q.length < m + k → c + (q.length - k) ≤ 100000000000000 → F_stream_Inversions_l2 n l v e q K m ((c : Int), (k : Int)) = K (((c + (q.drop k).countP (fun x => gtB x e) : Nat)) : Int)
  | 0, k, c, h1, h2, h3, _ => by omega
  | m + 1, k, c, h1, h2, h3, h4 => by
    unfold F_stream_Inversions_l2
    simp only [List.length_map, cnd_if]
    by_cases h : k < q.length
    · have hw : IntKind.wrap .i64 ((c : Int) + 1) = ((c + 1 : Nat) : Int) := by rw [wrap_in _ (by omega)]; omega
      rw [if_pos (by omega), idx_nat h, wrapS k (by omega), hw]
      simp only [F_evCmp, bnd_some]
      rw [drop_eq_cons q k h, List.countP_cons]
      by_cases hc : 0 < evCmp q[k] e
      · rw [if_pos hc, p_inv_l2 n l v e q K m (k + 1) (c + 1) (by omega) h2 (by omega) (by omega), if_pos (by simpa [gtB] using hc)]
        congr 2; omega
      · rw [if_neg hc, p_inv_l2 n l v e q K m (k + 1) c (by omega) h2 (by omega) (by omega), if_neg (by simpa [gtB] using hc)]
        rfl
    · rw [if_neg (by omega), List.drop_eq_nil_of_le (by omega)]; simp
theorem inv_bound {l : List Ev} {k : Nat} (h2 : l.length ≤ 1000000) : inv (l.take k) ≤ 1000000000000 := by
  have h := inv_le (l.take k)
  have h3 : (l.take k).length ≤ 1000000 := by rw [List.length_take]; omega
  have := Nat.mul_le_mul h3 h3
  omega
theorem p_inv_l1 (n : Nat) (l : List Ev) (hn : l.length < n) (K : Int → Option (Int × Int)) : ∀ (m k : Nat), k ≤ l.length → l.length ≤ 1000000 → l.length < m + k → F_stream_Inversions_l1 n l K m ((inv (l.take k) : Int), (k : Int)) = K (inv l : Int)
  | 0, k, h1, h2, h3 => by omega
  | m + 1, k, h1, h2, h3 => by
    unfold F_stream_Inversions_l1
    simp only [List.length_map, cnd_if]
    by_cases h : k < l.length
    · rw [if_pos (by omega), idx_nat h, wrapS k (by omega)]
      have hs := sls_ok (a := 0) (b := k) (Nat.zero_le _) h1 (fun x44 => F_stream_Inversions_l2 n l ((inv (l.take k) : Int), (k : Int)) l[k] x44 (fun k2_1_0y => F_stream_Inversions_l1 n l K m (k2_1_0y, ((k + 1 : Nat) : Int))) n ((inv (l.take k) : Int), 0))
      simp only [Int.natCast_zero] at hs
      rw [hs, List.drop_zero]
      have hb := inv_bound (l := l) (k := k) h2
      have hl2 := p_inv_l2 n l ((inv (l.take k) : Int), (k : Int)) l[k] (l.take k) (fun k2_1_0y => F_stream_Inversions_l1 n l K m (k2_1_0y, ((k + 1 : Nat) : Int))) n 0 (inv (l.take k)) (by omega) (by rw [List.length_take]; omega) (by rw [List.length_take]; omega) (by rw [List.length_take]; omega)
      simp only [Int.natCast_zero, List.drop_zero] at hl2
      rw [hl2, ← inv_snoc, ← List.take_succ_eq_append_getElem h]
      exact p_inv_l1 n l hn K m (k + 1) (by omega) h2 (by omega)
    · rw [if_neg (by omega), List.take_of_length_le (by omega)]
theorem p_inv (n : Nat) (l : List Ev) (hn : l.length < n) (h2 : l.length ≤ 1000000) : F_stream_Inversions n l = some (invS l) := by
  unfold F_stream_Inversions invS
  simp only [p_all n l hn h2, bnd_some, cnd_not, cnd_if]
  by_cases h : allE l = 0
  · rw [if_pos h, if_neg (show ¬ allE l ≠ 0 by simp [h])]
    have := p_inv_l1 n l hn (fun k1_0_0y => some (k1_0_0y, 0)) n 0 (by omega) h2 (by omega)
    simpa [inv] using this
  · rw [if_neg h, if_pos h]
end Go.Proofs.Ytkbopbgcjfcjjaa
namespace Go.Proofs.Ytkbopbgcjfcjjaa
open Go.RowKit

theorem p_grow (n : Nat) (s : Nat) (h : s ≤ 1000000) : F_slices_Grow n (s : Int) = some [] := by
  have w0 : IntKind.wrap .i64 ((0 : Int) - 0) = 0 := by decide
  have w1 : IntKind.wrap .i64 ((s : Int) - 0) = (s : Int) := by rw [wrap_in _ (by omega)]; omega
  unfold F_slices_Grow
  simp only [cnd_if, w0, w1]
  rw [if_neg (by omega)]
  by_cases h0 : 0 < s
  · rw [if_pos (by omega)]
    unfold psx
    rw [if_pos (by omega), mak_ok (by omega) (by omega)]
    have := sls_ok (l := List.replicate s (⟨0, 0, 0, 0, []⟩ : T_api_Event)) (a := 0) (b := 0) (Nat.le_refl _) (Nat.zero_le _) (fun x2 => some x2)
    simpa using this
  · rw [if_neg (by omega)]
theorem idx_one {α β : Type} {x y : α} {l : List α} (k : α → Option β) : idx (x :: y :: l) 1 k = k y := by unfold idx; simp
theorem p_concat (n : Nat) (a b : List Ev) (hn : 3 ≤ n) (ha : a.length ≤ 100000) (hb : b.length ≤ 100000) : F_slices_Concat n [a, b] = some (a ++ b) := by
  obtain ⟨m, rfl⟩ : ∃ m, n = m + 3 := ⟨n - 3, by omega⟩
  have w0 : IntKind.wrap .i64 ((0 : Int) + 1) = 1 := by decide
  have w1 : IntKind.wrap .i64 ((1 : Int) + 1) = 2 := by decide
  have wa : IntKind.wrap .i64 ((0 : Int) + (a.length : Int)) = (a.length : Int) := by rw [wrap_in _ (by omega)]; omega
  have wb : IntKind.wrap .i64 ((a.length : Int) + (b.length : Int)) = ((a.length + b.length : Nat) : Int) := by rw [wrap_in _ (by omega)]; omega
  unfold F_slices_Concat
  simp only [F_slices_Concat_l1, List.length_map, List.length_cons, List.length_nil, cnd_if, idx_zero, idx_one, w0, w1, wa, wb]
  have c1 : ¬ ((a.length : Int) < 0) := by omega
  have c2 : ¬ (((a.length + b.length : Nat) : Int) < 0) := by omega
  rw [if_pos (by decide), if_neg c1, if_pos (by decide), if_neg c2, if_neg (by decide)]
  rw [p_grow _ _ (by omega), bndR_some]
  simp only [F_slices_Concat_l2, List.length_map, List.length_cons, List.length_nil, cnd_if, idx_zero, idx_one, w0, w1]
  rw [if_pos (by decide), app_ok (by simp; omega) (by omega), if_pos (by decide), app_ok (by simp; omega) (by omega), if_neg (by decide)]
  simp
def joinedS (a b : List Ev) : List Ev × Int := if DistI (a ++ b) then (if 4096 < (srt (a ++ b)).length then ([], 5) else (srt (a ++ b), 0)) else ([], 22)
theorem p_joined (n : Nat) (a b : List Ev) (hv : ∀ x ∈ a ++ b, fewV n x) (hn : a.length + b.length < n) (hn3 : 3 ≤ n) (ha : a.length ≤ 10000) (hb : b.length ≤ 10000) : F_stream_joined n a b = some (joinedS a b) := by
  unfold F_stream_joined joinedS
  rw [p_concat n a b hn3 (by omega) (by omega), bnd_some, p_sorted n (a ++ b) hv (by rw [List.length_append]; omega) (by rw [List.length_append]; omega), bnd_some]
  unfold sortedS
  by_cases h : DistI (a ++ b)
  · rw [if_pos h, if_pos h]
    simp only [Bool.not_true, cnd_f, List.length_map, cnd_if]
    by_cases h4 : 4096 < (srt (a ++ b)).length
    · rw [if_pos (by omega), if_pos h4]
    · rw [if_neg (by omega), if_neg h4]
  · rw [if_neg h, if_neg h]
    simp only [Bool.not_false, cnd_t]
def mergeS (a b : List Ev) : List Ev × Int := if strChk a ≠ 0 then ([], strChk a) else if strChk b ≠ 0 then ([], strChk b) else joinedS a b
theorem p_merge (n : Nat) (a b : List Ev) (hv : ∀ x ∈ a ++ b, fewV n x) (hn : a.length + b.length < n) (hn3 : 3 ≤ n) (ha : a.length ≤ 10000) (hb : b.length ≤ 10000) : F_stream_Merge n a b = some (mergeS a b) := by
  unfold F_stream_Merge mergeS
  rw [p_chk n a (by omega) (by omega), bnd_some]
  simp only [cnd_not, cnd_if]
  by_cases h1 : strChk a = 0
  · rw [if_pos h1, if_neg (show ¬ strChk a ≠ 0 by simp [h1]), p_chk n b (by omega) (by omega), bnd_some]
    by_cases h2 : strChk b = 0
    · rw [if_pos h2, if_neg (show ¬ strChk b ≠ 0 by simp [h2]), p_joined n a b hv hn hn3 ha hb, bnd_some]
    · rw [if_neg h2, if_pos h2]
  · rw [if_neg h1, if_pos h1]
abbrev evA : Ev := ⟨0, 0, 0, 5, []⟩
abbrev evB : Ev := ⟨0, 1, 0, 3, []⟩
abbrev evC : Ev := ⟨0, 2, 0, 5, []⟩
abbrev evO : Ev := ⟨0, 0, 0, 5, [⟨0, 1, ByteArray.empty⟩]⟩
theorem ex_srt : srt [evA, evB, evC, evA] = [evB, evA, evC] :=
  (srt_uniq (by decide) (fun x => by
    simp only [List.mem_cons, List.not_mem_nil, or_false]
    constructor
    · intro h; rcases h with h | h | h <;> simp [h]
    · intro h; rcases h with h | h | h | h <;> simp [h]) (by decide) (by decide)).symm
theorem fewV_lit (n : Nat) (hn : 10 ≤ n) (e : Ev) (h : e.fValues.length ≤ 1) : fewV n e := ⟨by omega, by omega⟩
theorem awake05 (n : Nat) (hn : 100 ≤ n) : F_tidegatelaw05_awake n = some true := by
  have hv : ∀ l : List Ev, (∀ x ∈ l, x.fValues.length ≤ 1) → ∀ x ∈ l, fewV n x := fun l h x hx => fewV_lit n (by omega) x (h x hx)
  have s1 : sortS [evA, evB, evC, evA] = ([evB, evA, evC], 0) := by
    unfold sortS
    rw [if_neg (by decide), if_pos (by decide), ex_srt]
  have s2 : invS [evA, evB, evC] = (1, 0) := by decide
  have s3 : findS [evB, evA, evC] ⟨5, 0, 1⟩ = (2, false, 0) := by decide
  have s4 : findS [evB, evA, evC] ⟨5, 0, 2⟩ = (2, true, 0) := by decide
  have s5 : sliceS [evB, evA, evC] 4 5 = ([evA, evC], 0) := by decide
  have s6 : mergeS [evB, evA] [evO] = ([], 22) := by
    unfold mergeS joinedS
    rw [if_neg (by decide), if_neg (by decide), if_neg (by decide)]
  unfold F_tidegatelaw05_awake
  rw [p_sort n [evA, evB, evC, evA] (hv _ (by decide)) (by simp; omega) (by simp), bnd_some, s1, p_inv n [evA, evB, evC] (by simp; omega) (by simp), bnd_some, s2]
  rw [p_find n [evB, evA, evC] ⟨5, 0, 1⟩ (by omega) (by simp; omega) (by simp), bnd_some, s3, p_find n [evB, evA, evC] ⟨5, 0, 2⟩ (by omega) (by simp; omega) (by simp), bnd_some, s4]
  rw [p_slice n [evB, evA, evC] 4 5 (hv _ (by decide)) (by simp; omega) (by simp), bnd_some, s5, p_merge n [evB, evA] [evO] (hv _ (by decide)) (by simp; omega) (by omega) (by simp) (by simp), bnd_some, s6]
  simp only [decide_true, Bool.not_true, cnd_f]
  rw [p_rSame n [evB, evA, evC] [evB, evA, evC] (hv _ (by decide)) (by simp; omega) (by simp), bnd_some, p_rSame n [evA, evC] [evA, evC] (hv _ (by decide)) (by simp; omega) (by simp)]
  simp [cnd_t, cnd_f, bnd_some]

theorem few_v {n : Nat} (hn : 100 ≤ n) {l : List Ev} (h : fewE l = true) : l.length ≤ 12 ∧ ∀ x ∈ l, fewV n x := by
  obtain ⟨h1, h2⟩ := fewE_out h
  exact ⟨h1, fun x hx => ⟨by have := h2 x hx; omega, by have := h2 x hx; omega⟩⟩
end Go.Proofs.Ytkbopbgcjfcjjaa
namespace Go.Proofs.Ytkbopbgcjfcjjaa
open Go.RowKit

section
variable {α β κ ν : Type}
theorem men_eq [DecidableEq κ] (l : List (κ × List ν)) (k : κ) (c : List ν → Option β) : men l k c = c (rget l k) := by unfold men; rfl
theorem lkn_eq [DecidableEq κ] (l : List (κ × List ν)) (k : κ) (c : Option β) : lkn l k c = c := by unfold lkn; rfl
theorem mes_eq [DecidableEq κ] (l : List (κ × List ν)) (k : κ) (v : List ν) (c : List (κ × List ν) → Option β) : mes l k v c = c (mput l k v) := by unfold mes; rfl
theorem rget_mput [DecidableEq κ] (l : List (κ × List ν)) (k : κ) (v : List ν) (k' : κ) : rget (mput l k v) k' = if k' = k then v else rget l k' := by
  unfold rget
  rw [mlk_mput]
  by_cases h : k' = k
  · rw [if_pos h, if_pos h]; rfl
  · rw [if_neg h, if_neg h]
theorem idx_getD {l : List α} {i : Int} (d : α) (k : α → Option β) (h0 : 0 ≤ i) (h1 : i < (l.length : Int)) : idx l i k = k (l.getD i.toNat d) := by
  obtain ⟨m, rfl⟩ : ∃ m : Nat, i = m := ⟨i.toNat, by omega⟩
  have hm : m < l.length := by omega
  rw [idx_nat hm]
  simp [List.getD_eq_getElem?_getD, hm]
end

abbrev va0 : Va := ⟨0, 0, ByteArray.empty⟩
def keyP (ks : List Int) (e : Ev) : Va × Bool × Int :=
  if ks.length = 0 then (va0, true, 0) else if e.fType < 0 then (va0, false, 1) else if (ks.length : Int) ≤ e.fType then (va0, false, 1) else
  if ks.getD e.fType.toNat 0 < -1 then (va0, false, 2) else if (e.fValues.length : Int) ≤ ks.getD e.fType.toNat 0 then (va0, false, 2) else
  if ks.getD e.fType.toNat 0 = -1 then (va0, false, 0) else (e.fValues.getD (ks.getD e.fType.toNat 0).toNat va0, true, 0)
theorem p_rkey (n : Nat) (ks : List Int) (e : Ev) : F_tidegateref05_Key n e ks = some (keyP ks e) := by
  unfold F_tidegateref05_Key keyP
  simp only [List.length_map, cnd_if]
  by_cases h1 : ks.length = 0
  · rw [if_pos (by omega), if_pos h1]
  rw [if_neg (by omega), if_neg h1]
  by_cases h2 : e.fType < 0
  · rw [if_pos h2, if_pos h2]
  rw [if_neg h2, if_neg h2]
  by_cases h3 : (ks.length : Int) ≤ e.fType
  · rw [if_pos h3, if_pos h3]
  rw [if_neg h3, if_neg h3, idx_getD 0 _ (by omega) (by omega)]
  generalize ks.getD e.fType.toNat 0 = x
  by_cases h4 : x < -1
  · rw [if_pos h4, if_pos h4]
  rw [if_neg h4, if_neg h4]
  by_cases h5 : (e.fValues.length : Int) ≤ x
  · rw [if_pos h5, if_pos h5]
  rw [if_neg h5, if_neg h5]
  by_cases h6 : x = -1
  · rw [if_pos h6, if_pos h6]
  rw [if_neg h6, if_neg h6, idx_getD va0 _ (by omega) (by omega)]
theorem p_keyed (n : Nat) (ks : List Int) (e : Ev) : F_stream_keyed n e ks = some (keyP ks e) := by
  unfold F_stream_keyed keyP
  simp only [List.length_map, cnd_if]
  by_cases h1 : ks.length = 0
  · rw [if_pos (by omega), if_pos h1]
  rw [if_neg (by omega), if_neg h1]
  by_cases h2 : e.fType < 0
  · rw [if_pos h2, if_pos h2]
  rw [if_neg h2, if_neg h2]
  by_cases h3 : (ks.length : Int) ≤ e.fType
  · rw [if_pos h3, if_pos h3]
  rw [if_neg h3, if_neg h3]
  simp only [idx_getD 0 _ (show 0 ≤ e.fType by omega) (show e.fType < (ks.length : Int) by omega)]
  generalize ks.getD e.fType.toNat 0 = x
  by_cases h4 : x < -1
  · rw [if_pos h4, if_pos h4]
  rw [if_neg h4, if_neg h4]
  by_cases h5 : (e.fValues.length : Int) ≤ x
  · rw [if_pos h5, if_pos h5]
  rw [if_neg h5, if_neg h5]
  by_cases h6 : x = -1
  · rw [if_pos h6, if_pos h6]
  rw [if_neg h6, if_neg h6, idx_getD va0 _ (by omega) (by omega)]
def kOk (ks : List Int) (e : Ev) : Bool := (keyP ks e).2.1
def kErr (ks : List Int) (e : Ev) : Int := (keyP ks e).2.2
def kVal (ks : List Int) (e : Ev) : Va := (keyP ks e).1
def inK (ks : List Int) (v : Va) (e : Ev) : Bool := kOk ks e && decide (kVal ks e = v)
theorem keyP_eq (ks : List Int) (e : Ev) : keyP ks e = (kVal ks e, kOk ks e, kErr ks e) := rfl
def errF (ks : List Int) : List Ev → Int
  | [] => 0
  | e :: r => if kErr ks e = 0 then errF ks r else kErr ks e
def keysP : List Va → Va → List Va
  | [], v => [v]
  | x :: r, v => if vaCmp x v < 0 then x :: keysP r v else if x = v then x :: r else v :: x :: r
theorem p_rcmp1 (n : Nat) (a b : Va) : F_tidegateref01_Compare n a b = some (vaCmp a b) := by
  have key : F_tidegateref01_Compare n a b = some (if a.fKind = b.fKind then (if a.fNum = b.fNum then (if cb a.fText.data.toList b.fText.data.toList < 0 then -1 else if cb a.fText.data.toList b.fText.data.toList = 0 then 0 else 1) else if a.fNum < b.fNum then -1 else if b.fNum < a.fNum then 1 else 0) else if a.fKind < b.fKind then -1 else if b.fKind < a.fKind then 1 else 0) := by
    unfold F_tidegateref01_Compare F_tidegateref01_order
    simp only [bnd_some, cnd_not, cnd_if, Go.ByteArray.toList_eq, less_cb]
    by_cases h1 : a.fKind = b.fKind
    · rw [if_pos h1, if_pos h1]
      by_cases h2 : a.fNum = b.fNum
      · rw [if_pos h2, if_pos h2]
        by_cases h3 : cb a.fText.data.toList b.fText.data.toList < 0
        · rw [if_pos h3, if_pos h3]
        · rw [if_neg h3, if_neg h3]
          by_cases h4 : cb a.fText.data.toList b.fText.data.toList = 0
          · rw [if_pos h4, (cb_zero _ _).1 h4]
            simp [cnd_t]
          · rw [if_neg h4]
            have h5 : (a.fText.data.toList == b.fText.data.toList) = false := by
              cases hb : a.fText.data.toList == b.fText.data.toList with
              | false => rfl
              | true => exact absurd ((cb_zero _ _).2 (eq_of_beq hb)) h4
            rw [h5, decide_eq_false h3]
            simp [cnd_f]
      · rw [if_neg h2, if_neg h2]
        by_cases h3 : a.fNum < b.fNum
        · simp [h3, bnd_some]
        · by_cases h4 : b.fNum < a.fNum <;> simp [h3, h4, bnd_some]
    · rw [if_neg h1, if_neg h1]
      by_cases h3 : a.fKind < b.fKind
      · simp [h3, bnd_some]
      · by_cases h4 : b.fKind < a.fKind <;> simp [h3, h4, bnd_some]
  rw [key]
  have h1 := cb_one a.fText.data.toList b.fText.data.toList
  unfold vaCmp or3 cmpI
  congr 1
  repeat' split
  all_goals first | rfl | omega
theorem keysP_mem (v y : Va) : ∀ l : List Va, y ∈ keysP l v ↔ y = v ∨ y ∈ l
  | [] => by simp [keysP]
  | x :: r => by
    unfold keysP
    split
    · simp only [List.mem_cons, keysP_mem v y r]
      constructor
      · rintro (h | h | h) <;> simp [h]
      · rintro (h | h | h) <;> simp [h]
    · split
      · rename_i h
        subst h
        simp
      · simp
theorem keysP_len (v : Va) : ∀ l : List Va, (keysP l v).length ≤ l.length + 1
  | [] => by simp [keysP]
  | x :: r => by
    have := keysP_len v r
    unfold keysP
    split
    · simp; omega
    · split <;> simp
theorem keysP_asc (v : Va) : ∀ l : List Va, l.Pairwise (fun x y => vaCmp x y < 0) → (keysP l v).Pairwise (fun x y => vaCmp x y < 0)
  | [], _ => by simp [keysP]
  | x :: r, h => by
    have h' := List.pairwise_cons.1 h
    unfold keysP
    split
    · rename_i hc
      refine List.pairwise_cons.2 ⟨fun y hy => ?_, keysP_asc v r h'.2⟩
      rcases (keysP_mem v y r).1 hy with rfl | hy
      · exact hc
      · exact h'.1 y hy
    · rename_i hc
      split
      · exact h
      · rename_i hne
        have hlt : vaCmp v x < 0 := by
          rcases vaCmp_tri x v with h1 | h1 | h1
          · exact absurd h1 hc
          · exact absurd h1 hne
          · exact h1
        refine List.pairwise_cons.2 ⟨fun y hy => ?_, h⟩
        rcases List.mem_cons.1 hy with rfl | hy
        · exact hlt
        · exact vaCmp_trans hlt (h'.1 y hy)
def keysAll (ks : List Int) : List Va → List Ev → List Va
  | acc, [] => acc
  | acc, e :: r => keysAll ks (if kOk ks e = true then keysP acc (kVal ks e) else acc) r
theorem keysAll_props (ks : List Int) : ∀ (l : List Ev) (acc : List Va), acc.Pairwise (fun x y => vaCmp x y < 0) → (keysAll ks acc l).Pairwise (fun x y => vaCmp x y < 0) ∧ (∀ v, v ∈ keysAll ks acc l ↔ v ∈ acc ∨ ∃ e ∈ l, inK ks v e = true) ∧ (keysAll ks acc l).length ≤ acc.length + l.length
  | [], acc, h => ⟨h, fun v => by simp [keysAll], by simp [keysAll]⟩
  | e :: r, acc, h => by
    unfold keysAll
    by_cases hk : kOk ks e = true
    · rw [if_pos hk]
      obtain ⟨h1, h2, h3⟩ := keysAll_props ks r (keysP acc (kVal ks e)) (keysP_asc _ _ h)
      refine ⟨h1, fun v => ?_, by have := keysP_len (kVal ks e) acc; simp; omega⟩
      rw [h2, keysP_mem]
      simp only [List.mem_cons, exists_eq_or_imp, inK, hk, Bool.true_and, decide_eq_true_eq]
      constructor
      · rintro ((h | h) | h)
        · exact Or.inr (Or.inl h.symm)
        · exact Or.inl h
        · exact Or.inr (Or.inr h)
      · rintro (h | h | h)
        · exact Or.inl (Or.inr h)
        · exact Or.inl (Or.inl h.symm)
        · exact Or.inr h
    · rw [if_neg hk]
      obtain ⟨h1, h2, h3⟩ := keysAll_props ks r acc h
      refine ⟨h1, fun v => ?_, by simp; omega⟩
      rw [h2]
      simp only [List.mem_cons, exists_eq_or_imp]
      have : inK ks v e = false := by simp [inK, hk]
      rw [this]
      simp
theorem errF_drop (ks : List Int) {l : List Ev} {k : Nat} (h : k < l.length) : errF ks (l.drop k) = if kErr ks l[k] = 0 then errF ks (l.drop (k + 1)) else kErr ks l[k] := by rw [drop_eq_cons l k h]; rfl
def splitS (ks : List Int) (l : List Ev) : List Va × List (List Ev) × Int :=
  if strChk l ≠ 0 then ([], [], strChk l) else if errF ks l = 0 then (keysAll ks [] l, (keysAll ks [] l).map fun v => l.filter (inK ks v), 0) else ([], [], errF ks l)
def InvS (ks : List Int) (mp : List (Va × List Ev)) (keys : List Va) (p : List Ev) : Prop := (∀ v, rget mp v = p.filter (inK ks v)) ∧ keys.Nodup ∧ (∀ v, v ∈ keys ↔ ∃ e ∈ p, inK ks v e = true) ∧ keys.length ≤ p.length
theorem InvS.skip {ks : List Int} {mp : List (Va × List Ev)} {keys : List Va} {p : List Ev} (h : InvS ks mp keys p) {e : Ev} (he : kOk ks e = false) : InvS ks mp keys (p ++ [e]) := by
  have hin : ∀ v, inK ks v e = false := fun v => by simp [inK, he]
  refine ⟨fun v => by rw [h.1 v, List.filter_append, List.filter_cons, if_neg (by simp [hin])]; simp, h.2.1, fun v => ?_, by have := h.2.2.2; simp; omega⟩
  rw [h.2.2.1]
  simp [or_and_right, exists_or, hin]
theorem InvS.put {ks : List Int} {mp : List (Va × List Ev)} {keys : List Va} {p : List Ev} (h : InvS ks mp keys p) {e : Ev} (he : kOk ks e = true) {keys' : List Va} (hk : keys' = if (rget mp (kVal ks e)).length = 0 then keys ++ [kVal ks e] else keys) : InvS ks (mput mp (kVal ks e) (rget mp (kVal ks e) ++ [e])) keys' (p ++ [e]) := by
  have hin : ∀ v, inK ks v e = decide (kVal ks e = v) := fun v => by simp [inK, he]
  have hm : kVal ks e ∈ keys ↔ (rget mp (kVal ks e)).length ≠ 0 := by
    rw [h.2.2.1, h.1]
    constructor
    · rintro ⟨x, hx, hv⟩ h0
      have := List.eq_nil_of_length_eq_zero h0
      have hx' : x ∈ p.filter (inK ks (kVal ks e)) := List.mem_filter.2 ⟨hx, hv⟩
      rw [this] at hx'
      cases hx'
    · intro h0
      obtain ⟨x, hx⟩ := List.exists_mem_of_length_pos (Nat.pos_of_ne_zero h0)
      exact ⟨x, (List.mem_filter.1 hx).1, (List.mem_filter.1 hx).2⟩
  refine ⟨fun v => ?_, ?_, fun v => ?_, ?_⟩
  · rw [rget_mput, List.filter_append, List.filter_cons, hin]
    by_cases hv : v = kVal ks e
    · subst hv
      rw [if_pos rfl, if_pos (by simp), h.1]
      rfl
    · rw [if_neg hv, if_neg (by simp; exact fun e => hv e.symm), h.1]
      simp
  · subst hk
    split
    · rename_i h0
      refine List.nodup_append.2 ⟨h.2.1, by simp, fun x hx y hy => ?_⟩
      simp only [List.mem_singleton] at hy
      subst hy
      intro e
      subst e
      exact (hm.1 hx) h0
    · exact h.2.1
  · have hmem : v ∈ keys' ↔ v ∈ keys ∨ v = kVal ks e := by
      subst hk
      split
      · simp
      · rename_i h0
        constructor
        · exact Or.inl
        · rintro (h1 | rfl)
          · exact h1
          · exact hm.2 h0
    rw [hmem, h.2.2.1]
    simp only [List.mem_append, List.mem_singleton, or_and_right, exists_or, exists_eq_left, hin, decide_eq_true_eq]
    constructor
    · rintro (h1 | h1)
      · exact Or.inl h1
      · exact Or.inr h1.symm
    · rintro (h1 | h1)
      · exact Or.inl h1
      · exact Or.inr h1.symm
  · subst hk
    have := h.2.2.2
    split <;> simp <;> omega
theorem p_split_l1 (n : Nat) (ks : List Int) (l : List Ev) (hv : ∀ x ∈ l, fewV n x) (K : List (Va × List Ev) → List Va → Option (List Va × List (List Ev) × Int)) (r : Option (List Va × List (List Ev) × Int)) (hK : ∀ mp keys, InvS ks mp keys l → K mp keys = r) : ∀ (m k : Nat) (mp : List (Va × List Ev)) (keys : List Va), k ≤ l.length → l.length ≤ 100000 → l.length < m + k → InvS ks mp keys (l.take k) →
    F_stream_Split_l1 n ks l K m ((k : Int), mp, keys) = if errF ks (l.drop k) = 0 then r else some ([], [], errF ks (l.drop k))
  | 0, k, mp, keys, h1, h2, h3, _ => by omega
  | m + 1, k, mp, keys, h1, h2, h3, h4 => by
    unfold F_stream_Split_l1
    simp only [List.length_map, cnd_if]
    by_cases h : k < l.length
    · rw [if_pos (by omega), idx_nat h, wrapS k (by omega)]
      simp only [p_keyed, bnd_some, cnd_not, cnd_if, keyP_eq]
      rw [errF_drop ks h]
      by_cases he : kErr ks l[k] = 0
      · simp only [if_pos he]
        by_cases hk : kOk ks l[k] = true
        · have hfl : (rget mp (kVal ks l[k])).length ≤ k := by
            rw [h4.1]
            have := List.length_filter_le (inK ks (kVal ks l[k])) (l.take k)
            rw [List.length_take] at this
            omega
          have hlen := h4.2.2.2
          rw [List.length_take] at hlen
          have hn := h4.put hk rfl
          rw [← List.take_succ_eq_append_getElem h] at hn
          simp only [hk, cnd_t, lkn_eq, men_eq, mes_eq, p_copied n l[k] (hv _ (List.getElem_mem h)).2, bnd_some]
          by_cases h0 : (rget mp (kVal ks l[k])).length = 0
          · rw [if_pos h0] at hn
            rw [if_pos (by omega), app_ok (by simp; omega) (by omega), app_ok (by simp; omega) (by omega)]
            exact p_split_l1 n ks l hv K r hK m (k + 1) _ _ (by omega) h2 (by omega) hn
          · rw [if_neg h0] at hn
            rw [if_neg (by omega), app_ok (by simp; omega) (by omega)]
            exact p_split_l1 n ks l hv K r hK m (k + 1) _ _ (by omega) h2 (by omega) hn
        · have hk' : kOk ks l[k] = false := by simpa using hk
          simp only [hk', cnd_f]
          have hn := h4.skip hk'
          rw [← List.take_succ_eq_append_getElem h] at hn
          exact p_split_l1 n ks l hv K r hK m (k + 1) _ _ (by omega) h2 (by omega) hn
      · simp only [if_neg he]
    · rw [if_neg (by omega), List.drop_eq_nil_of_le (by omega)]
      rw [List.take_of_length_le (by omega)] at h4
      simp [errF, hK _ _ h4]
theorem p_split_l2 (n : Nat) (mp : List (Va × List Ev)) (all : List Va) (ha : all.length ≤ 100000) (K : List Va → List (List Ev) → Option (List Va × List (List Ev) × Int)) : ∀ (m k : Nat) (out : List (List Ev)), k ≤ all.length → all.length < m + k → out.length ≤ k →
    F_stream_Split_l2 n mp all K m ((k : Int), out) = K all (out ++ (all.drop k).map (rget mp))
  | 0, k, out, h1, h3, _ => by omega
  | m + 1, k, out, h1, h3, h4 => by
    unfold F_stream_Split_l2
    simp only [List.length_map, cnd_if]
    by_cases h : k < all.length
    · rw [if_pos (by omega), wrapS k (by omega), nat_nat h, elt_ok h]
      simp only [reg_eq, mgt_eq]
      rw [app_ok (by simp; omega) (by omega), p_split_l2 n mp all ha K m (k + 1) _ (by omega) (by omega) (by simp; omega), drop_eq_cons all k h, List.map_cons, List.append_assoc]
      rfl
    · rw [if_neg (by omega), List.drop_eq_nil_of_le (by omega)]; simp
theorem sortVa_eq {keys all : List Va} (hn : keys.Nodup) (hs : all.Pairwise (fun x y => vaCmp x y < 0)) (hm : ∀ v, v ∈ keys ↔ v ∈ all) : sortF vaCmp keys = all := by
  have hna : all.Nodup := hs.imp (fun {a b} h e => by subst e; exact vaCmp_irr a h)
  have hp : (sortF vaCmp keys).Perm all := (sortF_perm vaCmp keys).trans ((List.perm_ext_iff_of_nodup hn hna).2 hm)
  have hs' : all.Pairwise (fun x y => ltOf vaCmp y x = false) := hs.imp (fun {a b} h => decide_eq_false (fun h' => vaCmp_irr a (vaCmp_trans h h')))
  exact List.Perm.eq_of_pairwise (le := fun x y => ltOf vaCmp y x = false) (fun a b ha hb h1 h2 => vaCmp_ties [a, b] a (by simp) b (by simp) h2 h1) (sortF_sorted vaCmp_swo keys) hs' hp
theorem p_split (n : Nat) (ks : List Int) (l : List Ev) (hv : ∀ x ∈ l, fewV n x) (hn : l.length < n) (h2 : l.length ≤ 100000) : F_stream_Split n l ks = some (splitS ks l) := by
  unfold F_stream_Split splitS
  simp only [p_chk n l hn (by omega), bnd_some, cnd_not, cnd_if]
  by_cases h : strChk l = 0
  · rw [if_pos h, if_neg (by simp [h])]
    obtain ⟨q1, q2, q3⟩ := keysAll_props ks l [] .nil
    simp only [List.length_nil, Nat.zero_add] at q3
    have h1 := p_split_l1 n ks l hv (fun k1_0_0y0 k1_0_0y1 => bndC (F_sort vaCmp n k1_0_0y1) fun x44 => F_stream_Split_l2 n k1_0_0y0 x44 (fun k2_1_0y0 k2_1_0y1 => some (k2_1_0y0, k2_1_0y1, 0)) n (0, [])) (some (keysAll ks [] l, (keysAll ks [] l).map fun v => l.filter (inK ks v), 0)) (fun mp keys hi => ?_) n 0 [] [] (by omega) h2 (by omega) ⟨fun v => by simp [rget, mlk], .nil, fun v => by simp, by simp⟩
    · simp only [List.drop_zero] at h1
      refine h1.trans ?_
      split <;> rfl
    · have hs : sortF vaCmp keys = keysAll ks [] l := sortVa_eq hi.2.1 q1 (fun v => by rw [hi.2.2.1, q2]; simp)
      have hf : F_sort vaCmp n keys = some (keysAll ks [] l) := by
        unfold F_sort
        rw [if_pos ⟨by have := hi.2.2.2; omega, vaCmp_ties keys⟩, hs]
      rw [hf, bndC_some]
      have h3 := p_split_l2 n mp (keysAll ks [] l) (by omega) (fun k2_1_0y0 k2_1_0y1 => some (k2_1_0y0, k2_1_0y1, 0)) n 0 [] (by omega) (by omega) (by simp)
      simp only [List.drop_zero, List.nil_append] at h3
      refine h3.trans ?_
      congr 3
      exact List.map_congr_left (fun v _ => hi.1 v)
  · rw [if_neg h, if_pos h]
end Go.Proofs.Ytkbopbgcjfcjjaa
namespace Go.Proofs.Ytkbopbgcjfcjjaa
open Go.RowKit
def R_tidegateref05_Placed (r : Bool) : AV := .bool (r)
theorem con_tidegateref05_Placed {n : Nat} {a0 : T_api_Event} {r : Bool} (hF : F_tidegateref05_Placed n a0 = some r) : Con E0 true 30 [.agg [aI (a0.fSource), aI (a0.fSeq), aI (a0.fType), aI (a0.fTime), .sl 3 (List.map e_api_Value (a0.fValues))]] (R_tidegateref05_Placed r) := by
  unfold F_tidegateref05_Placed at hF
  refine Con.walk _ Try.func30 rfl (enters_of Try.func30 rfl rfl) rfl (Or.inr rfl) ?_
  repeat' first
    | (refine AW.step ?_; conv => whnf)
    | (refine CondX.o hF (fun hF => ?_) (fun hF => ?_))
    | (refine CondX.t ?_)
    | (refine CondX.f ?_)
    | (refine And.intro ⟨by kernel_rfl, by kernel_rfl⟩ ?_)
    | (refine EqX.mk (by first | rfl | kernel_rfl) ?_)
    | (exact RetX.o hF (by repeat' first | exact Sub.nil _ | exact Sub.refl _ | refine Sub.agg ?_ | refine Sub.tup ?_ | refine Sub.fn ?_ | exact SubL.nil | refine SubL.cons ?_ ?_ | refine Sub.sl _ ?_ | exact SubE.nil | refine SubE.cons ?_ ?_))

def R_tidegateref05_Ref (r : T_api_Ref) : AV := .agg [aI (r.fTime), aI (r.fSource), aI (r.fSeq)]
theorem con_tidegateref05_Ref {n : Nat} {a0 : T_api_Event} {r : T_api_Ref} (hF : F_tidegateref05_Ref n a0 = some r) : Con E0 true 32 [.agg [aI (a0.fSource), aI (a0.fSeq), aI (a0.fType), aI (a0.fTime), .sl 3 (List.map e_api_Value (a0.fValues))]] (R_tidegateref05_Ref r) := by
  unfold F_tidegateref05_Ref at hF
  refine Con.walk _ Try.func32 rfl (enters_of Try.func32 rfl rfl) rfl (Or.inr rfl) ?_
  repeat' first
    | (refine AW.step ?_; conv => whnf)
    | (refine CondX.o hF (fun hF => ?_) (fun hF => ?_))
    | (refine CondX.t ?_)
    | (refine CondX.f ?_)
    | (refine And.intro ⟨by kernel_rfl, by kernel_rfl⟩ ?_)
    | (refine EqX.mk (by first | rfl | kernel_rfl) ?_)
    | (exact RetX.o hF (by repeat' first | exact Sub.nil _ | exact Sub.refl _ | refine Sub.agg ?_ | refine Sub.tup ?_ | refine Sub.fn ?_ | exact SubL.nil | refine SubL.cons ?_ ?_ | refine Sub.sl _ ?_ | exact SubE.nil | refine SubE.cons ?_ ?_))

def R_tidegateref05_Order (r : Int) : AV := aI (r)
theorem con_tidegateref05_Order {n : Nat} {a0 : T_api_Ref} {a1 : T_api_Ref} {r : Int} (hF : F_tidegateref05_Order n a0 a1 = some r) : Con E0 true 31 [.agg [aI (a0.fTime), aI (a0.fSource), aI (a0.fSeq)], .agg [aI (a1.fTime), aI (a1.fSource), aI (a1.fSeq)]] (R_tidegateref05_Order r) := by
  unfold F_tidegateref05_Order at hF
  refine Con.walk _ Try.func31 rfl (enters_of Try.func31 rfl rfl) rfl (Or.inr rfl) ?_
  repeat' first
    | (refine AW.step ?_; conv => whnf)
    | (refine CondX.o hF (fun hF => ?_) (fun hF => ?_))
    | (refine CondX.t ?_)
    | (refine CondX.f ?_)
    | (refine And.intro ⟨by kernel_rfl, by kernel_rfl⟩ ?_)
    | (refine EqX.mk (by first | rfl | kernel_rfl) ?_)
    | (exact RetX.o hF (by repeat' first | exact Sub.nil _ | exact Sub.refl _ | refine Sub.agg ?_ | refine Sub.tup ?_ | refine Sub.fn ?_ | exact SubL.nil | refine SubL.cons ?_ ?_ | refine Sub.sl _ ?_ | exact SubE.nil | refine SubE.cons ?_ ?_))

def R_tidegateref05_Twin (r : Bool) : AV := .bool (r)
theorem con_tidegateref05_Twin {n : Nat} {a0 : T_api_Event} {a1 : T_api_Event} {r : Bool} (hF : F_tidegateref05_Twin n a0 a1 = some r) : Con E0 true 33 [.agg [aI (a0.fSource), aI (a0.fSeq), aI (a0.fType), aI (a0.fTime), .sl 3 (List.map e_api_Value (a0.fValues))], .agg [aI (a1.fSource), aI (a1.fSeq), aI (a1.fType), aI (a1.fTime), .sl 3 (List.map e_api_Value (a1.fValues))]] (R_tidegateref05_Twin r) := by
  unfold F_tidegateref05_Twin at hF
  refine Con.walk _ Try.func33 rfl (enters_of Try.func33 rfl rfl) rfl (Or.inr rfl) ?_
  repeat' first
    | (refine AW.step ?_; conv => whnf)
    | (refine CondX.o hF (fun hF => ?_) (fun hF => ?_))
    | (refine CondX.t ?_)
    | (refine CondX.f ?_)
    | (refine And.intro ⟨by kernel_rfl, by kernel_rfl⟩ ?_)
    | (refine EqX.mk (by first | rfl | kernel_rfl) ?_)
    | (exact RetX.o hF (by repeat' first | exact Sub.nil _ | exact Sub.refl _ | refine Sub.agg ?_ | refine Sub.tup ?_ | refine Sub.fn ?_ | exact SubL.nil | refine SubL.cons ?_ ?_ | refine Sub.sl _ ?_ | exact SubE.nil | refine SubE.cons ?_ ?_))

def S_tidegateref05_Check_l2 (a0 : (List T_api_Event)) (v1_0 : Int) (v2_1 : Int) : AS := ⟨[(0, .sl 5 (List.map e_api_Event (a0))), (3, aI (v1_0)), (4, aI (v2_1))], []⟩
theorem tidegateref05_Check_l2_o {n N : Nat} {a0 : (List T_api_Event)} {v1_0 : Int} {k2_1_0 : Option (Int)} {R : Exit → AS → Prop} {K : List KItem} {c : Code} {σ : AS} {v0 : Int} {r : Int} (hF : F_tidegateref05_Check_l2 n a0 v1_0 k2_1_0 N v0 = some r) (hl : LeX E0 51 σ (S_tidegateref05_Check_l2 a0 v1_0 v0)) (round : ∀ m v, F_tidegateref05_Check_l2 n a0 v1_0 k2_1_0 (m + 1) v = some r → AW E0 51 (thenA (fun σ' => ∃ v', F_tidegateref05_Check_l2 n a0 v1_0 k2_1_0 m v' = some r ∧ LeX E0 51 σ' (S_tidegateref05_Check_l2 a0 v1_0 v')) (AW E0 51 R K)) [.code c] .normal (S_tidegateref05_Check_l2 a0 v1_0 v)) : LoopX E0 51 (fun next σ' => AW E0 51 (thenA next (AW E0 51 R K)) [.code c] .normal σ') σ :=
  LoopA.o (S := S_tidegateref05_Check_l2 a0 v1_0) hF (fun _ => rfl) hl round
def S_tidegateref05_Check_l3 (a0 : (List T_api_Event)) (v1_0 : Int) (v3_2 : Int) : AS := ⟨[(0, .sl 5 (List.map e_api_Event (a0))), (3, aI (v1_0)), (4, aI (v3_2))], []⟩
theorem tidegateref05_Check_l3_o {n N : Nat} {a0 : (List T_api_Event)} {v1_0 : Int} {k3_2_0 : Option (Int)} {R : Exit → AS → Prop} {K : List KItem} {c : Code} {σ : AS} {v0 : Int} {r : Int} (hF : F_tidegateref05_Check_l3 n a0 v1_0 k3_2_0 N v0 = some r) (hl : LeX E0 51 σ (S_tidegateref05_Check_l3 a0 v1_0 v0)) (round : ∀ m v, F_tidegateref05_Check_l3 n a0 v1_0 k3_2_0 (m + 1) v = some r → AW E0 51 (thenA (fun σ' => ∃ v', F_tidegateref05_Check_l3 n a0 v1_0 k3_2_0 m v' = some r ∧ LeX E0 51 σ' (S_tidegateref05_Check_l3 a0 v1_0 v')) (AW E0 51 R K)) [.code c] .normal (S_tidegateref05_Check_l3 a0 v1_0 v)) : LoopX E0 51 (fun next σ' => AW E0 51 (thenA next (AW E0 51 R K)) [.code c] .normal σ') σ :=
  LoopA.o (S := S_tidegateref05_Check_l3 a0 v1_0) hF (fun _ => rfl) hl round
def S_tidegateref05_Check_l1 (a0 : (List T_api_Event)) (v1_0 : Int) : AS := ⟨[(0, .sl 5 (List.map e_api_Event (a0))), (3, aI (v1_0))], []⟩
theorem tidegateref05_Check_l1_o {n N : Nat} {a0 : (List T_api_Event)} {k1_0_0 : Option (Int)} {R : Exit → AS → Prop} {K : List KItem} {c : Code} {σ : AS} {v0 : Int} {r : Int} (hF : F_tidegateref05_Check_l1 n a0 k1_0_0 N v0 = some r) (hl : LeX E0 51 σ (S_tidegateref05_Check_l1 a0 v0)) (round : ∀ m v, F_tidegateref05_Check_l1 n a0 k1_0_0 (m + 1) v = some r → AW E0 51 (thenA (fun σ' => ∃ v', F_tidegateref05_Check_l1 n a0 k1_0_0 m v' = some r ∧ LeX E0 51 σ' (S_tidegateref05_Check_l1 a0 v')) (AW E0 51 R K)) [.code c] .normal (S_tidegateref05_Check_l1 a0 v)) : LoopX E0 51 (fun next σ' => AW E0 51 (thenA next (AW E0 51 R K)) [.code c] .normal σ') σ :=
  LoopA.o (S := S_tidegateref05_Check_l1 a0) hF (fun _ => rfl) hl round
def R_tidegateref05_Check (r : Int) : AV := aI (r)
theorem con_tidegateref05_Check {n : Nat} {a0 : (List T_api_Event)} {r : Int} (hF : F_tidegateref05_Check n a0 = some r) : Con E0 true 11 [.sl 5 (List.map e_api_Event (a0))] (R_tidegateref05_Check r) := by
  unfold F_tidegateref05_Check at hF
  refine Con.walk _ Try.func11 rfl (enters_of Try.func11 rfl rfl) rfl (Or.inr rfl) ?_
  repeat' first
    | (refine AW.step ?_; conv => whnf)
    | (refine CondX.o hF (fun hF => ?_) (fun hF => ?_))
    | (refine CondX.t ?_)
    | (refine CondX.f ?_)
    | (refine IdxX.o e_api_Event hF (fun x hF => ?_))
    | (refine CallX.o hF R_tidegateref05_Placed (fun a h => con_tidegateref05_Placed h) (fun a hF => ?_))
    | (refine CallX.o hF R_tidegateref05_Ref (fun a h => con_tidegateref05_Ref h) (fun a hF => ?_))
    | (refine CallX.o hF R_tidegateref05_Order (fun a h => con_tidegateref05_Order h) (fun a hF => ?_))
    | (exact ⟨_, hF, LeX.of [] rfl ⟨⟨rfl, rfl⟩, ⟨rfl, rfl⟩, trivial⟩ trivial⟩)
    | (refine CallX.o hF R_tidegateref05_Twin (fun a h => con_tidegateref05_Twin h) (fun a hF => ?_))
    | (exact ⟨_, hF, LeX.of [] rfl ⟨⟨rfl, rfl⟩, ⟨rfl, rfl⟩, ⟨rfl, rfl⟩, trivial⟩ trivial⟩)
    | (refine tidegateref05_Check_l2_o hF (LeX.of [] rfl ⟨⟨rfl, rfl⟩, ⟨rfl, rfl⟩, ⟨rfl, rfl⟩, trivial⟩ trivial) (fun m v hF => ?_); unfold F_tidegateref05_Check_l2 at hF)
    | (refine tidegateref05_Check_l3_o hF (LeX.of [] rfl ⟨⟨rfl, rfl⟩, ⟨rfl, rfl⟩, ⟨rfl, rfl⟩, trivial⟩ trivial) (fun m v hF => ?_); unfold F_tidegateref05_Check_l3 at hF)
    | (refine tidegateref05_Check_l1_o hF (LeX.of [] rfl ⟨⟨rfl, rfl⟩, ⟨rfl, rfl⟩, trivial⟩ trivial) (fun m v hF => ?_); unfold F_tidegateref05_Check_l1 at hF)
    | (refine And.intro ⟨by kernel_rfl, by kernel_rfl⟩ ?_)
    | (refine EqX.mk (by first | rfl | kernel_rfl) ?_)
    | (exact RetX.o hF (by repeat' first | exact Sub.nil _ | exact Sub.refl _ | refine Sub.agg ?_ | refine Sub.tup ?_ | refine Sub.fn ?_ | exact SubL.nil | refine SubL.cons ?_ ?_ | refine Sub.sl _ ?_ | exact SubE.nil | refine SubE.cons ?_ ?_))

def R_tidegateref05_Key (r : T_api_Value × Bool × Int) : AV := .tup [.agg [aI (r.1.fKind), aI (r.1.fNum), .str (r.1.fText)], .bool (r.2.1), aI (r.2.2)]
theorem con_tidegateref05_Key {n : Nat} {a0 : T_api_Event} {a1 : (List Int)} {r : T_api_Value × Bool × Int} (hF : F_tidegateref05_Key n a0 a1 = some r) : Con E0 true 13 [.agg [aI (a0.fSource), aI (a0.fSeq), aI (a0.fType), aI (a0.fTime), .sl 3 (List.map e_api_Value (a0.fValues))], .sl 1 (List.map aI (a1))] (R_tidegateref05_Key r) := by
  unfold F_tidegateref05_Key at hF
  refine Con.walk _ Try.func13 rfl (enters_of Try.func13 rfl rfl) rfl (Or.inr rfl) ?_
  repeat' first
    | (refine AW.step ?_; conv => whnf)
    | (refine CondX.o hF (fun hF => ?_) (fun hF => ?_))
    | (refine CondX.t ?_)
    | (refine CondX.f ?_)
    | (refine IdxX.o aI hF (fun x hF => ?_))
    | (refine IdxX.o e_api_Value hF (fun x hF => ?_))
    | (refine And.intro ⟨by kernel_rfl, by kernel_rfl⟩ ?_)
    | (refine EqX.mk (by first | rfl | kernel_rfl) ?_)
    | (exact RetX.o hF (by repeat' first | exact Sub.nil _ | exact Sub.refl _ | refine Sub.agg ?_ | refine Sub.tup ?_ | refine Sub.fn ?_ | exact SubL.nil | refine SubL.cons ?_ ?_ | refine Sub.sl _ ?_ | exact SubE.nil | refine SubE.cons ?_ ?_))

def R_tidegateref01_order (r : Int) : AV := aI (r)
theorem con_tidegateref01_order {n : Nat} {a0 : Int} {a1 : Int} {r : Int} (hF : F_tidegateref01_order n a0 a1 = some r) : Con E0 true 34 [aI (a0), aI (a1)] (R_tidegateref01_order r) := by
  unfold F_tidegateref01_order at hF
  refine Con.walk _ Try.func34 rfl (enters_of Try.func34 rfl rfl) rfl (Or.inr rfl) ?_
  repeat' first
    | (refine AW.step ?_; conv => whnf)
    | (refine CondX.o hF (fun hF => ?_) (fun hF => ?_))
    | (refine CondX.t ?_)
    | (refine CondX.f ?_)
    | (refine And.intro ⟨by kernel_rfl, by kernel_rfl⟩ ?_)
    | (refine EqX.mk (by first | rfl | kernel_rfl) ?_)
    | (exact RetX.o hF (by repeat' first | exact Sub.nil _ | exact Sub.refl _ | refine Sub.agg ?_ | refine Sub.tup ?_ | refine Sub.fn ?_ | exact SubL.nil | refine SubL.cons ?_ ?_ | refine Sub.sl _ ?_ | exact SubE.nil | refine SubE.cons ?_ ?_))

def R_tidegateref01_Compare (r : Int) : AV := aI (r)
theorem con_tidegateref01_Compare {n : Nat} {a0 : T_api_Value} {a1 : T_api_Value} {r : Int} (hF : F_tidegateref01_Compare n a0 a1 = some r) : Con E0 true 12 [.agg [aI (a0.fKind), aI (a0.fNum), .str (a0.fText)], .agg [aI (a1.fKind), aI (a1.fNum), .str (a1.fText)]] (R_tidegateref01_Compare r) := by
  unfold F_tidegateref01_Compare at hF
  refine Con.walk _ Try.func12 rfl (enters_of Try.func12 rfl rfl) rfl (Or.inr rfl) ?_
  repeat' first
    | (refine AW.step ?_; conv => whnf)
    | (refine CondX.o hF (fun hF => ?_) (fun hF => ?_))
    | (refine CondX.t ?_)
    | (refine CondX.f ?_)
    | (refine CallX.o hF R_tidegateref01_order (fun a h => con_tidegateref01_order h) (fun a hF => ?_))
    | (refine And.intro ⟨by kernel_rfl, by kernel_rfl⟩ ?_)
    | (refine EqX.mk (by first | rfl | kernel_rfl) ?_)
    | (exact RetX.o hF (by repeat' first | exact Sub.nil _ | exact Sub.refl _ | refine Sub.agg ?_ | refine Sub.tup ?_ | refine Sub.fn ?_ | exact SubL.nil | refine SubL.cons ?_ ?_ | refine Sub.sl _ ?_ | exact SubE.nil | refine SubE.cons ?_ ?_))

def S_tidegateref01_Same_l1 (a1 : (List T_api_Value)) (a0 : (List T_api_Value)) (v1_0 : Int) : AS := ⟨[(0, .sl 3 (List.map e_api_Value (a0))), (1, .sl 3 (List.map e_api_Value (a1))), (5, aI (v1_0))], []⟩
theorem tidegateref01_Same_l1_o {n N : Nat} {a1 : (List T_api_Value)} {a0 : (List T_api_Value)} {k1_0_0 : Option (Bool)} {R : Exit → AS → Prop} {K : List KItem} {c : Code} {σ : AS} {v0 : Int} {r : Bool} (hF : F_tidegateref01_Same_l1 n a1 a0 k1_0_0 N v0 = some r) (hl : LeX E0 26 σ (S_tidegateref01_Same_l1 a1 a0 v0)) (round : ∀ m v, F_tidegateref01_Same_l1 n a1 a0 k1_0_0 (m + 1) v = some r → AW E0 26 (thenA (fun σ' => ∃ v', F_tidegateref01_Same_l1 n a1 a0 k1_0_0 m v' = some r ∧ LeX E0 26 σ' (S_tidegateref01_Same_l1 a1 a0 v')) (AW E0 26 R K)) [.code c] .normal (S_tidegateref01_Same_l1 a1 a0 v)) : LoopX E0 26 (fun next σ' => AW E0 26 (thenA next (AW E0 26 R K)) [.code c] .normal σ') σ :=
  LoopA.o (S := S_tidegateref01_Same_l1 a1 a0) hF (fun _ => rfl) hl round
def R_tidegateref01_Same (r : Bool) : AV := .bool (r)
theorem con_tidegateref01_Same {n : Nat} {a0 : (List T_api_Value)} {a1 : (List T_api_Value)} {r : Bool} (hF : F_tidegateref01_Same n a0 a1 = some r) : Con E0 true 9 [.sl 3 (List.map e_api_Value (a0)), .sl 3 (List.map e_api_Value (a1))] (R_tidegateref01_Same r) := by
  unfold F_tidegateref01_Same at hF
  refine Con.walk _ Try.func9 rfl (enters_of Try.func9 rfl rfl) rfl (Or.inr rfl) ?_
  repeat' first
    | (refine AW.step ?_; conv => whnf)
    | (refine CondX.o hF (fun hF => ?_) (fun hF => ?_))
    | (refine CondX.t ?_)
    | (refine CondX.f ?_)
    | (refine IdxX.o e_api_Value hF (fun x hF => ?_))
    | (exact ⟨_, hF, LeX.of [] rfl ⟨⟨rfl, rfl⟩, ⟨rfl, rfl⟩, ⟨rfl, rfl⟩, trivial⟩ trivial⟩)
    | (refine tidegateref01_Same_l1_o hF (LeX.of [] rfl ⟨⟨rfl, rfl⟩, ⟨rfl, rfl⟩, ⟨rfl, rfl⟩, trivial⟩ trivial) (fun m v hF => ?_); unfold F_tidegateref01_Same_l1 at hF)
    | (refine And.intro ⟨by kernel_rfl, by kernel_rfl⟩ ?_)
    | (refine EqX.mk (by first | rfl | kernel_rfl) ?_)
    | (exact RetX.o hF (by repeat' first | exact Sub.nil _ | exact Sub.refl _ | refine Sub.agg ?_ | refine Sub.tup ?_ | refine Sub.fn ?_ | exact SubL.nil | refine SubL.cons ?_ ?_ | refine Sub.sl _ ?_ | exact SubE.nil | refine SubE.cons ?_ ?_))

def R_tidegateref05_Equal (r : Bool) : AV := .bool (r)
theorem con_tidegateref05_Equal {n : Nat} {a0 : T_api_Event} {a1 : T_api_Event} {r : Bool} (hF : F_tidegateref05_Equal n a0 a1 = some r) : Con E0 true 38 [.agg [aI (a0.fSource), aI (a0.fSeq), aI (a0.fType), aI (a0.fTime), .sl 3 (List.map e_api_Value (a0.fValues))], .agg [aI (a1.fSource), aI (a1.fSeq), aI (a1.fType), aI (a1.fTime), .sl 3 (List.map e_api_Value (a1.fValues))]] (R_tidegateref05_Equal r) := by
  unfold F_tidegateref05_Equal at hF
  refine Con.walk _ Try.func38 rfl (enters_of Try.func38 rfl rfl) rfl (Or.inr rfl) ?_
  repeat' first
    | (refine AW.step ?_; conv => whnf)
    | (refine CondX.o hF (fun hF => ?_) (fun hF => ?_))
    | (refine CondX.t ?_)
    | (refine CondX.f ?_)
    | (refine CallX.o hF R_tidegateref05_Ref (fun a h => con_tidegateref05_Ref h) (fun a hF => ?_))
    | (refine CallX.o hF R_tidegateref01_Same (fun a h => con_tidegateref01_Same h) (fun a hF => ?_))
    | (refine And.intro ⟨by kernel_rfl, by kernel_rfl⟩ ?_)
    | (refine EqX.mk (by first | rfl | kernel_rfl) ?_)
    | (exact RetX.o hF (by repeat' first | exact Sub.nil _ | exact Sub.refl _ | refine Sub.agg ?_ | refine Sub.tup ?_ | refine Sub.fn ?_ | exact SubL.nil | refine SubL.cons ?_ ?_ | refine Sub.sl _ ?_ | exact SubE.nil | refine SubE.cons ?_ ?_))

def S_tidegateref05_Same_l1 (a1 : (List T_api_Event)) (a0 : (List T_api_Event)) (v1_0 : Int) : AS := ⟨[(0, .sl 5 (List.map e_api_Event (a0))), (1, .sl 5 (List.map e_api_Event (a1))), (5, aI (v1_0))], []⟩
theorem tidegateref05_Same_l1_o {n N : Nat} {a1 : (List T_api_Event)} {a0 : (List T_api_Event)} {k1_0_0 : Option (Bool)} {R : Exit → AS → Prop} {K : List KItem} {c : Code} {σ : AS} {v0 : Int} {r : Bool} (hF : F_tidegateref05_Same_l1 n a1 a0 k1_0_0 N v0 = some r) (hl : LeX E0 27 σ (S_tidegateref05_Same_l1 a1 a0 v0)) (round : ∀ m v, F_tidegateref05_Same_l1 n a1 a0 k1_0_0 (m + 1) v = some r → AW E0 27 (thenA (fun σ' => ∃ v', F_tidegateref05_Same_l1 n a1 a0 k1_0_0 m v' = some r ∧ LeX E0 27 σ' (S_tidegateref05_Same_l1 a1 a0 v')) (AW E0 27 R K)) [.code c] .normal (S_tidegateref05_Same_l1 a1 a0 v)) : LoopX E0 27 (fun next σ' => AW E0 27 (thenA next (AW E0 27 R K)) [.code c] .normal σ') σ :=
  LoopA.o (S := S_tidegateref05_Same_l1 a1 a0) hF (fun _ => rfl) hl round
def R_tidegateref05_Same (r : Bool) : AV := .bool (r)
theorem con_tidegateref05_Same {n : Nat} {a0 : (List T_api_Event)} {a1 : (List T_api_Event)} {r : Bool} (hF : F_tidegateref05_Same n a0 a1 = some r) : Con E0 true 18 [.sl 5 (List.map e_api_Event (a0)), .sl 5 (List.map e_api_Event (a1))] (R_tidegateref05_Same r) := by
  unfold F_tidegateref05_Same at hF
  refine Con.walk _ Try.func18 rfl (enters_of Try.func18 rfl rfl) rfl (Or.inr rfl) ?_
  repeat' first
    | (refine AW.step ?_; conv => whnf)
    | (refine CondX.o hF (fun hF => ?_) (fun hF => ?_))
    | (refine CondX.t ?_)
    | (refine CondX.f ?_)
    | (refine IdxX.o e_api_Event hF (fun x hF => ?_))
    | (refine CallX.o hF R_tidegateref05_Equal (fun a h => con_tidegateref05_Equal h) (fun a hF => ?_))
    | (exact ⟨_, hF, LeX.of [] rfl ⟨⟨rfl, rfl⟩, ⟨rfl, rfl⟩, ⟨rfl, rfl⟩, trivial⟩ trivial⟩)
    | (refine tidegateref05_Same_l1_o hF (LeX.of [] rfl ⟨⟨rfl, rfl⟩, ⟨rfl, rfl⟩, ⟨rfl, rfl⟩, trivial⟩ trivial) (fun m v hF => ?_); unfold F_tidegateref05_Same_l1 at hF)
    | (refine And.intro ⟨by kernel_rfl, by kernel_rfl⟩ ?_)
    | (refine EqX.mk (by first | rfl | kernel_rfl) ?_)
    | (exact RetX.o hF (by repeat' first | exact Sub.nil _ | exact Sub.refl _ | refine Sub.agg ?_ | refine Sub.tup ?_ | refine Sub.fn ?_ | exact SubL.nil | refine SubL.cons ?_ ?_ | refine Sub.sl _ ?_ | exact SubE.nil | refine SubE.cons ?_ ?_))

def R_stream_placed (r : Bool) : AV := .bool (r)
theorem con_stream_placed {n : Nat} {a0 : T_api_Event} {r : Bool} (hF : F_stream_placed n a0 = some r) : Con E0 true 43 [.agg [aI (a0.fSource), aI (a0.fSeq), aI (a0.fType), aI (a0.fTime), .sl 3 (List.map e_api_Value (a0.fValues))]] (R_stream_placed r) := by
  unfold F_stream_placed at hF
  refine Con.walk _ Try.func43 rfl (enters_of Try.func43 rfl rfl) rfl (Or.inr rfl) ?_
  repeat' first
    | (refine AW.step ?_; conv => whnf)
    | (refine CondX.o hF (fun hF => ?_) (fun hF => ?_))
    | (refine CondX.t ?_)
    | (refine CondX.f ?_)
    | (refine And.intro ⟨by kernel_rfl, by kernel_rfl⟩ ?_)
    | (refine EqX.mk (by first | rfl | kernel_rfl) ?_)
    | (exact RetX.o hF (by repeat' first | exact Sub.nil _ | exact Sub.refl _ | refine Sub.agg ?_ | refine Sub.tup ?_ | refine Sub.fn ?_ | exact SubL.nil | refine SubL.cons ?_ ?_ | refine Sub.sl _ ?_ | exact SubE.nil | refine SubE.cons ?_ ?_))

def R_stream_of (r : T_stream_identity) : AV := .agg [aI (r.fsource), aI (r.fseq)]
theorem con_stream_of {n : Nat} {a0 : T_api_Event} {r : T_stream_identity} (hF : F_stream_of n a0 = some r) : Con E0 true 44 [.agg [aI (a0.fSource), aI (a0.fSeq), aI (a0.fType), aI (a0.fTime), .sl 3 (List.map e_api_Value (a0.fValues))]] (R_stream_of r) := by
  unfold F_stream_of at hF
  refine Con.walk _ Try.func44 rfl (enters_of Try.func44 rfl rfl) rfl (Or.inr rfl) ?_
  repeat' first
    | (refine AW.step ?_; conv => whnf)
    | (refine CondX.o hF (fun hF => ?_) (fun hF => ?_))
    | (refine CondX.t ?_)
    | (refine CondX.f ?_)
    | (refine And.intro ⟨by kernel_rfl, by kernel_rfl⟩ ?_)
    | (refine EqX.mk (by first | rfl | kernel_rfl) ?_)
    | (exact RetX.o hF (by repeat' first | exact Sub.nil _ | exact Sub.refl _ | refine Sub.agg ?_ | refine Sub.tup ?_ | refine Sub.fn ?_ | exact SubL.nil | refine SubL.cons ?_ ?_ | refine Sub.sl _ ?_ | exact SubE.nil | refine SubE.cons ?_ ?_))

theorem eqK_80 (a b : T_stream_identity) : eqK (e_stream_identity a) (e_stream_identity b) = some (decide (a = b)) := by cases a; cases b; simp [e_stream_identity, eqK, eqL, eq1, aI, bytes_dec]
def S_stream_Check_l1 (a0 : (List T_api_Event)) (v1_0 : Int × (List (T_stream_identity × Bool))) : AS := ⟨[(0, .sl 5 (List.map e_api_Event (a0))), (3, .row 9), (10, .sl 5 (List.map e_api_Event (a0))), (11, aI ((((List.map e_api_Event (a0)).length : Nat) : Int))), (12, aI (v1_0.1))], [(9, .mp (List.map (encM e_stream_identity AV.bool) (v1_0.2)))]⟩
theorem stream_Check_l1_o {n N : Nat} {a0 : (List T_api_Event)} {k1_0_0 : Option (Int)} {R : Exit → AS → Prop} {K : List KItem} {c : Code} {σ : AS} {v0 : Int × (List (T_stream_identity × Bool))} {r : Int} (hF : F_stream_Check_l1 n a0 k1_0_0 N v0 = some r) (hl : LeX E0 43 σ (S_stream_Check_l1 a0 v0)) (round : ∀ m v, F_stream_Check_l1 n a0 k1_0_0 (m + 1) v = some r → AW E0 43 (thenA (fun σ' => ∃ v', F_stream_Check_l1 n a0 k1_0_0 m v' = some r ∧ LeX E0 43 σ' (S_stream_Check_l1 a0 v')) (AW E0 43 R K)) [.code c] .normal (S_stream_Check_l1 a0 v)) : LoopX E0 43 (fun next σ' => AW E0 43 (thenA next (AW E0 43 R K)) [.code c] .normal σ') σ :=
  LoopA.o (S := S_stream_Check_l1 a0) hF (fun _ => rfl) hl round
def R_stream_Check (r : Int) : AV := aI (r)
theorem con_stream_Check {n : Nat} {a0 : (List T_api_Event)} {r : Int} (hF : F_stream_Check n a0 = some r) : Con E0 true 24 [.sl 5 (List.map e_api_Event (a0))] (R_stream_Check r) := by
  unfold F_stream_Check at hF
  refine Con.walk _ Try.func24 rfl (enters_of Try.func24 rfl rfl) rfl (Or.inr rfl) ?_
  repeat' first
    | (refine AW.step ?_; conv => whnf)
    | (refine CondX.o hF (fun hF => ?_) (fun hF => ?_))
    | (refine CondX.t ?_)
    | (refine CondX.f ?_)
    | (refine IdxX.o e_api_Event hF (fun x hF => ?_))
    | (refine CallX.o hF R_stream_placed (fun a h => con_stream_placed h) (fun a hF => ?_))
    | (refine CallX.o hF R_event_Compare_d (fun a h => con_evCmp h) (fun a hF => ?_))
    | (refine CallX.o hF R_stream_of (fun a h => con_stream_of h) (fun a hF => ?_))
    | (refine LkX.o e_stream_identity AV.bool hF (by first | rfl | kernel_rfl) eqK_80 (by repeat' first | exact Sub.nil _ | exact Sub.refl _ | refine Sub.agg ?_ | refine Sub.tup ?_ | refine Sub.fn ?_ | exact SubL.nil | refine SubL.cons ?_ ?_ | refine Sub.sl _ ?_ | exact SubE.nil | refine SubE.cons ?_ ?_) (fun v b hF => ?_))
    | (refine UpX.o e_stream_identity AV.bool hF (by first | rfl | kernel_rfl) eqK_80 (by repeat' first | exact Sub.nil _ | exact Sub.refl _ | refine Sub.agg ?_ | refine Sub.tup ?_ | refine Sub.fn ?_ | exact SubL.nil | refine SubL.cons ?_ ?_ | refine Sub.sl _ ?_ | exact SubE.nil | refine SubE.cons ?_ ?_) (fun l hF => ?_))
    | (exact ⟨_, hF, LeX.of [] rfl ⟨⟨rfl, rfl⟩, ⟨rfl, rfl⟩, ⟨rfl, rfl⟩, ⟨rfl, rfl⟩, ⟨rfl, rfl⟩, trivial⟩ ⟨⟨rfl, rfl⟩, trivial⟩⟩)
    | (refine stream_Check_l1_o hF (LeX.of [] rfl ⟨⟨rfl, rfl⟩, ⟨rfl, rfl⟩, ⟨rfl, rfl⟩, ⟨rfl, rfl⟩, ⟨rfl, rfl⟩, trivial⟩ ⟨⟨rfl, rfl⟩, trivial⟩) (fun m v hF => ?_); unfold F_stream_Check_l1 at hF)
    | (refine And.intro ⟨by kernel_rfl, by kernel_rfl⟩ ?_)
    | (refine EqX.mk (by first | rfl | kernel_rfl) ?_)
    | (exact RetX.o hF (by repeat' first | exact Sub.nil _ | exact Sub.refl _ | refine Sub.agg ?_ | refine Sub.tup ?_ | refine Sub.fn ?_ | exact SubL.nil | refine SubL.cons ?_ ?_ | refine Sub.sl _ ?_ | exact SubE.nil | refine SubE.cons ?_ ?_))

def R_stream_keyed (r : T_api_Value × Bool × Int) : AV := .tup [.agg [aI (r.1.fKind), aI (r.1.fNum), .str (r.1.fText)], .bool (r.2.1), aI (r.2.2)]
theorem con_stream_keyed {n : Nat} {a0 : T_api_Event} {a1 : (List Int)} {r : T_api_Value × Bool × Int} (hF : F_stream_keyed n a0 a1 = some r) : Con E0 true 25 [.agg [aI (a0.fSource), aI (a0.fSeq), aI (a0.fType), aI (a0.fTime), .sl 3 (List.map e_api_Value (a0.fValues))], .sl 1 (List.map aI (a1))] (R_stream_keyed r) := by
  unfold F_stream_keyed at hF
  refine Con.walk _ Try.func25 rfl (enters_of Try.func25 rfl rfl) rfl (Or.inr rfl) ?_
  repeat' first
    | (refine AW.step ?_; conv => whnf)
    | (refine CondX.o hF (fun hF => ?_) (fun hF => ?_))
    | (refine CondX.t ?_)
    | (refine CondX.f ?_)
    | (refine IdxX.o aI hF (fun x hF => ?_))
    | (refine IdxX.o e_api_Value hF (fun x hF => ?_))
    | (refine And.intro ⟨by kernel_rfl, by kernel_rfl⟩ ?_)
    | (refine EqX.mk (by first | rfl | kernel_rfl) ?_)
    | (exact RetX.o hF (by repeat' first | exact Sub.nil _ | exact Sub.refl _ | refine Sub.agg ?_ | refine Sub.tup ?_ | refine Sub.fn ?_ | exact SubL.nil | refine SubL.cons ?_ ?_ | refine Sub.sl _ ?_ | exact SubE.nil | refine SubE.cons ?_ ?_))

theorem eqK_39 (a b : T_api_Value) : eqK (e_api_Value a) (e_api_Value b) = some (decide (a = b)) := by cases a; cases b; simp [e_api_Value, eqK, eqL, eq1, aI, bytes_dec]
set_option maxHeartbeats 400000 in
theorem clone45_any (l : List (Cel 3)) (S : Nat → Prop) (v : Value) (w : World) (h : Sl w S 3 encC v l) (hl : l.length ≤ 1000000000) :
    Calls Try.prog 45 #[v] w (RetOwn 39 3 encC l w) := by
  have eok : EOk Try.prog 26 39 3 32 (encC (n := 3)) := eokC (sz := 3) tyOk26 rfl tyOk39 (by omega) rfl
  obtain ⟨A, c, rfl, hc, _⟩ := h.form
  have hq := fun (W : World) => Lib.run_eql_slice_nil W 26 39 A l.length c 0 0 Try.underlying26
  have H := hide h
  cases A with
  | none =>
    have h0 : l = [] := h.none_nil
    subst h0
    clear h H hl hc
    simp only [List.length_nil, Option.isNone_none] at hq ⊢
    go_enter Try.func45, Try.ntmps45
    go_wp2
    go_ret
    exact ⟨none, 0, rfl, Own.nil_, by go_grown⟩
  | some ad =>
    clear h
    go_enter Try.func45, Try.ntmps45
    go_wp2_with (at_builtin; refine wpList_append_sl rfl _ _ rfl eok rfl Own.made_ rfl (H.out.alloc _) (by simp; omega) (by omega) (by simp) ?_; intro A' c' w1 ho hg _)
    go_ret
    exact ⟨A', c', rfl, ho, (Own.made_ (sz := 3) (enc := encC (n := 3))).grown ((Below.refl _ _).alloc (Nat.le_refl _) _) (Nat.le_refl _) (by simp) hg⟩
theorem conT_clone45 {n : Nat} {a r : List T_api_Value} (hF : F_clone n a = some r) : ConT E0 45 [.sl 3 (List.map e_api_Value a)] 39 3 (List.map e_api_Value r) (.row 0) := clone_gen rfl (enters_of Try.func45 rfl rfl) clone45_any hF
theorem con_clone45 {n : Nat} {a r : List T_api_Value} (hF : F_clone n a = some r) : Con E0 false 45 [.sl 3 (List.map e_api_Value a)] (.sl 3 (List.map e_api_Value r)) := (conT_clone45 hF).close rfl
def R_stream_copied (r : T_api_Event) : AV := .agg [aI (r.fSource), aI (r.fSeq), aI (r.fType), aI (r.fTime), .sl 3 (List.map e_api_Value (r.fValues))]
theorem con_stream_copied {n : Nat} {a0 : T_api_Event} {r : T_api_Event} (hF : F_stream_copied n a0 = some r) : Con E0 false 26 [.agg [aI (a0.fSource), aI (a0.fSeq), aI (a0.fType), aI (a0.fTime), .sl 3 (List.map e_api_Value (a0.fValues))]] (R_stream_copied r) := by
  unfold F_stream_copied at hF
  refine Con.walk _ Try.func26 rfl (enters_of Try.func26 rfl rfl) rfl (Or.inl rfl) ?_
  repeat' first
    | (refine AW.step ?_; conv => whnf)
    | (refine CondX.o hF (fun hF => ?_) (fun hF => ?_))
    | (refine CondX.t ?_)
    | (refine CondX.f ?_)
    | (refine CallX.o hF (fun q => AV.sl 3 (List.map e_api_Value q)) (fun a h => con_clone45 h) (fun a hF => ?_))
    | (refine And.intro ⟨by kernel_rfl, by kernel_rfl⟩ ?_)
    | (refine EqX.mk (by first | rfl | kernel_rfl) ?_)
    | (exact RetX.o hF (by repeat' first | exact Sub.nil _ | exact Sub.refl _ | refine Sub.agg ?_ | refine Sub.tup ?_ | refine Sub.fn ?_ | exact SubL.nil | refine SubL.cons ?_ ?_ | refine Sub.sl _ ?_ | exact SubE.nil | refine SubE.cons ?_ ?_))

end Go.Proofs.Ytkbopbgcjfcjjaa
