/- Layer 5, plain: sorting, in the program and in the reference. -/
import Derived.Test.YtdbapaofibgfcaaP05A
set_option linter.unusedVariables false
set_option linter.unusedSimpArgs false
namespace Go.Proofs.Ytdbapaofibgfcaa
open Go.RowKit

def allE (l : List Ev) : Int := if 4096 < l.length then 5 else if l.all placedB then 0 else 2
theorem p_all1 (n : Nat) (e : Ev) : F_stream_all_1 n e = some (!placedB e) := by
  unfold F_stream_all_1; simp only [p_placed, bnd_some]
theorem p_idxf_l1 (n : Nat) (l : List Ev) : ∀ (m k : Nat), k ≤ l.length → l.length ≤ 1000000 → l.length < m + k → ∃ r : Int, F_slices_IndexFunc_l1 n l (some (-1)) m (k : Int) = some r ∧ (0 ≤ r ↔ (l.drop k).all placedB = false)
  | 0, k, h1, h2, h3 => by omega
  | m + 1, k, h1, h2, h3 => by
    unfold F_slices_IndexFunc_l1
    simp only [List.length_map, cnd_if]
    by_cases h : k < l.length
    · rw [if_pos (by omega), idx_nat h, wrapS k (by omega)]
      simp only [p_all1, bnd_some, cnd_not]
      simp only [cnd_b]
      rw [drop_eq_cons l k h, List.all_cons]
      obtain ⟨r, hr, hiff⟩ := p_idxf_l1 n l m (k + 1) (by omega) h2 (by omega)
      by_cases hp : placedB l[k] = true
      · rw [if_pos hp]; exact ⟨r, hr, by rw [hiff, hp, Bool.true_and]⟩
      · rw [if_neg hp]
        have hp' : placedB l[k] = false := by simpa using hp
        exact ⟨_, rfl, by rw [hp']; simp⟩
    · rw [if_neg (by omega)]
      exact ⟨_, rfl, by rw [List.drop_eq_nil_of_le (by omega)]; simp⟩
theorem p_all (n : Nat) (l : List Ev) (hn : l.length < n) (h2 : l.length ≤ 1000000) : F_stream_all n l = some (allE l) := by
  unfold F_stream_all F_slices_ContainsFunc F_slices_IndexFunc allE
  obtain ⟨r, hr, hiff⟩ := p_idxf_l1 n l n 0 (by omega) h2 (by omega)
  simp only [Int.natCast_zero, List.drop_zero] at hr hiff
  simp only [hr, bnd_some, List.length_map, cnd_if]
  by_cases h : 4096 < l.length
  · rw [if_pos (by omega), if_pos h]
  · rw [if_neg (by omega), if_neg h]
    by_cases ha : l.all placedB = true
    · rw [if_neg (by rw [hiff]; simp [ha]), if_pos ha]
    · rw [if_pos (by rw [hiff]; simpa using ha), if_neg ha]
theorem p_list_l1 (n : Nat) (l : List Ev) : ∀ (m k : Nat), k ≤ l.length → l.length ≤ 1000000 → l.length < m + k → F_tidegateref05_list_l1 n l (some 0) m (k : Int) = some (if (l.drop k).all placedB then 0 else 2)
  | 0, k, h1, h2, h3 => by omega
  | m + 1, k, h1, h2, h3 => by
    unfold F_tidegateref05_list_l1
    simp only [List.length_map, cnd_if, cnd_not]
    by_cases h : k < l.length
    · rw [if_pos (by omega), idx_nat h, wrapS k (by omega)]
      simp only [p_rplaced, bnd_some, cnd_b]
      rw [drop_eq_cons l k h, List.all_cons, p_list_l1 n l m (k + 1) (by omega) h2 (by omega)]
      by_cases hp : placedB l[k] = true <;> simp [hp]
    · rw [if_neg (by omega), List.drop_eq_nil_of_le (by omega)]; simp
theorem p_list (n : Nat) (l : List Ev) (hn : l.length < n) (h2 : l.length ≤ 1000000) : F_tidegateref05_list n l = some (allE l) := by
  unfold F_tidegateref05_list allE
  have := p_list_l1 n l n 0 (by omega) h2 (by omega)
  simp only [Int.natCast_zero, List.drop_zero] at this
  simp only [List.length_map, cnd_if, this]
  by_cases h : 4096 < l.length
  · rw [if_pos (by omega), if_pos h]
  · rw [if_neg (by omega), if_neg h]

/-! ### The events, each once; none if two that differ have one identity -/
def dd : List Ev → List Ev → Option (List Ev)
  | acc, [] => some acc
  | acc, e :: r => match acc.find? (fun x => decide (idt x = idt e)) with
    | some f => if f = e then dd acc r else none
    | none => dd (acc ++ [e]) r
/-- Events with one identity are equal. -/
def DistI (l : List Ev) : Prop := ∀ x ∈ l, ∀ y ∈ l, idt x = idt y → x = y
instance (l : List Ev) : Decidable (DistI l) := inferInstanceAs (Decidable (∀ x ∈ l, ∀ y ∈ l, idt x = idt y → x = y))
theorem dd_some : ∀ (l acc : List Ev), acc.Nodup → DistI (acc ++ l) → ∃ r, dd acc l = some r ∧ (∀ x, x ∈ r ↔ x ∈ acc ∨ x ∈ l) ∧ r.Nodup
  | [], acc, hn, h => ⟨acc, rfl, fun x => by simp, hn⟩
  | e :: l, acc, hn, h => by
    unfold dd
    cases hf : acc.find? (fun x => decide (idt x = idt e)) with
    | some f =>
      have h1 := List.mem_of_find?_eq_some hf
      have h2 : idt f = idt e := by have := List.find?_some hf; simpa using this
      have h3 : f = e := h f (by simp [h1]) e (by simp) h2
      simp only [h3, if_true]
      obtain ⟨r, hr, hm, hnr⟩ := dd_some l acc hn (fun x hx y hy => h x (by simp at hx ⊢; exact hx.elim Or.inl (fun h => Or.inr (Or.inr h))) y (by simp at hy ⊢; exact hy.elim Or.inl (fun h => Or.inr (Or.inr h))))
      refine ⟨r, hr, fun x => ?_, hnr⟩
      rw [hm, List.mem_cons]
      constructor
      · rintro (h | h); exact Or.inl h; exact Or.inr (Or.inr h)
      · rintro (h | h | h)
        · exact Or.inl h
        · subst h; exact Or.inl (h3 ▸ h1)
        · exact Or.inr h
    | none =>
      have hne : e ∉ acc := fun he => by
        have := List.find?_eq_none.1 hf e he
        simp at this
      have hn' : (acc ++ [e]).Nodup := by
        rw [List.nodup_append]
        exact ⟨hn, by simp, fun a ha b hb hab => by simp at hb; subst hb; exact hne (hab ▸ ha)⟩
      obtain ⟨r, hr, hm, hnr⟩ := dd_some l (acc ++ [e]) hn' (by rw [List.append_assoc]; exact h)
      refine ⟨r, hr, fun x => ?_, hnr⟩
      rw [hm]
      simp only [List.mem_append, List.mem_cons, List.not_mem_nil, or_false, or_assoc]
theorem dd_out : ∀ (l acc r : List Ev), DistI acc → dd acc l = some r → DistI (acc ++ l) ∧ ∀ x ∈ acc, x ∈ r
  | [], acc, r, h, hr => by injection hr with hr; subst hr; exact ⟨by simpa using h, fun x hx => hx⟩
  | e :: l, acc, r, h, hr => by
    unfold dd at hr
    cases hf : acc.find? (fun x => decide (idt x = idt e)) with
    | some f =>
      rw [hf] at hr
      simp only at hr
      split at hr
      · rename_i hfe
        subst hfe
        have h1 := List.mem_of_find?_eq_some hf
        obtain ⟨h2, h3⟩ := dd_out l acc r h hr
        have key : ∀ x, x ∈ acc ++ f :: l → x ∈ acc ++ l := fun x hx => by
          simp only [List.mem_append, List.mem_cons] at hx ⊢
          rcases hx with hx | rfl | hx
          · exact Or.inl hx
          · exact Or.inl h1
          · exact Or.inr hx
        exact ⟨fun x hx y hy => h2 x (key x hx) y (key y hy), h3⟩
      · cases hr
    | none =>
      rw [hf] at hr
      simp only at hr
      have hd : DistI (acc ++ [e]) := fun x hx y hy he => by
        simp only [List.mem_append, List.mem_singleton] at hx hy
        have hno := List.find?_eq_none.1 hf
        rcases hx with hx | rfl <;> rcases hy with hy | rfl
        · exact h x hx y hy he
        · exact absurd he (by have := hno x hx; simpa using this)
        · exact absurd he.symm (by have := hno y hy; simpa using this)
        · rfl
      obtain ⟨h2, h3⟩ := dd_out l (acc ++ [e]) r hd hr
      exact ⟨by rw [List.append_assoc] at h2; exact h2, fun x hx => h3 x (by simp [hx])⟩
theorem dd_none {l acc : List Ev} (h : DistI acc) (hn : ¬ DistI (acc ++ l)) : dd acc l = none := by
  cases hr : dd acc l with
  | none => rfl
  | some r => exact absurd (dd_out l acc r h hr).1 hn
theorem evCmp_tie {a b : Ev} (h1 : ltOf evCmp a b = false) (h2 : ltOf evCmp b a = false) : idt a = idt b ∧ a.fTime = b.fTime := by
  unfold ltOf at h1 h2
  simp only [decide_eq_false_iff_not, evCmp_lt] at h1 h2
  refine ⟨?_, by omega⟩
  have e1 : a.fSource = b.fSource := by omega
  have e2 : a.fSeq = b.fSeq := by omega
  simp [idt, e1, e2]
theorem distI_ties {l : List Ev} (h : DistI l) : ∀ x ∈ l, ∀ y ∈ l, ltOf evCmp x y = false → ltOf evCmp y x = false → x = y := fun x hx y hy h1 h2 => h x hx y hy (evCmp_tie h1 h2).1
/-- The stream of some events without conflicts. -/
def srt (l : List Ev) : List Ev := match dd [] l with | some r => sortF evCmp r | none => []
theorem srt_mem {l : List Ev} (h : DistI l) (x : Ev) : x ∈ srt l ↔ x ∈ l := by
  obtain ⟨r, hr, hm, hn⟩ := dd_some l [] (by simp) (by simpa using h)
  unfold srt
  rw [hr]
  simp only [(sortF_perm evCmp r).mem_iff, hm]
  simp
theorem srt_nodup {l : List Ev} (h : DistI l) : (srt l).Nodup := by
  obtain ⟨r, hr, hm, hn⟩ := dd_some l [] (by simp) (by simpa using h)
  unfold srt
  rw [hr]
  exact (sortF_perm evCmp r).symm.nodup hn
theorem srt_sorted (l : List Ev) : (srt l).Pairwise (fun x y => ltOf evCmp y x = false) := by
  unfold srt
  split
  · exact sortF_sorted evCmp_swo _
  · exact .nil
/-- Whatever is sorted, without repetitions, and has the events, is the stream. -/
theorem srt_uniq {l r : List Ev} (h : DistI l) (hm : ∀ x, x ∈ r ↔ x ∈ l) (hn : r.Nodup) (hs : r.Pairwise (fun x y => ltOf evCmp y x = false)) : r = srt l := by
  have hp : r.Perm (srt l) := (List.perm_ext_iff_of_nodup hn (srt_nodup h)).2 fun x => by rw [hm, srt_mem h]
  exact List.Perm.eq_of_pairwise (le := fun x y => ltOf evCmp y x = false) (fun a b ha hb h1 h2 => distI_ties h a ((hm a).1 ha) b ((srt_mem h b).1 hb) h2 h1) hs (srt_sorted l) hp
theorem srt_congr {l l' : List Ev} (h : DistI l) (hm : ∀ x, x ∈ l ↔ x ∈ l') : srt l = srt l' := by
  have h' : DistI l' := fun x hx y hy => h x ((hm x).2 hx) y ((hm y).2 hy)
  exact srt_uniq h' (fun x => by rw [srt_mem h, hm]) (srt_nodup h) (srt_sorted l)
theorem DistI.srt {l : List Ev} (h : DistI l) : DistI (srt l) := fun x hx y hy => h x ((srt_mem h x).1 hx) y ((srt_mem h y).1 hy)

/-! ### The program's sorting -/
def MapE (m : List (T_stream_identity × Ev)) (acc : List Ev) : Prop := ∀ k, mlk m k = acc.find? (fun x => decide (idt x = k))
theorem MapE.put {m : List (T_stream_identity × Ev)} {acc : List Ev} (h : MapE m acc) (e : Ev) (hf : acc.find? (fun x => decide (idt x = idt e)) = none) : MapE (mput m (idt e) e) (acc ++ [e]) := fun k => by
  rw [mlk_mput, List.find?_append, h k]
  by_cases hk : k = idt e
  · subst hk; rw [hf]; simp
  · rw [if_neg hk]
    have : ¬ idt e = k := fun e => hk e.symm
    simp [this]
theorem p_copied (n : Nat) (e : Ev) (h : e.fValues.length ≤ 1000000) : F_stream_copied n e = some e := by
  unfold F_stream_copied F_clone
  rw [if_pos (by omega), bnd_some]
theorem p_sorted_l1 (n : Nat) (l : List Ev) (hv : ∀ x ∈ l, fewV n x) (K : List Ev → Option (List Ev × Bool)) : ∀ (m k : Nat) (mp : List (T_stream_identity × Ev)) (acc : List Ev), k ≤ l.length → l.length ≤ 1000000 → l.length < m + k → acc.length ≤ k → (∀ x ∈ acc, x ∈ l) → MapE mp acc →
    F_stream_sorted_l1 n l K m ((k : Int), mp, acc) = match dd acc (l.drop k) with | some r => K r | none => some ([], false)
  | 0, k, _, _, h1, h2, h3, _, _, _ => by omega
  | m + 1, k, mp, acc, h1, h2, h3, h4, hsub, hm => by
    unfold F_stream_sorted_l1
    simp only [List.length_map, cnd_if, cnd_not]
    by_cases h : k < l.length
    · rw [if_pos (by omega), idx_nat h, wrapS k (by omega)]
      have hml : l[k] ∈ l := List.getElem_mem h
      simp only [p_of, bnd_some, mgt_eq, mst_eq, hm (idt l[k]), p_copied n l[k] (hv _ hml).2, cnd_b]
      rw [app_ok (by simp; omega) (by omega)]
      rw [drop_eq_cons l k h]
      conv => rhs; unfold dd
      cases hf : acc.find? (fun x => decide (idt x = idt l[k])) with
      | some f =>
        have hfm := List.mem_of_find?_eq_some hf
        simp only [Option.isSome_some, if_true, Option.getD_some]
        rw [p_evEqual n f l[k] (hv _ (hsub f hfm)), bnd_some]
        have ih := p_sorted_l1 n l hv K m (k + 1) mp acc (by omega) h2 (by omega) (by omega) hsub hm
        by_cases he : f = l[k]
        · rw [if_pos he]
          simp only [he, decide_true, if_true]
          exact ih
        · rw [if_neg he]
          simp only [he, decide_false, Bool.false_eq_true, if_false]
      | none =>
        simp only [Option.isSome_none, Bool.false_eq_true, if_false, Bool.not_false]
        have hm' := hm.put l[k] hf
        exact p_sorted_l1 n l hv K m (k + 1) _ (acc ++ [l[k]]) (by omega) h2 (by omega) (by simp; omega) (fun x hx => by
          simp only [List.mem_append, List.mem_singleton] at hx
          rcases hx with hx | rfl
          · exact hsub x hx
          · exact hml) hm'
    · rw [if_neg (by omega), List.drop_eq_nil_of_le (by omega)]; rfl
theorem f_sort_ok (n : Nat) {l : List Ev} (h : DistI l) (h2 : l.length ≤ 1000000) : F_sort evCmp n l = some (sortF evCmp l) := by
  unfold F_sort
  rw [if_pos ⟨by omega, distI_ties h⟩]
def sortedS (l : List Ev) : List Ev × Bool := if DistI l then (srt l, true) else ([], false)
theorem p_sorted (n : Nat) (l : List Ev) (hv : ∀ x ∈ l, fewV n x) (hn : l.length < n) (h2 : l.length ≤ 1000000) : F_stream_sorted n l = some (sortedS l) := by
  unfold F_stream_sorted sortedS
  have := p_sorted_l1 n l hv (fun k1_0_0y => bndC (F_sort evCmp n k1_0_0y) fun x42 => some (x42, true)) n 0 [] [] (by omega) h2 (by omega) (by simp) (by simp) (fun k => rfl)
  simp only [Int.natCast_zero, List.drop_zero] at this
  rw [this]
  by_cases h : DistI l
  · rw [if_pos h]
    obtain ⟨r, hr, hm, hnd⟩ := dd_some l [] (by simp) (by simpa using h)
    have hd : DistI r := fun x hx y hy => h x (by have := (hm x).1 hx; simpa using this) y (by have := (hm y).1 hy; simpa using this)
    have hlen : r.length ≤ l.length := hnd.length_le_of_subset (fun x hx => by have := (hm x).1 hx; simpa using this)
    unfold srt
    rw [hr]
    simp only
    rw [f_sort_ok n hd (by omega), bndC_some]
  · rw [if_neg h, dd_none (by intro x hx; simp at hx) (by simpa using h)]
def sortS (l : List Ev) : List Ev × Int := if allE l ≠ 0 then ([], allE l) else if DistI l then (srt l, 0) else ([], 22)
theorem p_sort (n : Nat) (l : List Ev) (hv : ∀ x ∈ l, fewV n x) (hn : l.length < n) (h2 : l.length ≤ 1000000) : F_stream_Sort n l = some (sortS l) := by
  unfold F_stream_Sort sortS
  simp only [p_all n l hn h2, p_sorted n l hv hn h2, bnd_some, cnd_not, cnd_if]
  by_cases h : allE l = 0
  · rw [if_pos h, if_neg (by simp [h])]
    unfold sortedS
    split <;> simp [cnd_t, cnd_f]
  · rw [if_neg h, if_pos h]

/-! ### The reference's -/
theorem p_conf_l1 (n : Nat) (l : List Ev) (hv : ∀ x ∈ l, fewV n x) (e : Ev) (K : Option Bool) : ∀ (m k : Nat), k ≤ l.length → l.length ≤ 1000000 → l.length < m + k → F_tidegateref05_conflict_l1 n e l K m (k : Int) = if (l.drop k).any (fun x => decide (idt x = idt e) && !decide (x = e)) then some true else K
  | 0, k, h1, h2, h3 => by omega
  | m + 1, k, h1, h2, h3 => by
    unfold F_tidegateref05_conflict_l1
    simp only [List.length_map, cnd_if, cnd_not]
    by_cases h : k < l.length
    · rw [if_pos (by omega), idx_nat h, idx_nat h, wrapS k (by omega)]
      simp only [p_twin, p_rEqual n l[k] e (hv _ (List.getElem_mem h)), bnd_some, cnd_if]
      rw [drop_eq_cons l k h, List.any_cons, p_conf_l1 n l hv e K m (k + 1) (by omega) h2 (by omega)]
      by_cases h4 : idt l[k] = idt e <;> by_cases h5 : l[k] = e <;> simp [h4, h5]
    · rw [if_neg (by omega), List.drop_eq_nil_of_le (by omega)]; simp
theorem p_conf (n : Nat) (l : List Ev) (hv : ∀ x ∈ l, fewV n x) (e : Ev) (hn : l.length < n) (h2 : l.length ≤ 1000000) : F_tidegateref05_conflict n l e = some (l.any (fun x => decide (idt x = idt e) && !decide (x = e))) := by
  unfold F_tidegateref05_conflict
  have := p_conf_l1 n l hv e (some false) n 0 (by omega) h2 (by omega)
  simp only [Int.natCast_zero, List.drop_zero] at this
  rw [this]
  split
  · rename_i h; rw [h]
  · rename_i h; simp only [Bool.not_eq_true] at h; rw [h]
theorem p_has_l1 (n : Nat) (l : List Ev) (hv : ∀ x ∈ l, fewV n x) (e : Ev) (K : Option Bool) : ∀ (m k : Nat), k ≤ l.length → l.length ≤ 1000000 → l.length < m + k → F_tidegateref05_Has_l1 n e l K m (k : Int) = if (l.drop k).any (fun x => decide (x = e)) then some true else K
  | 0, k, h1, h2, h3 => by omega
  | m + 1, k, h1, h2, h3 => by
    unfold F_tidegateref05_Has_l1
    simp only [List.length_map, cnd_if, cnd_not]
    by_cases h : k < l.length
    · rw [if_pos (by omega), idx_nat h, wrapS k (by omega)]
      simp only [p_rEqual n l[k] e (hv _ (List.getElem_mem h)), bnd_some, cnd_if]
      rw [drop_eq_cons l k h, List.any_cons, p_has_l1 n l hv e K m (k + 1) (by omega) h2 (by omega)]
      by_cases h5 : l[k] = e <;> simp [h5]
    · rw [if_neg (by omega), List.drop_eq_nil_of_le (by omega)]; simp
theorem p_has (n : Nat) (l : List Ev) (hv : ∀ x ∈ l, fewV n x) (e : Ev) (hn : l.length < n) (h2 : l.length ≤ 1000000) : F_tidegateref05_Has n l e = some (decide (e ∈ l)) := by
  unfold F_tidegateref05_Has
  have := p_has_l1 n l hv e (some false) n 0 (by omega) h2 (by omega)
  simp only [Int.natCast_zero, List.drop_zero] at this
  rw [this]
  have e1 : l.any (fun x => decide (x = e)) = decide (e ∈ l) := by
    rw [Bool.eq_iff_iff]; simp
  rw [e1]
  by_cases h : e ∈ l <;> simp [h]
def putR : List Ev → Ev → List Ev
  | [], e => [e]
  | x :: r, e => if evCmp x e < 0 then x :: putR r e else e :: x :: r
theorem putR_split (e : Ev) : ∀ (l : List Ev) (k : Nat), k ≤ l.length → (∀ x ∈ l.take k, evCmp x e < 0) → putR l e = l.take k ++ putR (l.drop k) e
  | l, 0, _, _ => by simp
  | [], k + 1, h, _ => by simp at h
  | x :: r, k + 1, h, hx => by
    have h1 := hx x (by simp)
    rw [putR, if_pos h1, putR_split e r k (by simpa using h) (fun y hy => hx y (by simp [hy]))]
    rfl
theorem p_put_l1 (n : Nat) (e : Ev) (l : List Ev) (K : Int → List Ev → Option (List Ev)) (hK : ∀ k, k ≤ l.length → (∀ x ∈ l.take k, evCmp x e < 0) → (∀ h : k < l.length, ¬ evCmp l[k] e < 0) → K (k : Int) (l.take k) = some (putR l e)) : ∀ (m k : Nat), k ≤ l.length → l.length ≤ 1000000 → l.length < m + k → (∀ x ∈ l.take k, evCmp x e < 0) →
    F_tidegateref05_put_l1 n e l K m ((k : Int), l.take k) = some (putR l e)
  | 0, k, h1, h2, h3, _ => by omega
  | m + 1, k, h1, h2, h3, hx => by
    unfold F_tidegateref05_put_l1
    simp only [List.length_map, cnd_if]
    by_cases h : k < l.length
    · rw [if_pos (by omega), idx_nat h, wrapS k (by omega)]
      simp only [p_ref, bnd_some, p_order, cnd_if]
      have ec : rCmp ⟨l[k].fTime, l[k].fSource, l[k].fSeq⟩ ⟨e.fTime, e.fSource, e.fSeq⟩ = evCmp l[k] e := rfl
      rw [ec]
      by_cases hc : evCmp l[k] e < 0
      · rw [if_pos hc, idx_nat h, app_ok (by simp; omega) (by omega), ← List.take_succ_eq_append_getElem h]
        refine p_put_l1 n e l K hK m (k + 1) (by omega) h2 (by omega) (fun x hx' => ?_)
        rw [List.take_succ_eq_append_getElem h] at hx'
        simp only [List.mem_append, List.mem_singleton] at hx'
        rcases hx' with hx' | rfl
        · exact hx x hx'
        · exact hc
      · rw [if_neg hc]; exact hK k h1 hx (fun _ => hc)
    · rw [if_neg (by omega)]; exact hK k h1 hx (fun h' => absurd h' h)
theorem p_put (n : Nat) (l : List Ev) (e : Ev) (hn : l.length < n) (h2 : l.length ≤ 100000) : F_tidegateref05_put n l e = some (putR l e) := by
  unfold F_tidegateref05_put
  have := p_put_l1 n e l (fun k1_0_0y0 k1_0_0y1 => app k1_0_0y1 [e] 56 fun x43 => sls l k1_0_0y0 (((List.map e_api_Event (l)).length : Nat) : Int) fun x44 => app x43 x44 56 fun x45 => some x45) (fun k hk hx hnx => ?_) n 0 (by omega) (by omega) (by omega) (by simp)
  · simpa using this
  · simp only [List.length_map]
    rw [app_ok (by simp; omega) (by omega), sls_ok hk (Nat.le_refl _), List.take_length, app_ok (by simp; omega) (by omega)]
    congr 1
    rw [putR_split e l k hk hx, List.append_assoc]
    congr 1
    by_cases h : k < l.length
    · rw [drop_eq_cons l k h, putR, if_neg (hnx h)]
      rfl
    · rw [List.drop_eq_nil_of_le (by omega)]; rfl
theorem putR_perm (e : Ev) : ∀ l : List Ev, (putR l e).Perm (e :: l)
  | [] => .refl _
  | x :: r => by
    unfold putR
    split
    · exact ((putR_perm e r).cons x).trans (.swap _ _ _)
    · exact .refl _
theorem putR_length (l : List Ev) (e : Ev) : (putR l e).length = l.length + 1 := (putR_perm e l).length_eq
theorem putR_sorted (e : Ev) : ∀ l : List Ev, l.Pairwise (fun x y => ltOf evCmp y x = false) → (putR l e).Pairwise (fun x y => ltOf evCmp y x = false)
  | [], _ => by simp [putR]
  | x :: r, h => by
    have h' := List.pairwise_cons.1 h
    unfold putR
    split
    · rename_i hc
      refine List.pairwise_cons.2 ⟨fun y hy => ?_, putR_sorted e r h'.2⟩
      rcases List.mem_cons.1 ((putR_perm e r).mem_iff.1 hy) with rfl | hy
      · have : ltOf evCmp x y = true := by simpa [ltOf] using hc
        cases h3 : ltOf evCmp y x with
        | false => rfl
        | true => have := evCmp_swo.trans _ _ _ h3 this; rw [evCmp_swo.irrefl] at this; cases this
      · exact h'.1 y hy
    · rename_i hc
      refine List.pairwise_cons.2 ⟨fun y hy => ?_, h⟩
      have hxe : ltOf evCmp x e = false := by simpa [ltOf] using hc
      rcases List.mem_cons.1 hy with rfl | hy
      · exact hxe
      · exact evCmp_swo.ntrans _ _ _ (h'.1 y hy) hxe
def sortedR : List Ev → List Ev → List Ev
  | out, [] => out
  | out, e :: r => sortedR (if e ∈ out then out else putR out e) r
theorem sortedR_props : ∀ (l out : List Ev), out.Nodup → out.Pairwise (fun x y => ltOf evCmp y x = false) → (∀ x, x ∈ sortedR out l ↔ x ∈ out ∨ x ∈ l) ∧ (sortedR out l).Nodup ∧ (sortedR out l).Pairwise (fun x y => ltOf evCmp y x = false)
  | [], out, hn, hs => ⟨fun x => by simp [sortedR], hn, hs⟩
  | e :: l, out, hn, hs => by
    unfold sortedR
    by_cases he : e ∈ out
    · rw [if_pos he]
      obtain ⟨i1, i2⟩ := sortedR_props l out hn hs
      refine ⟨fun x => ?_, i2⟩
      rw [i1, List.mem_cons]
      constructor
      · rintro (h | h); exact Or.inl h; exact Or.inr (Or.inr h)
      · rintro (h | rfl | h)
        · exact Or.inl h
        · exact Or.inl he
        · exact Or.inr h
    · rw [if_neg he]
      have hp := putR_perm e out
      obtain ⟨i1, i2⟩ := sortedR_props l (putR out e) (hp.symm.nodup (List.nodup_cons.2 ⟨he, hn⟩)) (putR_sorted e out hs)
      refine ⟨fun x => ?_, i2⟩
      rw [i1, hp.mem_iff, List.mem_cons, List.mem_cons]
      constructor
      · rintro ((h | h) | h)
        · exact Or.inr (Or.inl h)
        · exact Or.inl h
        · exact Or.inr (Or.inr h)
      · rintro (h | h | h)
        · exact Or.inl (Or.inr h)
        · exact Or.inl (Or.inl h)
        · exact Or.inr h
theorem sortedR_srt {l : List Ev} (h : DistI l) : sortedR [] l = srt l := by
  obtain ⟨h1, h2, h3⟩ := sortedR_props l [] (by simp) .nil
  exact srt_uniq h (fun x => by rw [h1]; simp) h2 h3
theorem p_rsorted_l1 (n : Nat) (l : List Ev) (hv : ∀ x ∈ l, fewV n x) (hn : l.length < n) : ∀ (m k : Nat) (out : List Ev), k ≤ l.length → l.length ≤ 100000 → l.length < m + k → out.length ≤ k → (∀ x ∈ out, x ∈ l) → F_tidegateref05_Sorted_l1 n l (fun k1_0_0y => some k1_0_0y) m (out, (k : Int)) = some (sortedR out (l.drop k))
  | 0, k, _, h1, h2, h3, _, _ => by omega
  | m + 1, k, out, h1, h2, h3, h4, hsub => by
    unfold F_tidegateref05_Sorted_l1
    simp only [List.length_map, cnd_if, cnd_not]
    by_cases h : k < l.length
    · rw [if_pos (by omega), idx_nat h, wrapS k (by omega)]
      rw [p_has n out (fun x hx => hv x (hsub x hx)) l[k] (by omega) (by omega), bnd_some, cnd_if]
      rw [drop_eq_cons l k h]
      conv => rhs; unfold sortedR
      by_cases he : l[k] ∈ out
      · rw [if_pos he, if_pos he]
        exact p_rsorted_l1 n l hv hn m (k + 1) out (by omega) h2 (by omega) (by omega) hsub
      · rw [if_neg he, if_neg he, idx_nat h, p_put n out l[k] (by omega) (by omega), bnd_some]
        refine p_rsorted_l1 n l hv hn m (k + 1) (putR out l[k]) (by omega) h2 (by omega) (by rw [putR_length]; omega) (fun x hx => ?_)
        rcases List.mem_cons.1 ((putR_perm l[k] out).mem_iff.1 hx) with rfl | hx
        · exact List.getElem_mem h
        · exact hsub x hx
    · rw [if_neg (by omega), List.drop_eq_nil_of_le (by omega)]; rfl
theorem p_rsorted (n : Nat) (l : List Ev) (hv : ∀ x ∈ l, fewV n x) (hn : l.length < n) (h2 : l.length ≤ 100000) : F_tidegateref05_Sorted n l = some (sortedR [] l) := by
  unfold F_tidegateref05_Sorted
  have := p_rsorted_l1 n l hv hn n 0 [] (by omega) h2 (by omega) (by simp) (by simp)
  simpa using this
def confB (l m : List Ev) : Bool := m.any fun e => l.any fun x => decide (idt x = idt e) && !decide (x = e)
theorem confB_iff (l m : List Ev) : confB l m = false ↔ ∀ e ∈ m, ∀ x ∈ l, idt x = idt e → x = e := by
  unfold confB
  simp only [List.any_eq_false, Bool.not_eq_true, Bool.and_eq_false_iff, decide_eq_false_iff_not, Bool.not_eq_false']
  constructor
  · intro h e he x hx hi
    rcases h e he x hx with h | h
    · exact absurd hi h
    · simpa using h
  · intro h e he x hx
    by_cases hi : idt x = idt e
    · exact Or.inr (by simpa using h e he x hx hi)
    · exact Or.inl hi
theorem p_rsort_l1 (n : Nat) (l : List Ev) (hv : ∀ x ∈ l, fewV n x) (hn : l.length < n) (K : Option (List Ev × Int)) : ∀ (m k : Nat), k ≤ l.length → l.length ≤ 1000000 → l.length < m + k → F_tidegateref05_Sort_l1 n l K m (k : Int) = if confB l (l.drop k) then some ([], 22) else K
  | 0, k, h1, h2, h3 => by omega
  | m + 1, k, h1, h2, h3 => by
    unfold F_tidegateref05_Sort_l1
    simp only [List.length_map, cnd_if, cnd_not]
    by_cases h : k < l.length
    · rw [if_pos (by omega), idx_nat h, wrapS k (by omega)]
      rw [p_conf n l hv l[k] hn h2, bnd_some, cnd_b]
      rw [drop_eq_cons l k h, p_rsort_l1 n l hv hn K m (k + 1) (by omega) h2 (by omega)]
      conv => rhs; unfold confB; rw [List.any_cons]
      generalize hq : (l.any fun x => decide (idt x = idt l[k]) && !decide (x = l[k])) = q
      cases q
      · simp only [Bool.false_eq_true, if_false, Bool.false_or]; rfl
      · simp
    · rw [if_neg (by omega), List.drop_eq_nil_of_le (by omega)]; simp [confB]
theorem p_rsort (n : Nat) (l : List Ev) (hv : ∀ x ∈ l, fewV n x) (hn : l.length < n) (h2 : l.length ≤ 100000) : F_tidegateref05_Sort n l = some (sortS l) := by
  unfold F_tidegateref05_Sort sortS
  have := p_rsort_l1 n l hv hn (bnd (F_tidegateref05_Sorted n l) fun x42 => some (x42, 0)) n 0 (by omega) (by omega) (by omega)
  simp only [Int.natCast_zero, List.drop_zero] at this
  simp only [p_list n l hn (by omega), bnd_some, cnd_not, cnd_if, this]
  by_cases h : allE l = 0
  · rw [if_pos h, if_neg (show ¬ allE l ≠ 0 by simp [h]), p_rsorted n l hv hn h2, bnd_some]
    by_cases hd : DistI l
    · have hc : confB l l = false := (confB_iff l l).2 (fun e he x hx hi => hd x hx e he hi)
      rw [hc, if_pos hd, sortedR_srt hd]
      simp
    · have hc : confB l l = true := by
        cases hb : confB l l with
        | true => rfl
        | false => exact absurd (fun x hx y hy hi => (confB_iff l l).1 hb y hy x hx hi) hd
      rw [hc, if_neg hd]
      simp
  · rw [if_neg h, if_pos h]
end Go.Proofs.Ytdbapaofibgfcaa
