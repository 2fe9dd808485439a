/- Maps: update. -/
import Derived.Test.YtdbapaofibgfcaaMapD
set_option linter.unusedVariables false
set_option linter.unusedSimpArgs false
namespace Go.Proofs.Ytdbapaofibgfcaa
open Go.RowKit
section
variable {P : Program} {w : World} {S : Nat → Prop}
theorem eq1_val {a b : AV} {va vb : Value} (h : eq1 a b = some true) (ha : Rep w S G0 a va) (hb : Rep w S G0 b vb) : va = vb := by
  cases a <;> cases b <;> simp only [eq1, reduceCtorEq] at h
  · split at h
    · rename_i hk
      have hk := of_decide_eq_true hk
      injection h with h
      have h := of_decide_eq_true h
      subst hk; subst h
      rw [ha.int_inv, hb.int_inv]
    · cases h
  · injection h with h
    have h := eq_of_beq h
    subst h
    rw [ha.bool_inv, hb.bool_inv]
  · injection h with h
    rename_i s s'
    have e : s = s' := (MapKept.bytes_beq s s').1 (by rw [bytes_eqb]; exact h)
    rw [ha.str_inv, hb.str_inv, e]
theorem eqL_at : ∀ {cs ds : List AV}, eqL cs ds = some true → cs.length = ds.length ∧ ∀ i (h : i < cs.length) (h' : i < ds.length), eq1 cs[i] ds[i] = some true
  | [], [], _ => ⟨rfl, fun i h => absurd h (by simp)⟩
  | [], _ :: _, h => by simp [eqL] at h
  | _ :: _, [], h => by simp [eqL] at h
  | a :: cs, b :: ds, h => by
    unfold eqL at h
    split at h
    · rename_i c c' h1 h2
      injection h with h
      simp only [Bool.and_eq_true] at h
      obtain ⟨rfl, rfl⟩ := h
      obtain ⟨i1, i2⟩ := eqL_at h2
      refine ⟨by simp [i1], fun i hi hi' => ?_⟩
      cases i with
      | zero => exact h1
      | succ i => exact i2 i (by simpa using hi) (by simpa using hi')
    · cases h
theorem eqK_val {a b : AV} {va vb : Value} (h : eqK a b = some true) (ha : Rep w S G0 a va) (hb : Rep w S G0 b vb) : va = vb := by
  by_cases hag : ∃ cs ds, a = .agg cs ∧ b = .agg ds
  · obtain ⟨cs, ds, rfl, rfl⟩ := hag
    obtain ⟨vs, ev, hl, hr, _⟩ := ha.agg_inv
    obtain ⟨us, eu, hl', hr', _⟩ := hb.agg_inv
    obtain ⟨e1, e2⟩ := eqL_at h
    rw [ev, eu]
    congr 1
    apply Array.ext (by omega)
    intro i h1 h2
    have := eq1_val (e2 i (by omega) (by omega)) (hr i (by omega)) (hr' i (by omega))
    simpa [Array.getD, h1, h2] using this
  · have : eqK a b = eq1 a b := by
      cases a <;> cases b <;> first | rfl | exact absurd ⟨_, _, rfl, rfl⟩ hag
    exact eq1_val (this ▸ h) ha hb
theorem findK_at {k : AV} : ∀ {l : List AV} {i j : Nat}, findK k l i = some (some j) → i ≤ j ∧ ∃ h : j - i < l.length, eqK k l[j - i] = some true
  | [], i, j, h => by simp [findK] at h
  | a :: r, i, j, h => by
    simp only [findK] at h
    cases hc : eqK k a with
    | none => rw [hc] at h; cases h
    | some c =>
      rw [hc] at h
      cases c with
      | true =>
        simp only [Option.some.injEq] at h
        subst h
        exact ⟨Nat.le_refl _, by simp, by simpa using hc⟩
      | false =>
        obtain ⟨h1, h2, h3⟩ := findK_at h
        have e : j - i = (j - (i + 1)) + 1 := by omega
        refine ⟨by omega, by simp; omega, ?_⟩
        simp only [e, List.getElem_cons_succ]
        exact h3
def putK (r : Option Nat) (k x : AV) (ps : List (AV × AV)) : List (AV × AV) := match r with | some j => ps.set j (k, x) | none => ps ++ [(k, x)]
theorem update_run {T kt et : TypeId} {k x : AV} {vk vx : Value} {g : Nat} {ps : List (AV × AV)} {r : Option Nat} (hT : P.underlying T = some (.map kt et)) (ht : keyFl P kt k = true) (hk : Rep w S G0 k vk) (hx : Rep w S G0 x vx) (hm : MapIs w S g ps)
    (hf : findK k (ps.map (·.1)) 0 = some r) (hg : ¬ S g) : ∃ o, (Instr.mapUpdate T (.map (some g)) vk vx).run P w = .ok () { w with heap := w.heap.setIfInBounds g o } ∧ MapIs { w with heap := w.heap.setIfInBounds g o } S g (putK r k x ps) := by
  obtain ⟨es, clock, hb, hl, he⟩ := hm
  have hlt : g < w.heap.size := by
    rcases Nat.lt_or_ge g w.heap.size with h | h
    · exact h
    · rw [Array.getElem?_eq_none h] at hb; cases hb
  obtain ⟨f1, f2⟩ := findKey_run ht hk es.toList ps r (by simpa using hl) he hf
  have mv : ∀ (o : Obj) {a : AV} {v : Value}, Rep w S G0 a v → Rep { w with heap := w.heap.setIfInBounds g o } S G0 a v := fun o a v h =>
    h.mono (by simp) (fun b hS hb => ⟨by
      have : b ≠ g := fun e => hg (e ▸ hS)
      simp [Array.getElem?_setIfInBounds, Ne.symm this], hS⟩)
  cases r with
  | none =>
    refine ⟨.map (es.push ⟨vk, vx, clock⟩) (clock + 1), ?_, ?_⟩
    · simp [Instr.mapUpdate, run_underlying hT, MapKept.run_getObj_map hb, checkK _ ht hk, f1, MapKept.run_setObj_map _ hb, Result.andThen]
    · refine ⟨es.push ⟨vk, vx, clock⟩, clock + 1, by simp [Array.getElem?_setIfInBounds, hlt], by simp [putK, hl], fun j h h' => ?_⟩
      simp only [Array.toList_push, putK] at h h' ⊢
      by_cases hj : j < es.toList.length
      · have hj' : j < ps.length := by simp at hj; omega
        rw [List.getElem_append_left hj, List.getElem_append_left hj']
        exact ⟨mv _ (he j hj hj').1, mv _ (he j hj hj').2⟩
      · have e1 : j = es.toList.length := by simp at h hj ⊢; omega
        have e2 : j = ps.length := by simp at e1; omega
        rw [List.getElem_append_right (by omega), List.getElem_append_right (by omega)]
        simp only [e1, Nat.sub_self, List.getElem_singleton]
        exact ⟨mv _ hk, mv _ hx⟩
  | some j =>
    have hj := f2 j rfl
    have hj' : j < ps.length := by simp at hj; omega
    obtain ⟨_, h2, h3⟩ := findK_at hf
    simp only [Nat.sub_zero, List.getElem_map] at h3
    have hje : j < es.size := by simpa using hj
    have hv : es[j].key = vk := by
      have := (he j hj hj').1
      exact (eqK_val h3 hk (by simpa using this)).symm
    refine ⟨.map (es.modify j fun e => { e with key := vk, val := vx }) clock, ?_, ?_⟩
    · simp [Instr.mapUpdate, run_underlying hT, MapKept.run_getObj_map hb, checkK _ ht hk, f1, MapKept.run_setObj_map _ hb, Result.andThen, hje, hv, stayK ht hk]
    · refine ⟨es.modify j fun e => { e with key := vk, val := vx }, clock, by simp [Array.getElem?_setIfInBounds, hlt], by simp [putK, hl], fun i h h' => ?_⟩
      simp only [putK, List.length_set] at h'
      have hi : i < es.toList.length := by simp; omega
      simp only [Array.toList_modify, putK, List.getElem_set, List.getElem_modify]
      by_cases hij : j = i
      · rw [if_pos hij, if_pos hij]
        exact ⟨mv _ hk, mv _ hx⟩
      · rw [if_neg hij, if_neg hij]
        exact ⟨mv _ (he i hi h').1, mv _ (he i hi h').2⟩
end
end Go.Proofs.Ytdbapaofibgfcaa
