/- Helpers over the type table: 64-bit ints, slices of known form, contracts given by hand. -/
import Derived.Test.YtdbapaofibgfcaaTab
set_option linter.unusedVariables false
set_option linter.unusedSimpArgs false
namespace Go.Proofs.Ytdbapaofibgfcaa
open Go.RowKit

def aI (n : Int) : AV := .int .i64 n

theorem wrap_in (n : Int) (h : -9223372036854775808 ≤ n ∧ n ≤ 9223372036854775807) : IntKind.i64.wrap n = n := IntWalk.i64_in _ h
theorem ret_i {a b : Int} {v : AV} (h : a = b) (hv : v = aI a) : RetX v (aI b) := RetX.mk (hv.trans (congrArg aI h))


theorem rep_sl_of {α : Type} {w : World} {S : Nat → Prop} {sz : Nat} {enc : α → List Value} {a : α → AV} {v : Value} {l : List α} (h : Sl w S sz enc v l) (hlen : ∀ x ∈ l, (a x).cells.length = sz) (hlen2 : ∀ x ∈ l, (enc x).length = sz) (h1 : ∀ x ∈ l, ∀ u ∈ enc x, u.oneCell' = true)
    (hr : ∀ x ∈ l, ∀ j (hj : j < (a x).cells.length), Rep w S G0 ((a x).cells[j]) ((enc x).getD j undef)) : Rep w S G0 (.sl sz (l.map a)) v := by
  obtain ⟨A, c, rfl, hc, hx⟩ := h
  have e : l.length = (l.map a).length := by simp
  rw [e]
  refine .sl A c (fun k j => if h : k < l.length ∧ j < sz then (enc l[k]).getD j undef else .bool true) (by simpa using hc) (fun k hk => ?_) (fun h0 => ?_) (fun k hk j hj => ?_) (fun k j => ?_)
  · simp only [List.getElem_map]; exact hlen _ (List.getElem_mem _)
  · obtain ⟨b, off, hA, hS, hb, hcell⟩ := hx (by simpa using h0)
    refine ⟨b, off, hA, hS, hb, fun k j hk hj => ?_⟩
    have hk' : k < l.length := by simpa using hk
    rw [dif_pos ⟨hk', hj⟩]
    refine hcell k hk' j _ ?_
    have hl := hlen2 _ (List.getElem_mem hk')
    rw [List.getD_eq_getElem?_getD, List.getElem?_eq_getElem (by omega)]
    rfl
  · have hk' : k < l.length := by simpa using hk
    simp only [List.getElem_map] at hj ⊢
    have hl := hlen _ (List.getElem_mem hk')
    rw [dif_pos ⟨hk', by omega⟩]
    exact hr _ (List.getElem_mem hk') j hj
  · by_cases h : k < l.length ∧ j < sz
    · rw [dif_pos h]
      have hl := hlen2 _ (List.getElem_mem h.1)
      rw [List.getD_eq_getElem?_getD, List.getElem?_eq_getElem (by omega)]
      exact h1 _ (List.getElem_mem h.1) _ (List.getElem_mem _)
    · rw [dif_neg h]; rfl
theorem sl_of_rep {α : Type} {w : World} {S : Nat → Prop} {γ : Gam} {sz : Nat} {enc : α → List Value} {a : α → AV} {v : Value} {l : List α} (h : Rep w S γ (.sl sz (l.map a)) v) (hl : ∀ x ∈ l, (enc x).length = (a x).cells.length)
    (hr : ∀ x ∈ l, ∀ j (hj : j < (a x).cells.length) u, Rep w S G0 ((a x).cells[j]) u → (enc x)[j]? = some u) : Sl w S sz enc v l := by
  obtain ⟨A, c, rfl, hc, hlen, cell, hb, hrr, _⟩ := h.sl_inv
  refine ⟨A, c, by simp, by simpa using hc, fun h0 => ?_⟩
  obtain ⟨b, off, hA, hS, hb', hcell⟩ := hb (by simpa using h0)
  refine ⟨b, off, hA, hS, hb', fun k hk j u hu => ?_⟩
  have hk' : k < (l.map a).length := by simpa using hk
  have hj0 := (List.getElem?_eq_some_iff.1 hu).1
  have hll := hl _ (List.getElem_mem hk)
  have hlk := hlen k hk'
  simp only [List.getElem_map] at hlk
  have hj : j < (a l[k]).cells.length := by omega
  rw [hcell k j hk' (by omega)]
  have h2 := hrr k hk' j (by simpa using hj)
  simp only [List.getElem_map] at h2
  have h3 := hr _ (List.getElem_mem hk) j hj _ h2
  rw [hu] at h3
  exact h3.symm

theorem getD4 {vs : Array Value} (h : vs.size = 4) : vs = #[vs.getD 0 undef, vs.getD 1 undef, vs.getD 2 undef, vs.getD 3 undef] := by
  obtain ⟨l⟩ := vs
  match l, h with
  | [a, b, c, d], _ => rfl
theorem getD2 {vs : Array Value} (h : vs.size = 2) : vs = #[vs.getD 0 undef, vs.getD 1 undef] := by
  obtain ⟨l⟩ := vs
  match l, h with
  | [a, b], _ => rfl
theorem getD1 {vs : Array Value} (h : vs.size = 1) : vs = #[vs.getD 0 undef] := by
  obtain ⟨l⟩ := vs
  match l, h with
  | [a], _ => rfl
theorem getD3 {vs : Array Value} (h : vs.size = 3) : vs = #[vs.getD 0 undef, vs.getD 1 undef, vs.getD 2 undef] := by
  obtain ⟨l⟩ := vs
  match l, h with
  | [a, b, c], _ => rfl

section
variable {fr : Bool} {f : FuncId} {a b c res : AV}
theorem belE0 {w w' : World} (h : Below w.heap.size w w') : BelE E0 w w' := ⟨h, fun h => Bool.noConfusion (show false = true from h)⟩
theorem Con.of0 (he : Enters E0 f) (h : ∀ w, Calls E0.P f #[] w fun e w' => ∃ v, e = .returned v ∧ Below w.heap.size w w' ∧ Rep w' (fun b => w.heap.size ≤ b) G0 res v) : Con E0 fr f [] res :=
  ⟨he, fun S w vs ⟨hl, hr⟩ => by
    have : vs = #[] := Array.eq_empty_of_size_eq_zero hl
    subst this
    exact (h w).mono (fun e w' ⟨v, h1, h2, h3⟩ => ⟨v, h1, belE0 h2, h3.mono (Nat.le_refl _) (fun b hb _ => ⟨rfl, Or.inr hb⟩)⟩)⟩
theorem Con.of1 (he : Enters E0 f) (h : ∀ S w x, Rep w S G0 a x → Calls E0.P f #[x] w fun e w' => ∃ v, e = .returned v ∧ Below w.heap.size w w' ∧ Rep w' (fun b => (fr = false ∧ S b) ∨ w.heap.size ≤ b) G0 res v) : Con E0 fr f [a] res :=
  ⟨he, fun S w vs ⟨hl, hr⟩ => by
    have e := getD1 hl
    have h0 := hr 0 (by simp)
    rw [e]
    exact (h S w _ h0).mono (fun e w' ⟨v, h1, h2, h3⟩ => ⟨v, h1, belE0 h2, h3⟩)⟩
theorem Con.of2 (he : Enters E0 f) (h : ∀ S w x y, Rep w S G0 a x → Rep w S G0 b y → Calls E0.P f #[x, y] w fun e w' => ∃ v, e = .returned v ∧ Below w.heap.size w w' ∧ Rep w' (fun b => (fr = false ∧ S b) ∨ w.heap.size ≤ b) G0 res v) : Con E0 fr f [a, b] res :=
  ⟨he, fun S w vs ⟨hl, hr⟩ => by
    have e := getD2 hl
    have h0 := hr 0 (by simp)
    have h1 := hr 1 (by simp)
    rw [e]
    exact (h S w _ _ h0 h1).mono (fun e w' ⟨v, h1, h2, h3⟩ => ⟨v, h1, belE0 h2, h3⟩)⟩
theorem Con.of3 (he : Enters E0 f) (h : ∀ S w x y z, Rep w S G0 a x → Rep w S G0 b y → Rep w S G0 c z → Calls E0.P f #[x, y, z] w fun e w' => ∃ v, e = .returned v ∧ Below w.heap.size w w' ∧ Rep w' (fun b => (fr = false ∧ S b) ∨ w.heap.size ≤ b) G0 res v) : Con E0 fr f [a, b, c] res :=
  ⟨he, fun S w vs ⟨hl, hr⟩ => by
    have e := getD3 hl
    have h0 := hr 0 (by simp)
    have h1 := hr 1 (by simp)
    have h2 := hr 2 (by simp)
    rw [e]
    exact (h S w _ _ _ h0 h1 h2).mono (fun e w' ⟨v, h1, h2, h3⟩ => ⟨v, h1, belE0 h2, h3⟩)⟩
end
end Go.Proofs.Ytdbapaofibgfcaa
