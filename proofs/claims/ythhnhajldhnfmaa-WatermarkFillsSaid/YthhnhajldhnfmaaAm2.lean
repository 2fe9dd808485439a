/- Contracts of layers 34 and 35 that were walked by hand, as contracts of the abstract walk. -/
import Derived.Test.YthhnhajldhnfmaaAm1
import Derived.Test.YthhnhajldhnfmaaPunL
import Derived.Test.YthhnhajldhnfmaaPunF
set_option linter.unusedVariables false
set_option linter.unusedSimpArgs false
namespace Go.Proofs.Ythhnhajldhnfmaa
open Go.RowKit

theorem rep_sl_of {α : Type} {w : World} {S : Nat → Prop} {sz : Nat} {enc : α → List Value} {a : α → AV} {v : Value} {l : List α} (h : Sl w S sz enc v l) (hlen : ∀ x ∈ l, (a x).cells.length = sz) (hlen2 : ∀ x ∈ l, (enc x).length = sz) (h1 : ∀ x ∈ l, ∀ u ∈ enc x, u.oneCell' = true)
    (hr : ∀ x ∈ l, ∀ j (hj : j < (a x).cells.length), Rep w S G0 ((a x).cells[j]) ((enc x).getD j undef)) : Rep w S G0 (.sl sz (l.map a)) v := by
  obtain ⟨A, c, rfl, hc, hx⟩ := h
  have e : l.length = (l.map a).length := by simp
  rw [e]
  refine .sl A c (fun k j => if h : k < l.length ∧ j < sz then (enc l[k]).getD j undef else .bool true) (by simpa using hc) (fun k hk => ?_) (fun h0 => ?_) (fun k hk j hj => ?_) (fun k j => ?_)
  · simp only [List.getElem_map]; exact hlen _ (List.getElem_mem _)
  · obtain ⟨b, off, hA, hS, hb, hcell⟩ := hx (by simpa using h0)
    refine ⟨b, off, hA, hS, hb, fun k j hk hj => ?_⟩
    have hk' : k < l.length := by simpa using hk
    rw [dif_pos ⟨hk', hj⟩]
    refine hcell k hk' j _ ?_
    have hl := hlen2 _ (List.getElem_mem hk')
    rw [List.getD_eq_getElem?_getD, List.getElem?_eq_getElem (by omega)]
    rfl
  · have hk' : k < l.length := by simpa using hk
    simp only [List.getElem_map] at hj ⊢
    have hl := hlen _ (List.getElem_mem hk')
    rw [dif_pos ⟨hk', by omega⟩]
    exact hr _ (List.getElem_mem hk') j hj
  · by_cases h : k < l.length ∧ j < sz
    · rw [dif_pos h]
      have hl := hlen2 _ (List.getElem_mem h.1)
      rw [List.getD_eq_getElem?_getD, List.getElem?_eq_getElem (by omega)]
      exact h1 _ (List.getElem_mem h.1) _ (List.getElem_mem _)
    · rw [dif_neg h]; rfl
theorem sl_of_rep {α : Type} {w : World} {S : Nat → Prop} {γ : Gam} {sz : Nat} {enc : α → List Value} {a : α → AV} {v : Value} {l : List α} (h : Rep w S γ (.sl sz (l.map a)) v) (hl : ∀ x ∈ l, (enc x).length = (a x).cells.length)
    (hr : ∀ x ∈ l, ∀ j (hj : j < (a x).cells.length) u, Rep w S G0 ((a x).cells[j]) u → (enc x)[j]? = some u) : Sl w S sz enc v l := by
  obtain ⟨A, c, rfl, hc, hlen, cell, hb, hrr, _⟩ := h.sl_inv
  refine ⟨A, c, by simp, by simpa using hc, fun h0 => ?_⟩
  obtain ⟨b, off, hA, hS, hb', hcell⟩ := hb (by simpa using h0)
  refine ⟨b, off, hA, hS, hb', fun k hk j u hu => ?_⟩
  have hk' : k < (l.map a).length := by simpa using hk
  have hj0 := (List.getElem?_eq_some_iff.1 hu).1
  have hll := hl _ (List.getElem_mem hk)
  have hlk := hlen k hk'
  simp only [List.getElem_map] at hlk
  have hj : j < (a l[k]).cells.length := by omega
  rw [hcell k j hk' (by omega)]
  have h2 := hrr k hk' j (by simpa using hj)
  simp only [List.getElem_map] at h2
  have h3 := hr _ (List.getElem_mem hk) j hj _ h2
  rw [hu] at h3
  exact h3.symm
theorem int_cell {w : World} {S : Nat → Prop} {n : Int} {j : Nat} (hj : j < (aI n).cells.length) {u : Value} (h : Rep w S G0 ((aI n).cells[j]) u) : (encI n)[j]? = some u := by
  have : j = 0 := by simpa [aI, AV.cells] using hj
  subst this
  have h : Rep w S G0 (aI n) u := h
  rw [h.int_inv]; rfl
theorem rep_ints {w : World} {S : Nat → Prop} {v : Value} {l : List Int} : Rep w S G0 (aInts l) v ↔ Ints w S v l := by
  constructor
  · intro h
    exact sl_of_rep h (fun x _ => rfl) (fun x _ j hj u hu => int_cell hj hu)
  · intro h
    refine rep_sl_of h (fun x _ => rfl) (fun x _ => rfl) (fun x _ u hu => ?_) (fun x _ j hj => ?_)
    · simp only [encI, List.mem_singleton] at hu; subst hu; rfl
    · have : j = 0 := by simpa [aI, AV.cells] using hj
      subst this
      exact .int _ _
theorem rep_pts {w : World} {S : Nat → Prop} {v : Value} {l : List Pt} : Rep w S G0 (aPts l) v ↔ Pts w S v l := by
  constructor
  · intro h
    refine sl_of_rep h (fun x _ => rfl) (fun x _ j hj u hu => ?_)
    have hj' : j < 2 := hj
    rcases j with _ | _ | j
    · have hu : Rep w S G0 (aI x.seq) u := hu
      rw [hu.int_inv]; rfl
    · have hu : Rep w S G0 (aI x.time) u := hu
      rw [hu.int_inv]; rfl
    · omega
  · intro h
    refine rep_sl_of h (fun x _ => rfl) (fun x _ => rfl) (fun x _ u hu => ?_) (fun x _ j hj => ?_)
    · simp only [encP, List.mem_cons, List.not_mem_nil, or_false] at hu; rcases hu with rfl | rfl <;> rfl
    · have hj' : j < 2 := hj
      rcases j with _ | _ | j
      · exact .int _ _
      · exact .int _ _
      · omega
theorem getD4 {vs : Array Value} (h : vs.size = 4) : vs = #[vs.getD 0 undef, vs.getD 1 undef, vs.getD 2 undef, vs.getD 3 undef] := by
  obtain ⟨l⟩ := vs
  match l, h with
  | [a, b, c, d], _ => rfl
theorem getD2 {vs : Array Value} (h : vs.size = 2) : vs = #[vs.getD 0 undef, vs.getD 1 undef] := by
  obtain ⟨l⟩ := vs
  match l, h with
  | [a, b], _ => rfl
theorem getD1 {vs : Array Value} (h : vs.size = 1) : vs = #[vs.getD 0 undef] := by
  obtain ⟨l⟩ := vs
  match l, h with
  | [a], _ => rfl
theorem getD3 {vs : Array Value} (h : vs.size = 3) : vs = #[vs.getD 0 undef, vs.getD 1 undef, vs.getD 2 undef] := by
  obtain ⟨l⟩ := vs
  match l, h with
  | [a, b, c], _ => rfl
theorem rep_trk {w : World} {S : Nat → Prop} {v : Value} {t : Trk} : Rep w S G0 (aTrk t) v ↔ TrkV w S v t := by
  constructor
  · intro h
    obtain ⟨vs, rfl, hl, hr, _⟩ := h.agg_inv
    have e := getD4 hl
    have h0 : Rep w S G0 (aI t.next) (vs.getD 0 undef) := hr 0 (by simp)
    have h1 : Rep w S G0 (aInts t.beyond) (vs.getD 1 undef) := hr 1 (by simp)
    have h2 : Rep w S G0 (aPts t.points) (vs.getD 2 undef) := hr 2 (by simp)
    have h3 : Rep w S G0 (aI t.mark) (vs.getD 3 undef) := hr 3 (by simp)
    refine ⟨vs.getD 1 undef, vs.getD 2 undef, ?_, rep_ints.1 h1, rep_pts.1 h2⟩
    rw [← h0.int_inv, ← h3.int_inv, ← e]
  · rintro ⟨vb, vp, rfl, hB, hP⟩
    have rB := rep_ints.2 hB
    have rP := rep_pts.2 hP
    refine .agg _ rfl (fun i hi => ?_) (fun i hi => ?_)
    · have hi' : i < 4 := hi
      rcases i with _ | _ | _ | _ | i
      · exact .int _ _
      · exact rB
      · exact rP
      · exact .int _ _
      · omega
    · have hi' : i < 4 := hi
      rcases i with _ | _ | _ | _ | i
      · rfl
      · obtain ⟨A, c, rfl, _⟩ := hB; rfl
      · obtain ⟨A, c, rfl, _⟩ := hP; rfl
      · rfl
      · omega
theorem rep_pt {w : World} {S : Nat → Prop} {γ : Gam} {v : Value} {p : Pt} (h : Rep w S γ (aPt p) v) : v = .agg #[.int .i64 p.seq, .int .i64 p.time] := by
  obtain ⟨vs, rfl, hl, hr, _⟩ := h.agg_inv
  have e := getD2 hl
  have h0 : Rep w S γ (aI p.seq) (vs.getD 0 undef) := hr 0 (by simp)
  have h1 : Rep w S γ (aI p.time) (vs.getD 1 undef) := hr 1 (by simp)
  rw [← h0.int_inv, ← h1.int_inv, ← e]

section
variable {fr : Bool} {f : FuncId} {a b c res : AV}
theorem Con.of0 (he : Enters E0 f) (h : ∀ w, Calls E0.P f #[] w fun e w' => ∃ v, e = .returned v ∧ Below w.heap.size w w' ∧ Rep w' (fun b => w.heap.size ≤ b) G0 res v) : Con E0 fr f [] res :=
  ⟨he, fun S w vs ⟨hl, hr⟩ => by
    have : vs = #[] := Array.eq_empty_of_size_eq_zero hl
    subst this
    exact (h w).mono (fun e w' ⟨v, h1, h2, h3⟩ => ⟨v, h1, h2, h3.mono (Nat.le_refl _) (fun b hb _ => ⟨rfl, Or.inr hb⟩)⟩)⟩
theorem Con.of1 (he : Enters E0 f) (h : ∀ S w x, Rep w S G0 a x → Calls E0.P f #[x] w fun e w' => ∃ v, e = .returned v ∧ Below w.heap.size w w' ∧ Rep w' (fun b => (fr = false ∧ S b) ∨ w.heap.size ≤ b) G0 res v) : Con E0 fr f [a] res :=
  ⟨he, fun S w vs ⟨hl, hr⟩ => by
    have e := getD1 hl
    have h0 := hr 0 (by simp)
    rw [e]
    exact h S w _ h0⟩
theorem Con.of2 (he : Enters E0 f) (h : ∀ S w x y, Rep w S G0 a x → Rep w S G0 b y → Calls E0.P f #[x, y] w fun e w' => ∃ v, e = .returned v ∧ Below w.heap.size w w' ∧ Rep w' (fun b => (fr = false ∧ S b) ∨ w.heap.size ≤ b) G0 res v) : Con E0 fr f [a, b] res :=
  ⟨he, fun S w vs ⟨hl, hr⟩ => by
    have e := getD2 hl
    have h0 := hr 0 (by simp)
    have h1 := hr 1 (by simp)
    rw [e]
    exact h S w _ _ h0 h1⟩
theorem Con.of3 (he : Enters E0 f) (h : ∀ S w x y z, Rep w S G0 a x → Rep w S G0 b y → Rep w S G0 c z → Calls E0.P f #[x, y, z] w fun e w' => ∃ v, e = .returned v ∧ Below w.heap.size w w' ∧ Rep w' (fun b => (fr = false ∧ S b) ∨ w.heap.size ≤ b) G0 res v) : Con E0 fr f [a, b, c] res :=
  ⟨he, fun S w vs ⟨hl, hr⟩ => by
    have e := getD3 hl
    have h0 := hr 0 (by simp)
    have h1 := hr 1 (by simp)
    have h2 := hr 2 (by simp)
    rw [e]
    exact h S w _ _ _ h0 h1 h2⟩
end
theorem few_con (t : Trk) : Con E0 true 15 [aTrk t] (.bool (decide (t.beyond.length ≤ 300) && decide (t.points.length ≤ 300))) :=
  Con.of1 (enters_of Try.func15 rfl rfl) fun S w x hx => (few_any t S x w (rep_trk.1 hx)).mono fun e w' ⟨h1, h2⟩ => ⟨_, h1, h2, .bool _⟩
theorem awake_con : Con E0 true 16 [] (.bool true) :=
  Con.of0 (enters_of Try.func16 rfl rfl) fun w => (awake_any w).mono fun e w' ⟨h1, h2⟩ => ⟨_, h1, h2, .bool _⟩
theorem puCheck_con (t : Trk) : Con E0 true 19 [aTrk t] (aI (puCheck t)) :=
  Con.of1 (enters_of Try.func19 rfl rfl) fun S w x hx => (puCheck_any t S x w (rep_trk.1 hx)).mono fun e w' ⟨h1, h2⟩ => ⟨_, h1, h2, .int _ _⟩
theorem rpuCheck_con (t : Trk) : Con E0 true 20 [aTrk t] (aI (puCheck t)) :=
  Con.of1 (enters_of Try.func20 rfl rfl) fun S w x hx => (rpuCheck_any t S x w (rep_trk.1 hx)).mono fun e w' ⟨h1, h2⟩ => ⟨_, h1, h2, .int _ _⟩
theorem rep_be {w : World} {S : Nat → Prop} {γ : Gam} (b : Bool) (n : Int) : Rep w S γ (.tup [.bool b, aI n]) (.tuple #[.bool b, .int .i64 n]) :=
  .tup _ rfl fun i hi => by
    have hi' : i < 2 := hi
    rcases i with _ | _ | i
    · exact .bool _
    · exact .int _ _
    · omega
theorem allows_con (t : Trk) (seq time : Int) (hl1 : t.beyond.length ≤ 1000000000) (hl2 : t.points.length ≤ 1000000000) : Con E0 true 17 [aTrk t, aI seq, aI time] (.tup [.bool (allowsT t seq time).1, aI (allowsT t seq time).2]) :=
  Con.of3 (enters_of Try.func17 rfl rfl) fun S w x y z hx hy hz => by
    rw [hy.int_inv, hz.int_inv]
    exact (allows_any t seq time S x w (rep_trk.1 hx) hl1 hl2).mono fun e w' ⟨h1, h2⟩ => ⟨_, h1, h2, rep_be _ _⟩
theorem same_con (t u : Trk) (hl1 : t.beyond.length ≤ 1000000000) (hl2 : t.points.length ≤ 1000000000) : Con E0 true 25 [aTrk t, aTrk u] (.bool (decide (t = u))) :=
  Con.of2 (enters_of Try.func25 rfl rfl) fun S w x y hx hy => (same_any t u S S x y w (rep_trk.1 hx) (rep_trk.1 hy) hl1 hl2).mono fun e w' ⟨h1, h2⟩ => ⟨_, h1, h2, .bool _⟩
theorem add_con (t : Trk) (p : Pt) (hl1 : t.beyond.length ≤ 1000000) (hl2 : t.points.length ≤ 1000000) : Con E0 true 23 [aTrk t, aPt p] (.tup [aTrk (addT t p).1, aI (addT t p).2]) :=
  Con.of2 (enters_of Try.func23 rfl rfl) fun S w x y hx hy => by
    rw [rep_pt hy]
    refine (add_any t p S x w (rep_trk.1 hx) hl1 hl2).mono fun e w' ⟨A, c, A', c', h1, h2, h3, h4⟩ => ⟨_, h1, h4, ?_⟩
    have := rep_trk.2 (RetTE.trkV h2 h3)
    refine .tup _ rfl fun i hi => ?_
    have hi' : i < 2 := hi
    rcases i with _ | _ | i
    · exact this.mono (Nat.le_refl _) (fun b hb _ => ⟨rfl, Or.inr hb⟩)
    · exact .int _ _
    · omega
end Go.Proofs.Ythhnhajldhnfmaa
