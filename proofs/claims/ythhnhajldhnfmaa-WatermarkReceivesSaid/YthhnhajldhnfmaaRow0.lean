/- Arguments opened: trackers, points. -/
import Derived.Test.YthhnhajldhnfmaaSeq
import Derived.ProofKit
import Derived.Lib.SmallJoins
import Derived.Deep.Slices
set_option linter.unusedVariables false
namespace Go.Proofs.Ythhnhajldhnfmaa
open Go.ChangeShapes Go.WideShapes Go.ChangeAt Go.RowKit Go.Joins Go.Deep

section
variable {H : Type} {enc : TypeId × Value → H} {W : World} {base : Nat} {v : Value} {d : DataW H} {p : List MemPlace}

theorem spot_none {a : Addr} {u : Value} (h : W.cell? a = some u) : a.spot = none ∧ a.block < W.heap.size := by
  unfold World.cell? at h
  split at h
  · rename_i c _ _ hg
    split at h
    · cases h
    · rename_i hs
      refine ⟨by cases hh : a.spot with | none => rfl | some _ => simp [hh] at hs, ?_⟩
      rcases Nat.lt_or_ge a.block W.heap.size with hlt | hge
      · exact hlt
      · rw [Array.getElem?_eq_none hge] at hg; cases hg
  · cases h
theorem add_eq (b off k : Nat) : (⟨b, off, none⟩ : Addr).add k = ⟨b, off + k, none⟩ := by
  by_cases h : k = 0 <;> simp [Addr.add, h]
theorem ints_open {n : Nat} {u : Value} {x : DataW H × List MemPlace} (h : DataW.trod enc Try.prog W 0 (fun _ => true) true n 22 [u] = some x) : ∃ l : List Int, Ints W (fun _ => True) u l := by
  rcases open_ints (k := .i64) Try.underlying22 Try.underlying3 (by kernel_rfl) h with ⟨h1, _⟩ | ⟨a, len, cap, zs, h1, _, hlc, hm, hz, _, hc, _⟩
  · simp only [List.cons.injEq, and_true] at h1
    subst h1
    exact ⟨[], Sl.nil_⟩
  · simp only [List.cons.injEq, and_true] at h1
    subst h1
    simp only [if_true] at hz
    refine ⟨zs.take len, some a, cap, by simp; omega, by simp; omega, fun h0 => ?_⟩
    simp only [List.length_take] at h0
    have c0 := spot_none (hc 0 (by omega))
    obtain ⟨b, off, sp⟩ := a
    have e1 : sp = none := c0.1
    have e2 : b < W.heap.size := c0.2
    subst e1
    refine ⟨b, off, rfl, trivial, e2, fun k hk j u hu => ?_⟩
    simp only [List.length_take] at hk
    have hk' : k < zs.length := by omega
    have := hc k hk'
    simp only [encI] at hu
    rcases j with _ | j
    · simp only [List.getElem?_cons_zero, Option.some.injEq] at hu
      subst hu
      rw [show off + (k * 1 + 0) = off + k by omega]
      rw [List.getElem_take]
      rw [List.getD_eq_getElem?_getD, List.getElem?_eq_getElem hk'] at this
      rw [add_eq] at this
      simpa using this
    · simp at hu
theorem cells_two {a : Addr} {cs : List Value} (h : W.cells? 0 a 2 = some cs) : ∃ c0 c1, cs = [c0, c1] ∧ W.cell? (a.add 0) = some c0 ∧ W.cell? (a.add 1) = some c1 := by
  unfold World.cells? at h
  rw [if_pos (Nat.zero_le _), show List.range 2 = [0, 1] from rfl] at h
  simp only [List.mapM_cons, List.mapM_nil] at h
  cases h0 : W.cell? (a.add 0) with
  | none => rw [h0] at h; simp at h
  | some c0 =>
    cases h1 : W.cell? (a.add 1) with
    | none => rw [h0, h1] at h; simp at h
    | some c1 =>
      rw [h0, h1] at h
      simp at h
      exact ⟨c0, c1, h.symm, rfl, rfl⟩
theorem point_cells {n : Nat} {cs : List Value} {x : DataW H × List MemPlace} (hl : ∃ c0 c1, cs = [c0, c1]) (h : DataW.trod enc Try.prog W 0 (fun _ => true) true n 27 cs = some x) : ∃ p : Pt, cs = encP p := by
  obtain ⟨c0, c1, rfl⟩ := hl
  obtain ⟨y0, y1, n', _, _, h0, h1⟩ := trod_struct2 Try.underlying27 h
  have e : Try.prog.cellsOf 3 = 1 := by kernel_rfl
  simp only [e, List.drop_zero, List.take_succ_cons, List.take_zero, List.drop_succ_cons] at h0 h1
  obtain ⟨z0, e0, _⟩ := DataW.trod_int (k := .i64) Try.underlying3 h0
  obtain ⟨z1, e1, _⟩ := DataW.trod_int (k := .i64) Try.underlying3 h1
  simp only [List.cons.injEq, and_true] at e0 e1
  exact ⟨⟨z0, z1⟩, by rw [e0, e1]; rfl⟩
theorem pts_open {n : Nat} {u : Value} {x : DataW H × List MemPlace} (h : DataW.trod enc Try.prog W 0 (fun _ => true) true n 23 [u] = some x) : ∃ l : List Pt, Pts W (fun _ => True) u l := by
  rcases open_slice Try.underlying23 h with ⟨h1, _⟩ | ⟨a, len, cap, m, n', D, Pl, h1, _, hlc, hm, hmm, _, hc⟩
  · simp only [List.cons.injEq, and_true] at h1
    subst h1
    exact ⟨[], Sl.nil_⟩
  · simp only [List.cons.injEq, and_true] at h1
    subst h1
    simp only [if_true] at hmm
    subst hmm
    have e : Try.prog.cellsOf 27 = 2 := by kernel_rfl
    rw [e] at hc
    have each : ∀ i, i < len → ∃ p : Pt, W.cell? ((a.add (i * 2)).add 0) = some (.int .i64 p.seq) ∧ W.cell? ((a.add (i * 2)).add 1) = some (.int .i64 p.time) := fun i hi => by
      obtain ⟨cs', h1, h2⟩ := hc i (by omega)
      obtain ⟨c0, c1, rfl, k0, k1⟩ := cells_two h1
      obtain ⟨p, hp⟩ := point_cells ⟨_, _, rfl⟩ h2
      simp only [encP, List.cons.injEq, and_true] at hp
      exact ⟨p, by rw [k0, hp.1], by rw [k1, hp.2]⟩
    have hch : ∃ f : Nat → Pt, ∀ i, i < len → W.cell? ((a.add (i * 2)).add 0) = some (.int .i64 (f i).seq) ∧ W.cell? ((a.add (i * 2)).add 1) = some (.int .i64 (f i).time) := by
      refine ⟨fun i => if hi : i < len then (each i hi).choose else ⟨0, 0⟩, fun i hi => ?_⟩
      dsimp only
      rw [dif_pos hi]
      exact (each i hi).choose_spec
    obtain ⟨f, hf⟩ := hch
    refine ⟨(List.range len).map f, some a, m, by simp, by simpa using hlc, fun h0 => ?_⟩
    simp only [List.length_map, List.length_range] at h0
    have c0 := spot_none (hf 0 h0).1
    obtain ⟨b, off, sp⟩ := a
    have e1 : sp = none := by
      have := c0.1
      simpa [Addr.add] using this
    subst e1
    rw [add_eq, add_eq] at c0
    refine ⟨b, off, rfl, trivial, c0.2, fun k hk j u hu => ?_⟩
    simp only [List.length_map, List.length_range] at hk
    obtain ⟨k0, k1⟩ := hf k hk
    rw [add_eq, add_eq] at k0 k1
    simp only [List.getElem_map, List.getElem_range, encP] at hu
    rcases j with _ | _ | j
    · simp only [List.getElem?_cons_zero, Option.some.injEq] at hu
      subst hu
      exact k0
    · simp only [List.getElem?_cons_succ, List.getElem?_cons_zero, Option.some.injEq] at hu
      subst hu
      exact k1
    · simp at hu
set_option maxRecDepth 100000 in
theorem trk_open (hv : Value.okWide Try.prog W .any base 25 v) (h : DataW.Trod enc Try.prog W 0 (fun _ => true) true 25 v d p) : ∃ t : Trk, TrkV W (fun _ => True) v t := by
  obtain ⟨v0, v1, v2, v3, y0, y1, y2, y3, n, rfl, _, _, h0, h1, h2, h3⟩ := open_agg4 Try.underlying25 (by kernel_rfl) (by kernel_rfl) hv h
  obtain ⟨z0, e0, _⟩ := DataW.trod_int (k := .i64) Try.underlying3 h0
  obtain ⟨z3, e3, _⟩ := DataW.trod_int (k := .i64) Try.underlying3 h3
  obtain ⟨lb, hb⟩ := ints_open h1
  obtain ⟨l, hl⟩ := pts_open h2
  simp only [List.cons.injEq, and_true] at e0 e3
  exact ⟨⟨z0, lb, l, z3⟩, v1, v2, by rw [e0, e3], hb, hl⟩
set_option maxRecDepth 100000 in
theorem pt_open (hv : Value.okWide Try.prog W .any base 27 v) (h : DataW.Trod enc Try.prog W 0 (fun _ => true) true 27 v d p) : ∃ s t : Int, v = .agg #[.int .i64 s, .int .i64 t] := by
  obtain ⟨v0, v1, y0, y1, n, rfl, _, _, h0, h1⟩ := open_agg2 Try.underlying27 (by kernel_rfl) (by kernel_rfl) hv h
  obtain ⟨z0, e0, _⟩ := DataW.trod_int (k := .i64) Try.underlying3 h0
  obtain ⟨z1, e1, _⟩ := DataW.trod_int (k := .i64) Try.underlying3 h1
  simp only [List.cons.injEq, and_true] at e0 e1
  exact ⟨z0, z1, by rw [e0, e1]⟩
set_option maxRecDepth 100000 in
theorem arr_open (hv : Value.okWide Try.prog W .any base 28 v) (h : DataW.Trod enc Try.prog W 0 (fun _ => true) true 28 v d p) : ∃ a0 a1 b0 b1 : Int, v = .agg #[.int .i64 a0, .int .i64 a1, .int .i64 b0, .int .i64 b1] := by
  simp only [Value.okWide, Try.underlying28] at hv
  obtain ⟨cs, rfl, hsz, _⟩ := hv
  have e4 : Try.prog.cellsOf 28 = 4 := by kernel_rfl
  have e2 : Try.prog.cellsOf 27 = 2 := by kernel_rfl
  obtain ⟨c0, c1, c2, c3, rfl⟩ := array4 (hsz.trans e4)
  obtain ⟨fuel, hf⟩ := h
  obtain ⟨xs, m, _, _, _, hl, hx⟩ := DataW.trod_array Try.underlying28 hf
  have x0 := hx 0 (by omega)
  have x1 := hx 1 (by omega)
  rw [List.getElem?_eq_getElem (by omega)] at x0 x1
  simp only [e2, Value.cells, Nat.zero_mul, List.drop_zero, Nat.one_mul, List.take_succ_cons, List.take_zero, List.drop_succ_cons] at x0 x1
  obtain ⟨p, hp⟩ := point_cells ⟨_, _, rfl⟩ x0
  obtain ⟨q, hq⟩ := point_cells ⟨_, _, rfl⟩ x1
  simp only [encP, List.cons.injEq, and_true] at hp hq
  exact ⟨p.seq, p.time, q.seq, q.time, by rw [hp.1, hp.2, hq.1, hq.2]⟩
end
end Go.Proofs.Ythhnhajldhnfmaa
