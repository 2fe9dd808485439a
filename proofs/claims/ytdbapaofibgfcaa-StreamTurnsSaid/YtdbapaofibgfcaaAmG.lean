/- The abstract walk, seventh part: literals, slicing, append, make, closures. -/
import Derived.Test.YtdbapaofibgfcaaAmF
import Derived.Laws.Tables
import Derived.Laws.MakeOwn
set_option linter.unusedVariables false
set_option linter.unusedSimpArgs false
namespace Go.Proofs.Ytdbapaofibgfcaa
open Go.RowKit

/-! ### Literals -/
def CRel (w : World) (S : Nat → Prop) (γ : Gam) (cells : Array Value) (cs : List AV) : Prop :=
  cells.size = cs.length ∧ (∀ i (hi : i < cs.length), Rep w S γ cs[i] (cells.getD i undef)) ∧ ∀ i, i < cells.size → (cells.getD i undef).oneCell' = true
def fillA (place : Nat → Option (Nat × Nat)) : List AV → List (Nat × AV) → Option (List AV)
  | cells, [] => some cells
  | cells, (i, v) :: r => match place i with
    | none => none
    | some (off, size) => match Nat.beq v.cells.length size && Nat.ble (off + size) cells.length with
      | true => fillA place (cells.take off ++ v.cells ++ cells.drop (off + size)) r
      | false => none

theorem splice_foldl (off : Nat) : ∀ (l : List Value) (n : Nat) (cells : Array Value), ((l.zipIdx n).foldl (fun cs p => cs.setIfInBounds (off + p.2) p.1) cells).size = cells.size ∧
    ∀ m, ((l.zipIdx n).foldl (fun cs p => cs.setIfInBounds (off + p.2) p.1) cells).getD m undef = if off + n ≤ m ∧ m < off + n + l.length ∧ m < cells.size then l.getD (m - (off + n)) undef else cells.getD m undef
  | [], n, cells => ⟨rfl, fun m => by rw [if_neg (by simp; omega)]; rfl⟩
  | v :: r, n, cells => by
    simp only [List.zipIdx_cons, List.foldl_cons]
    obtain ⟨h1, h2⟩ := splice_foldl off r (n + 1) (cells.setIfInBounds (off + n) v)
    refine ⟨by rw [h1]; simp, fun m => ?_⟩
    rw [h2 m]
    simp only [Array.size_setIfInBounds, List.length_cons]
    by_cases hm : m = off + n
    · subst hm
      rw [if_neg (by omega)]
      by_cases hb : off + n < cells.size
      · rw [if_pos (by omega)]
        simp [Array.getD_eq_getD_getElem?, hb]
      · rw [if_neg (by omega)]
        simp [Array.getD_eq_getD_getElem?, hb]
    · have hset : (cells.setIfInBounds (off + n) v).getD m undef = cells.getD m undef := by
        simp only [Array.getD_eq_getD_getElem?, Array.getElem?_setIfInBounds_ne (Ne.symm hm)]
      rw [hset]
      by_cases hc : off + (n + 1) ≤ m ∧ m < off + (n + 1) + r.length ∧ m < cells.size
      · rw [if_pos hc, if_pos (by omega)]
        rw [show m - (off + n) = (m - (off + (n + 1))) + 1 by omega]
        simp
      · rw [if_neg hc, if_neg (by omega)]

theorem fill_rel {w : World} {S : Nat → Prop} {γ : Gam} {place : Nat → Option (Nat × Nat)} {f : Operand → Value} {g : Operand → AV} : ∀ (ops : List (Nat × Operand)) (cells : Array Value) (cs cs' : List AV), (∀ p ∈ ops, CRel w S γ (f p.2).cells (g p.2).cells) → CRel w S γ cells cs →
    fillA place cs (ops.map fun p => (p.1, g p.2)) = some cs' → ∃ cells', Instr.fill place cells (ops.map fun p => (p.1, f p.2)) = some cells' ∧ CRel w S γ cells' cs'
  | [], cells, cs, cs', _, hr, h => by
    simp only [List.map_nil, fillA, Option.some.injEq] at h
    subst h
    exact ⟨cells, rfl, hr⟩
  | (i, x) :: r, cells, cs, cs', hp, hr, h => by
    simp only [List.map_cons, fillA] at h
    obtain ⟨q1, q2, q3⟩ := hp (i, x) (by simp)
    simp only at q1 q2 q3
    cases hpl : place i with
    | none => rw [hpl] at h; simp at h
    | some os =>
      obtain ⟨off, size⟩ := os
      rw [hpl] at h
      simp only at h
      split at h
      · rename_i hcond
        simp only [Bool.and_eq_true] at hcond
        have hc1 : (g x).cells.length = size := Nat.eq_of_beq_eq_true hcond.1
        have hc2 : off + size ≤ cs.length := Nat.le_of_ble_eq_true hcond.2
        simp only [List.map_cons, Instr.fill, hpl]
        have hns : ¬ (((f x).cells.size ≠ size || off + (f x).cells.size > cells.size) = true) := by
          have := hr.1
          simp only [Bool.or_eq_true, decide_eq_true_eq]
          simp only [q1] at *
          omega
        rw [if_neg hns]
        refine fill_rel r _ _ cs' (fun p hp' => hp p (by simp [hp'])) ?_ h
        have hfold : ((f x).cells.zipIdx.foldl (fun cs (p : Value × Nat) => cs.setIfInBounds (off + p.2) p.1) cells) = (((f x).cells.toList.zipIdx 0).foldl (fun cs p => cs.setIfInBounds (off + p.2) p.1) cells) := by
          rw [← Array.foldl_toList, Array.toList_zipIdx]
        have hfold' : ((f x).cells.zipIdx.foldl (fun cs x => match x with | (c, j) => cs.setIfInBounds (off + j) c) cells) = (((f x).cells.toList.zipIdx 0).foldl (fun cs p => cs.setIfInBounds (off + p.2) p.1) cells) := hfold
        obtain ⟨s1, s2⟩ := splice_foldl off (f x).cells.toList 0 cells
        have hcl : (cs.take off ++ (g x).cells ++ cs.drop (off + size)).length = cs.length := by simp; omega
        have hval : ∀ m, m < cs.length → (((f x).cells.toList.zipIdx 0).foldl (fun cs p => cs.setIfInBounds (off + p.2) p.1) cells).getD m undef = if off ≤ m ∧ m < off + size then (f x).cells.getD (m - off) undef else cells.getD m undef := fun m hm => by
          rw [s2 m]
          have hrs := hr.1
          have hls : (f x).cells.toList.length = size := by rw [Array.length_toList]; omega
          by_cases hc : off ≤ m ∧ m < off + size
          · rw [if_pos hc, if_pos (by omega)]
            simp [Array.getD_eq_getD_getElem?, List.getD_eq_getElem?_getD]
          · rw [if_neg hc, if_neg (by omega)]
        have hres : CRel w S γ (((f x).cells.toList.zipIdx 0).foldl (fun cs p => cs.setIfInBounds (off + p.2) p.1) cells) (cs.take off ++ (g x).cells ++ cs.drop (off + size)) := by
          refine ⟨by rw [s1, hcl]; exact hr.1, fun m hm => ?_, fun m hm => ?_⟩
          · rw [hcl] at hm
            rw [hval m hm]
            by_cases h1 : m < off
            · rw [if_neg (by omega), List.getElem_append_left (by simp; omega), List.getElem_append_left (by simp; omega), List.getElem_take]
              exact hr.2.1 m hm
            · by_cases h2 : m < off + size
              · rw [if_pos (by omega), List.getElem_append_left (by simp; omega), List.getElem_append_right (by simp; omega)]
                have hlen : (cs.take off).length = off := by simp; omega
                simp only [hlen]
                exact q2 (m - off) (by omega)
              · rw [if_neg (by omega), List.getElem_append_right (by simp; omega), List.getElem_drop]
                have hlen : off + size + (m - (cs.take off ++ (g x).cells).length) = m := by simp; omega
                simp only [hlen]
                exact hr.2.1 m hm
          · rw [s1] at hm
            rw [hval m (by have := hr.1; omega)]
            by_cases hc : off ≤ m ∧ m < off + size
            · rw [if_pos hc]; exact q3 (m - off) (by omega)
            · rw [if_neg hc]; exact hr.2.2 m hm
        rw [hfold']
        exact hres
      · cases h

theorem crel_zero (w : World) (S : Nat → Prop) (γ : Gam) (z : Value) (hz : z.cells.all (·.oneCell') = true) : CRel w S γ z.cells (z.cells.toList.map AV.ofV) := by
  refine ⟨by simp, fun j hj => ?_, fun j hj => ?_⟩
  · have hj' : j < z.cells.size := by simpa using hj
    have : z.cells.getD j undef = z.cells[j] := by simp [Array.getD, hj']
    simp only [List.getElem_map, Array.getElem_toList, this]
    exact rep_ofV _ _ _ _
  · have : z.cells.getD j undef = z.cells[j] := by simp [Array.getD, hj]
    rw [this]
    simp only [Array.all_eq_true] at hz
    exact hz j hj

section
variable {cx : Cx} {o : Oper} {σ : AS}
def partsA (σ : AS) (ps : Array (Nat × Operand)) : List (Nat × AV) := ps.toList.map fun p => (p.1, σ.eval p.2)
def partIds (l : List (Nat × AV)) : List Nat := l.flatMap fun p => p.2.ids
def partsOk (σ : AS) (ps : Array (Nat × Operand)) : Bool := ps.toList.all fun p => opdOk p.2 && okc σ (σ.eval p.2)

theorem parts_rel {γ : Gam} {τ : AS} {a : Act} {w : World} {ps : Array (Nat × Operand)} (hst : StG cx γ τ a w) (hok : partsOk σ ps = true) (h1 : ∀ p ∈ ps.toList, τ.eval p.2 = σ.eval p.2) (h2 : ∀ id ∈ partIds (partsA σ ps), τ.find id = σ.find id) :
    ∀ p ∈ ps.toList, CRel w (Sg cx.S0 cx.w0.heap.size γ) γ (a.eval p.2).cells (σ.eval p.2).cells := fun p hp => by
  simp only [partsOk, List.all_eq_true, Bool.and_eq_true] at hok
  obtain ⟨k1, k2⟩ := hok p hp
  have hev := hst.ev p.2 k1
  rw [h1 p hp] at hev
  exact cells_rep hst hev k2 (fun id hid => h2 id (List.mem_flatMap.2 ⟨(p.1, σ.eval p.2), List.mem_map.2 ⟨p, hp, rfl⟩, hid⟩))

theorem info_of_cells {P : Program} {e esz : Nat} (h : P.cellsOf e = esz) (hz : esz ≠ 0) : ∃ info, P.info? e = some info ∧ info.size = esz := by
  unfold Program.cellsOf at h
  cases hq : P.info? e with
  | none => rw [hq] at h; simp at h; exact absurd h.symm hz
  | some info => rw [hq] at h; simp at h; exact ⟨info, rfl, h⟩
theorem places_of {P : Program} (Fs : List Field) (h : ∀ f ∈ Fs, P.cellsOf f.type ≠ 0) : Fs.mapM (fun f => (P.info? f.type).map fun i => (f.offset, i.size)) = some (Fs.map fun f => (f.offset, P.cellsOf f.type)) := by
  induction Fs with
  | nil => rfl
  | cons f r ih =>
    obtain ⟨info, hi, hs⟩ := info_of_cells rfl (h f (by simp))
    rw [List.mapM_cons, ih (fun g hg => h g (by simp [hg]))]
    simp [hi, hs]

theorem r_build_strct {T : Nat} {ps : Array (Nat × Operand)} {i : TyI} {fs : List (Nat × Nat × Option Bool)} {cs : List AV} (ho : o.op = .build T ps) (hd : dok cx o = true) (hT : lkT cx.E.tab T = some i) (hs : i.shape = .strct fs) (hz : i.zero.cells.all (·.oneCell') = true) (hok : partsOk σ ps = true)
    (hfs : fs.all (fun f => !(Nat.beq f.2.1 0)) = true) (hf : fillA (fun j => (fs[j]?).map fun f => (f.1, f.2.1)) (i.zero.cells.toList.map AV.ofV) (partsA σ ps) = some cs) : OpRule cx o σ (.agg cs) (partIds (partsA σ ps)) [] :=
  rule_val hd fun τ γ a w h1 h2 hst => by
    have hrel := parts_rel hst hok (fun p hp => h1 p.2 (by simp only [ho, Op.operands, List.mem_toArray, List.mem_map]; exact ⟨p, hp, rfl⟩)) h2
    have hokT := cx.E.ok T i hT
    obtain ⟨Fs, hF, hfsE⟩ := und_strct hokT hs
    obtain ⟨cells', hfill, hc1, hc2, hc3⟩ := fill_rel (f := a.eval) (g := σ.eval) ps.toList i.zero.cells _ cs hrel (crel_zero w _ γ i.zero hz) hf
    have hpl : (fun j : Nat => (fs[j]?).map fun (f : Nat × Nat × Option Bool) => (f.1, f.2.1)) = fun j : Nat => (Fs.toList.map fun f => (f.offset, cx.P.cellsOf f.type))[j]? := by
      funext j
      rw [hfsE]
      simp [List.getElem?_map, Option.map_map]
      rfl
    rw [hpl] at hfill
    have hb : cx.P.built T ((ps.map fun p => (p.1, a.eval p.2)).toList) = some cells' := by
      obtain ⟨it, hit, hz'⟩ : ∃ it, cx.P.info? T = some it ∧ it.zero = some i.zero := by
        have := hokT.zero
        cases hq : cx.P.info? T with
        | none => rw [hq] at this; simp at this
        | some it => rw [hq] at this; exact ⟨it, rfl, by simpa using this⟩
      have hnz : ∀ f ∈ Fs.toList, cx.P.cellsOf f.type ≠ 0 := fun f hf => by
        simp only [hfsE, List.all_eq_true] at hfs
        have := hfs (f.offset, cx.P.cellsOf f.type, aggT cx.P f.type) (List.mem_map.2 ⟨f, hf, rfl⟩)
        intro e
        simp [e] at this
      unfold Program.built
      rw [hit, hF]
      simp only [hz', places_of Fs.toList hnz, Array.toList_map]
      simpa using hfill
    have hrun := run_build (P := cx.P) w T (ps.map fun p => (p.1, a.eval p.2)) cells' hb
    refine ⟨.agg cells', ?_, .agg cells' hc1 hc2 hc3⟩
    have e : (ps.map fun x => match x with | (i, x) => (i, a.eval x)) = ps.map fun p => (p.1, a.eval p.2) := rfl
    simp only [execOp, ho, e, Sem.run_bind, Sem.run_pure, Result.andThen_ok, hrun]
theorem und_arr {P : Program} {T : TypeId} {i : TyI} {n e esz : Nat} {ag : Option Bool} (h : TyOk P T i) (hs : i.shape = .arr n e esz ag) : P.underlying T = some (.array n e) ∧ P.cellsOf e = esz ∧ aggT P e = ag := by
  obtain ⟨d, hd, he⟩ := h.und
  rw [hs] at he
  cases d <;> simp only [shapeOf, Shape.arr.injEq, reduceCtorEq] at he
  obtain ⟨rfl, rfl, h2, h3⟩ := he
  exact ⟨hd, h2, h3⟩
theorem r_build_arr {T n e esz : Nat} {ag : Option Bool} {ps : Array (Nat × Operand)} {i : TyI} {cs : List AV} (ho : o.op = .build T ps) (hd : dok cx o = true) (hT : lkT cx.E.tab T = some i) (hs : i.shape = .arr n e esz ag) (hz : i.zero.cells.all (·.oneCell') = true) (hok : partsOk σ ps = true) (hesz : esz ≠ 0)
    (hf : fillA (fun j => some (j * esz, esz)) (i.zero.cells.toList.map AV.ofV) (partsA σ ps) = some cs) : OpRule cx o σ (.agg cs) (partIds (partsA σ ps)) [] :=
  rule_val hd fun τ γ a w h1 h2 hst => by
    have hrel := parts_rel hst hok (fun p hp => h1 p.2 (by simp only [ho, Op.operands, List.mem_toArray, List.mem_map]; exact ⟨p, hp, rfl⟩)) h2
    have hokT := cx.E.ok T i hT
    obtain ⟨hu, hce, _⟩ := und_arr hokT hs
    obtain ⟨cells', hfill, hc1, hc2, hc3⟩ := fill_rel (f := a.eval) (g := σ.eval) ps.toList i.zero.cells _ cs hrel (crel_zero w _ γ i.zero hz) hf
    have hb : cx.P.built T ((ps.map fun p => (p.1, a.eval p.2)).toList) = some cells' := by
      obtain ⟨it, hit, hz'⟩ : ∃ it, cx.P.info? T = some it ∧ it.zero = some i.zero := by
        have := hokT.zero
        cases hq : cx.P.info? T with
        | none => rw [hq] at this; simp at this
        | some it => rw [hq] at this; exact ⟨it, rfl, by simpa using this⟩
      obtain ⟨ie, hie, hie2⟩ := info_of_cells hce hesz
      unfold Program.built
      rw [hit, hu]
      simp only [hz', hie, hie2, Array.toList_map]
      exact hfill
    have hrun := run_build (P := cx.P) w T (ps.map fun p => (p.1, a.eval p.2)) cells' hb
    refine ⟨.agg cells', ?_, .agg cells' hc1 hc2 hc3⟩
    have e : (ps.map fun x => match x with | (i, x) => (i, a.eval x)) = ps.map fun p => (p.1, a.eval p.2) := rfl
    simp only [execOp, ho, e, Sem.run_bind, Sem.run_pure, Result.andThen_ok, hrun]
end
end Go.Proofs.Ytdbapaofibgfcaa
