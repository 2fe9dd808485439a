/- The abstract walk, eighth part: slices made, cut and grown; closures; calls. -/
import Derived.Test.YtdbapaofibgfcaaAmG
set_option linter.unusedVariables false
set_option linter.unusedSimpArgs false
namespace Go.Proofs.Ytdbapaofibgfcaa
open Go.RowKit

theorem closedL_mem {l : List AV} (h : AV.closedL l = true) : ∀ x ∈ l, x.closed = true := fun x hx => by
  obtain ⟨i, hi, rfl⟩ := List.mem_iff_getElem.1 hx
  exact AV.closedL_at h i hi
theorem cells_closed {x : AV} (h : x.closed = true) (j : Nat) (hj : j < x.cells.length) : (x.cells[j]).closed = true := by
  have single : x.cells = [x] → (x.cells[j]).closed = true := fun hc => by
    have h2 : ∀ y ∈ x.cells, y.closed = true := fun y hy => by
      rw [hc, List.mem_singleton] at hy
      rw [hy]; exact h
    exact h2 _ (List.getElem_mem hj)
  cases x with
  | agg cs => simp only [AV.closed] at h; exact AV.closedL_at h j hj
  | _ => exact single rfl
theorem flat_at {xs : List AV} {sz : Nat} (h : ∀ k (hk : k < xs.length), (xs[k]).cells.length = sz) : (xs.flatMap AV.cells).length = xs.length * sz ∧ ∀ k (hk : k < xs.length) j (hj : j < (xs[k]).cells.length), (xs.flatMap AV.cells)[k * sz + j]? = some ((xs[k]).cells[j]) := by
  induction xs with
  | nil => exact ⟨by simp, fun k hk => absurd hk (by simp)⟩
  | cons x r ih =>
    have hx := h 0 (by simp)
    simp only [List.getElem_cons_zero] at hx
    obtain ⟨i1, i2⟩ := ih (fun k hk => by have := h (k + 1) (by simpa using hk); simpa using this)
    refine ⟨by rw [List.flatMap_cons, List.length_append, hx, i1, List.length_cons, Nat.succ_mul]; omega, fun k hk j hj => ?_⟩
    rw [List.flatMap_cons]
    cases k with
    | zero =>
      simp only [List.getElem_cons_zero] at hj ⊢
      rw [Nat.zero_mul, Nat.zero_add, List.getElem?_append_left hj, List.getElem?_eq_getElem hj]
    | succ k =>
      simp only [List.getElem_cons_succ] at hj ⊢
      rw [List.getElem?_append_right (by rw [hx, Nat.succ_mul]; omega), hx, show (k + 1) * sz + j - sz = k * sz + j by rw [Nat.succ_mul]; omega]
      exact i2 k (by simpa using hk) j hj
theorem getD_of {vs : Array Value} {k : Nat} (h : k < vs.size) : vs[k]? = some (vs.getD k undef) := getElem?_of_getD h

section
variable {cx : Cx} {o : Oper} {σ : AS}

theorem mod_cell {z : Array Value} (hz : z.all (·.oneCell') = true) (h0 : 0 < z.size) (x : Nat) : (z[x % z.size]!).oneCell' = true := by
  have hlt := Nat.mod_lt x h0
  rw [getElem!_pos z _ hlt]
  simp only [Array.all_eq_true] at hz
  exact hz _ hlt

theorem run_buildSlice {P : Program} {T : Nat} {i ie : TyI} {e esz eb n : Nat} {parts : Array (Nat × Value)} {cells' : Array Value} (hT : TyOk P T i) (hs : i.shape = .slc e esz eb) (he : TyOk P e ie) (hz : esz ≠ 0) (hn : n * esz ≤ 16777216)
    (hf : Instr.fill (fun j => some (j * esz, esz)) ((Array.range (n * esz)).map (ie.zero.cells[· % ie.zero.cells.size]!)) parts.toList = some cells') (w : World) : (Instr.buildSlice T n parts).run P w = .ok (.slice (some ⟨w.heap.size, 0, none⟩) n n) (w.alloc (.cells cells' e)) := by
  obtain ⟨hu, hce, _⟩ := und_slc hT hs
  have hsz := size_of_cells hce hz w
  have hzr := he.zeroV w
  by_cases h0 : n * esz = 0
  · have hn0 : n = 0 := (Nat.mul_eq_zero.1 h0).resolve_right hz
    subst hn0
    have e1 : ((Array.range (0 * esz)).map (ie.zero.cells[· % ie.zero.cells.size]!)) = #[] := by simp
    rw [e1] at hf
    unfold Instr.buildSlice
    simp only [Sem.run_bind, run_underlying hu, Result.andThen_ok, hsz]
    rw [if_neg (by omega)]
    simp only [Nat.zero_mul, if_true, Sem.run_bind, Sem.run_pure, Result.andThen_ok]
    have e2 : ((Array.range 0).map fun x => (#[] : Array Value)[x % (#[] : Array Value).size]!) = #[] := by simp
    rw [e2, hf]
    simp [run_newRow, pure]
  · unfold Instr.buildSlice
    simp only [Sem.run_bind, run_underlying hu, Result.andThen_ok, hsz]
    rw [if_neg (by omega), if_neg h0]
    simp only [Sem.run_bind, hzr, Sem.run_pure, Result.andThen_ok]
    rw [hf]
    simp [run_newRow, pure]

/-- []T{..} that is only read from now on: it lies in a block without a name. -/
theorem r_buildSlice {T n : Nat} {ps : Array (Nat × Operand)} {i ie : TyI} {e esz eb : Nat} {xs : List AV} (ho : o.op = .buildSlice T n ps) (hd : dok cx o = true) (hT : lkT cx.E.tab T = some i) (hs : i.shape = .slc e esz eb) (he : lkT cx.E.tab e = some ie) (hz : esz ≠ 0) (hn : Nat.ble (n * esz) 16777216 = true)
    (hze : ie.zero.cells.all (·.oneCell') = true) (hz0 : Nat.blt 0 ie.zero.cells.size = true) (hok : partsOk σ ps = true) (hcl : AV.closedL xs = true) (hlen : xs.length = n) (hl : xs.all (fun x => Nat.beq x.cells.length esz) = true)
    (hf : fillA (fun j => some (j * esz, esz)) (List.replicate (n * esz) .any) (partsA σ ps) = some (xs.flatMap AV.cells)) : OpRule cx o σ (.sl esz xs) (partIds (partsA σ ps)) [] :=
  rule_grow hd fun τ γ a w h1 h2 hst => by
    have hrel := parts_rel hst hok (fun p hp => h1 p.2 (by simp only [ho, Op.operands, List.mem_toArray, List.mem_map]; exact ⟨p, hp, rfl⟩)) h2
    have hcell : ∀ j, (ie.zero.cells[j % ie.zero.cells.size]!).oneCell' = true := mod_cell hze (by simpa using hz0)
    have h0rel : CRel w (Sg cx.S0 cx.w0.heap.size γ) γ ((Array.range (n * esz)).map (ie.zero.cells[· % ie.zero.cells.size]!)) (List.replicate (n * esz) .any) := by
      refine ⟨by simp, fun j hj => by simp only [List.getElem_replicate]; exact .any _, fun j hj => ?_⟩
      have hj' : j < n * esz := by simpa using hj
      have : ((Array.range (n * esz)).map (ie.zero.cells[· % ie.zero.cells.size]!)).getD j undef = ie.zero.cells[j % ie.zero.cells.size]! := by
        rw [Array.getD_eq_getD_getElem?, Array.getElem?_map, Array.getElem?_range, if_pos hj']; rfl
      rw [this]
      exact hcell j
    obtain ⟨cells', hfill, hc1, hc2, hc3⟩ := fill_rel (f := a.eval) (g := σ.eval) ps.toList _ _ _ hrel h0rel hf
    have hrun := run_buildSlice (parts := ps.map fun p => (p.1, a.eval p.2)) (cx.E.ok T i hT) hs (cx.E.ok e ie he) hz (Nat.le_of_ble_eq_true hn) (by rw [Array.toList_map]; exact hfill) w
    have hbl : Below w.heap.size w (w.alloc (.cells cells' e)) := (Below.refl _ _).alloc (Nat.le_refl _) _
    have hblk : Blk (w.alloc (.cells cells' e)) w.heap.size e cells' := Blk.new w _ _
    have hlen' : ∀ k (hk : k < xs.length), (xs[k]).cells.length = esz := fun k hk => by
      simp only [List.all_eq_true] at hl
      exact Nat.eq_of_beq_eq_true (hl _ (List.getElem_mem hk))
    obtain ⟨g1, g2⟩ := flat_at hlen'
    have hin : ∀ k j, k < xs.length → j < esz → k * esz + j < xs.length * esz := fun k j hk hj => by
      have : (k + 1) * esz ≤ xs.length * esz := Nat.mul_le_mul_right _ hk
      rw [Nat.succ_mul] at this
      omega
    have hsz := hst.below.size
    refine ⟨.slice (some ⟨w.heap.size, 0, none⟩) n n, w.alloc (.cells cells' e), ?_, hbl, fun _ => Nat.le_refl _, ?_⟩
    · have e' : (ps.map fun x => match x with | (i, x) => (i, a.eval x)) = ps.map fun p => (p.1, a.eval p.2) := rfl
      simp only [execOp, ho, e', Sem.run_bind, Sem.run_pure, Result.andThen_ok, hrun]
    · subst hlen
      refine .sl (some ⟨w.heap.size, 0, none⟩) xs.length (fun k j => if k < xs.length ∧ j < esz then cells'.getD (k * esz + j) undef else .bool true) (Nat.le_refl _) hlen' (fun _ => ⟨w.heap.size, 0, rfl, Or.inr ⟨⟨hsz, fun h0 => by have := hst.gh _ h0; omega⟩, fun hown => by have := (hst.ge _ hown).2; omega⟩, by simp, fun k j hk hj => ?_⟩) (fun k hk j hj => ?_) (fun k j => ?_)
      · rw [if_pos ⟨hk, hj⟩, Nat.zero_add]
        exact blk_cells hblk _ (by rw [hc1, g1]; exact hin k j hk hj)
      · have hj' : j < esz := by rw [← hlen' k hk]; exact hj
        rw [if_pos ⟨hk, hj'⟩]
        have hlt : k * esz + j < (xs.flatMap AV.cells).length := by rw [g1]; exact hin k j hk hj'
        have := hc2 (k * esz + j) hlt
        have hq := g2 k hk j hj
        rw [List.getElem?_eq_getElem hlt] at hq
        injection hq with hq
        rw [hq] at this
        refine (this.mono hbl.size (fun b hS hlt => ⟨hbl.block b hlt, hS⟩)).close ?_
        exact cells_closed (AV.closedL_at hcl k hk) j hj
      · by_cases h : k < xs.length ∧ j < esz
        · rw [if_pos h]
          exact hc3 _ (by rw [hc1, g1]; exact hin k j h.1 h.2)
        · rw [if_neg h]; rfl

/-! ### x[lo:hi] -/
def bndA (σ : AS) (d : Nat) : Option Operand → Option Int
  | none => some d
  | some y => match σ.eval y with | .int _ n => some n | _ => none
def opdO : Option Operand → Bool
  | none => true
  | some y => opdOk y
theorem run_bound {P : Program} {w : World} (k : IntKind) (m y : Nat) (c : BoundsCode) (h : m ≤ y) : (Instr.sliceBound (.int k (m : Int)) y c).run P w = .ok m w := by
  have : (0 : Int) ≤ m ∧ (m : Int) ≤ y := by omega
  simp [Instr.sliceBound, asIntOf, this.1, this.2, pure, h]
theorem r_slice_sl {T sz l h : Nat} {x : Operand} {lo hi : Option Operand} {i : TyI} {e esz eb : Nat} {xs : List AV} (ho : o.op = .slice T x lo hi none) (hd : dok cx o = true) (hxo : opdOk x = true) (hlo : opdO lo = true) (hhi : opdO hi = true) (hx : σ.eval x = .sl sz xs) (hT : lkT cx.E.tab T = some i) (hs : i.shape = .slc e sz eb) (hz : sz ≠ 0)
    (h1 : bndA σ 0 lo = some (l : Int)) (h2 : bndA σ xs.length hi = some (h : Int)) (hlh : l ≤ h) (hh : h ≤ xs.length) : OpRule cx o σ (.sl sz ((xs.take h).drop l)) [] [] :=
  rule_val hd fun τ γ a w hh1 hh2 hst => by
    have hev := hst.ev x hxo
    rw [hh1 x (by simp [ho, Op.operands]), hx] at hev
    obtain ⟨A, c, ex, hc, hlen, cell, hb, hr, h1c⟩ := hev.sl_inv
    obtain ⟨hu, hce, _⟩ := und_slc (cx.E.ok T i hT) hs
    have hsz := size_of_cells hce hz w
    have hbh : ∃ hv : Option Value, hi.map a.eval = hv ∧ (match hv with | some v => Instr.sliceBound v c .sliceAcap | none => pure xs.length : Sem Nat).run cx.P w = .ok h w := by
      refine ⟨_, rfl, ?_⟩
      cases hi with
      | none => simp only [bndA, Option.some.injEq] at h2; have : xs.length = h := by omega
                simp [this]
      | some y =>
        have he := hst.ev y hhi
        rw [hh1 y (by simp [ho, Op.operands])] at he
        simp only [bndA] at h2
        cases hy : σ.eval y with
        | int k n =>
          rw [hy] at he h2
          simp only [Option.some.injEq] at h2
          subst h2
          simp only [Option.map_some, he.int_inv]
          exact run_bound k h c _ (by omega)
        | _ => rw [hy] at h2; simp at h2
    have hbl : (match lo.map a.eval with | some v => Instr.sliceBound v h .sliceB | none => pure 0 : Sem Nat).run cx.P w = .ok l w := by
      cases lo with
      | none => simp only [bndA, Option.some.injEq] at h1; have : l = 0 := by omega
                simp [this]
      | some y =>
        have he := hst.ev y hlo
        rw [hh1 y (by simp [ho, Op.operands])] at he
        simp only [bndA] at h1
        cases hy : σ.eval y with
        | int k n =>
          rw [hy] at he h1
          simp only [Option.some.injEq] at h1
          subst h1
          simp only [Option.map_some, he.int_inv]
          exact run_bound k l h _ hlh
        | _ => rw [hy] at h1; simp at h1
    obtain ⟨hv, hhv, hrun⟩ := hbh
    have hB : (Instr.sliceBounds true xs.length c (lo.map a.eval) (hi.map a.eval) none).run cx.P w = .ok (l, h, c) w := by
      rw [hhv]
      unfold Instr.sliceBounds
      cases hv with
      | none =>
        simp only [Sem.run_bind, Sem.run_pure, Result.andThen_ok] at hrun ⊢
        have : xs.length = h := by simpa using hrun
        subst this
        cases hlo' : lo.map a.eval with
        | none => rw [hlo'] at hbl; simp only [Sem.run_pure, Result.ok.injEq, and_true] at hbl ⊢; simp [hbl]
        | some v => rw [hlo'] at hbl; simp only [Option.isSome_none, Bool.false_eq_true, if_false, Sem.run_bind, Sem.run_pure, hbl, Result.andThen_ok]
      | some v =>
        simp only [if_true, Sem.run_bind, Sem.run_pure, Result.andThen_ok, hrun] at hrun ⊢
        cases hlo' : lo.map a.eval with
        | none => rw [hlo'] at hbl; simp only [Sem.run_pure, Result.ok.injEq, and_true] at hbl ⊢; simp [hbl]
        | some v => rw [hlo'] at hbl; simp only [Option.isSome_none, Bool.false_eq_true, if_false, Sem.run_bind, Sem.run_pure, hbl, Result.andThen_ok]
    have hlen' : ((xs.take h).drop l).length = h - l := by simp; omega
    refine ⟨.slice (if c = l then A else A.map (·.add (l * sz))) (h - l) (c - l), ?_, ?_⟩
    · simp only [execOp, ho, ex, Instr.sliceAt, Instr.slice, Sem.run_bind, Sem.run_pure, Result.andThen_ok, run_underlying hu, hB, hsz, Option.map_none]
    · rw [← hlen']
      refine .sl _ _ (fun k j => cell (l + k) j) (by omega) (fun k hk => ?_) (fun h0 => ?_) (fun k hk j hj => ?_) (fun k j => h1c _ _)
      · have hk' : l + k < xs.length := by omega
        simp only [List.getElem_drop, List.getElem_take]
        exact hlen _ hk'
      · obtain ⟨b, off, rfl, hS, hlt, hcell⟩ := hb (by omega)
        refine ⟨b, off + l * sz, ?_, hS, hlt, fun k j hk hj => ?_⟩
        · rw [if_neg (by omega)]
          simp [Addr.add_lit]
        · have := hcell (l + k) j (by omega) hj
          rw [show off + l * sz + (k * sz + j) = off + ((l + k) * sz + j) by rw [Nat.add_mul]; omega]
          exact this
      · have hk' : l + k < xs.length := by omega
        simp only [List.getElem_drop, List.getElem_take] at hj ⊢
        exact hr (l + k) hk' j hj
theorem r_slice_str {T l h : Nat} {x : Operand} {lo hi : Option Operand} {i : TyI} {s : ByteArray} (ho : o.op = .slice T x lo hi none) (hd : dok cx o = true) (hxo : opdOk x = true) (hlo : opdO lo = true) (hhi : opdO hi = true) (hx : σ.eval x = .str s) (hT : lkT cx.E.tab T = some i) (hs : i.shape = .str)
    (h1 : bndA σ 0 lo = some (l : Int)) (h2 : bndA σ s.size hi = some (h : Int)) (hlh : l ≤ h) (hh : h ≤ s.size) : OpRule cx o σ (.str (s.extract l h)) [] [] :=
  rule_val hd fun τ γ a w hh1 hh2 hst => by
    have hev := hst.ev x hxo
    rw [hh1 x (by simp [ho, Op.operands]), hx] at hev
    obtain ⟨d, hdu, he⟩ := (cx.E.ok T i hT).und
    rw [hs] at he
    cases d <;> simp only [shapeOf, reduceCtorEq] at he
    have hrun : ∃ hv : Option Value, hi.map a.eval = hv ∧ (match hv with | some v => Instr.sliceBound v s.size .sliceAlen | none => pure s.size : Sem Nat).run cx.P w = .ok h w := by
      refine ⟨_, rfl, ?_⟩
      cases hi with
      | none => simp only [bndA, Option.some.injEq] at h2; have : s.size = h := by omega
                simp [this]
      | some y =>
        have he := hst.ev y hhi
        rw [hh1 y (by simp [ho, Op.operands])] at he
        simp only [bndA] at h2
        cases hy : σ.eval y with
        | int k n =>
          rw [hy] at he h2
          simp only [Option.some.injEq] at h2
          subst h2
          simp only [Option.map_some, he.int_inv]
          exact run_bound k h _ _ (by omega)
        | _ => rw [hy] at h2; simp at h2
    have hbl : (match lo.map a.eval with | some v => Instr.sliceBound v h .sliceB | none => pure 0 : Sem Nat).run cx.P w = .ok l w := by
      cases lo with
      | none => simp only [bndA, Option.some.injEq] at h1; have : l = 0 := by omega
                simp [this]
      | some y =>
        have he := hst.ev y hlo
        rw [hh1 y (by simp [ho, Op.operands])] at he
        simp only [bndA] at h1
        cases hy : σ.eval y with
        | int k n =>
          rw [hy] at he h1
          simp only [Option.some.injEq] at h1
          subst h1
          simp only [Option.map_some, he.int_inv]
          exact run_bound k l h _ hlh
        | _ => rw [hy] at h1; simp at h1
    obtain ⟨hv, hhv, hrun⟩ := hrun
    have hB : (Instr.sliceBounds false s.size s.size (lo.map a.eval) (hi.map a.eval) none).run cx.P w = .ok (l, h, s.size) w := by
      rw [hhv]
      unfold Instr.sliceBounds
      cases hv with
      | none =>
        simp only [Sem.run_bind, Sem.run_pure, Result.andThen_ok] at hrun ⊢
        have : s.size = h := by simpa using hrun
        subst this
        cases hlo' : lo.map a.eval with
        | none => rw [hlo'] at hbl; simp only [Sem.run_pure, Result.ok.injEq, and_true] at hbl ⊢; simp [hbl]
        | some v => rw [hlo'] at hbl; simp only [Option.isSome_none, Bool.false_eq_true, if_false, Sem.run_bind, Sem.run_pure, hbl, Result.andThen_ok]
      | some v =>
        simp only [Bool.false_eq_true, if_false, Sem.run_bind, Sem.run_pure, Result.andThen_ok, hrun] at hrun ⊢
        cases hlo' : lo.map a.eval with
        | none => rw [hlo'] at hbl; simp only [Sem.run_pure, Result.ok.injEq, and_true] at hbl ⊢; simp [hbl]
        | some v => rw [hlo'] at hbl; simp only [Option.isSome_none, Bool.false_eq_true, if_false, Sem.run_bind, Sem.run_pure, hbl, Result.andThen_ok]
    refine ⟨.string (s.extract l h), ?_, .str _⟩
    simp only [execOp, ho, hev.str_inv, Instr.sliceAt, Instr.slice, Sem.run_bind, Sem.run_pure, Result.andThen_ok, run_underlying hdu, hB, Option.map_none, Option.isSome_none, Bool.false_eq_true, if_false]

/-! ### Conversions -/
theorem und_int {P : Program} {T : Nat} {i : TyI} {k : IntKind} (h : TyOk P T i) (hs : i.shape = .int k) : P.underlying T = some (.int k) := by
  obtain ⟨d, hd, he⟩ := h.und
  rw [hs] at he
  cases d <;> simp only [shapeOf, reduceCtorEq, Shape.int.injEq] at he
  subst he
  exact hd
theorem r_convert {T T' : Nat} {x : Operand} {i j : TyI} {k k' : IntKind} {n : Int} (ho : o.op = .convert T T' x) (hd : dok cx o = true) (hxo : opdOk x = true) (hx : σ.eval x = .int k n) (hT : lkT cx.E.tab T = some i) (hT' : lkT cx.E.tab T' = some j) (hs : j.shape = .int k') : OpRule cx o σ (.int k' (k'.wrap n)) [] [] :=
  rule_val hd fun τ γ a w h1 h2 hst => by
    have hev := hst.ev x hxo
    rw [h1 x (by simp [ho, Op.operands]), hx] at hev
    obtain ⟨d, hdd, _⟩ := (cx.E.ok T i hT).und
    have hu := und_int (cx.E.ok T' j hT') hs
    refine ⟨.int k' (k'.wrap n), ?_, .int _ _⟩
    simp only [execOp, ho, hev.int_inv, convert, Sem.run_bind, Sem.run_pure, Result.andThen_ok, run_underlying hdd, run_underlying hu, Conv.intToInt]

/-! ### Closures -/
theorem r_makeFunc {f : FuncId} {ps : Array Operand} {cs : List AV} (ho : o.op = .makeFunc (.func f) #[] ps) (hd : dok cx o = true) (hok : ps.toList.all opdOk = true) (hc : ps.toList.map σ.eval = cs) : OpRule cx o σ (.fn f cs) [] [] :=
  rule_val hd fun τ γ a w h1 h2 hst => by
    subst hc
    refine ⟨.func (.func f) #[] (ps.map a.eval), by simp [execOp, ho, Instr.makeFunc, pure], .fn _ (by simp) (fun i hi => ?_)⟩
    have hi' : i < ps.size := by simpa using hi
    have e : (ps.map a.eval).getD i undef = a.eval ps[i] := by simp [Array.getD, hi']
    rw [e]
    simp only [List.all_eq_true] at hok
    have hev := hst.ev ps[i] (hok _ (by simp))
    rw [h1 ps[i] (by simp [ho, Op.operands])] at hev
    simpa using hev
end
end Go.Proofs.Ytdbapaofibgfcaa
