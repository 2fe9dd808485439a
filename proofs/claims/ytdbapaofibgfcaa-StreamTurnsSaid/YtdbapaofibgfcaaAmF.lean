/- The abstract walk, sixth part: slices, aggregates, closures, calls. -/
import Derived.Test.YtdbapaofibgfcaaAmE
set_option linter.unusedVariables false
set_option linter.unusedSimpArgs false
namespace Go.Proofs.Ytdbapaofibgfcaa
open Go.RowKit

theorem und_slc {P : Program} {T : TypeId} {i : TyI} {e esz eb : Nat} (h : TyOk P T i) (hs : i.shape = .slc e esz eb) : P.underlying T = some (.slice e) ∧ P.cellsOf e = esz ∧ P.bytesOf e = eb := by
  obtain ⟨d, hd, he⟩ := h.und
  rw [hs] at he
  cases d <;> simp only [shapeOf, Shape.slc.injEq, reduceCtorEq] at he
  obtain ⟨rfl, h2, h3⟩ := he
  exact ⟨hd, h2, h3⟩
theorem size_of_cells {P : Program} {e esz : Nat} (h : P.cellsOf e = esz) (hz : esz ≠ 0) (w : World) : (sizeOf e).run P w = .ok esz w := by
  unfold Program.cellsOf at h
  cases hq : P.info? e with
  | none => rw [hq] at h; simp at h; exact absurd h.symm hz
  | some info => rw [hq] at h; simp at h; simp [sizeOf, typeInfo, hq, h]

section
variable {cx : Cx} {o : Oper} {σ : AS}

theorem r_indexAddr_sl {T : Nat} {x y : Operand} {i : TyI} {e sz eb : Nat} {xs : List AV} {k : IntKind} {n : Int} {m : Nat} {el : AV} (ho : o.op = .indexAddr T x y) (hd : dok cx o = true) (hxo : opdOk x = true) (hyo : opdOk y = true) (hx : σ.eval x = .sl sz xs) (hy : σ.eval y = .int k n)
    (hT : lkT cx.E.tab T = some i) (hs : i.shape = .slc e sz eb) (hz : sz ≠ 0) (hn : n = (m : Int)) (he : xs[m]? = some el) : OpRule cx o σ (.ref el.cells) [] [] :=
  rule_val hd fun τ γ a w h1 h2 hst => by
    have hev := hst.ev x hxo
    rw [h1 x (by simp [ho, Op.operands]), hx] at hev
    have hevy := hst.ev y hyo
    rw [h1 y (by simp [ho, Op.operands]), hy] at hevy
    obtain ⟨hm, hel⟩ := List.getElem?_eq_some_iff.1 he
    obtain ⟨A, c, ex, hc, hlen, cell, hb, hr, h1c⟩ := hev.sl_inv
    obtain ⟨b, off, rfl, hS, hlt, hcell⟩ := hb (by omega)
    obtain ⟨hu, hce, _⟩ := und_slc (cx.E.ok T i hT) hs
    have hl := hlen m hm
    rw [hel] at hl
    refine ⟨.pointer (some ⟨b, off + m * sz, none⟩), ?_, .ref b (off + m * sz) (fun j => cell m j) hS hlt (fun j hj => ?_) (fun j hj => ?_) (fun j hj => h1c m j)⟩
    · subst hn
      simp [execOp, ho, ex, hevy.int_inv, Instr.indexAt, asIntOf, run_underlying hu, size_of_cells hce hz, hm, pure, Addr.add_lit]
    · have := hcell m j hm (by omega)
      rwa [← Nat.add_assoc] at this
    · have hj' : j < (xs[m]).cells.length := by rw [hel]; exact hj
      have := hr m hm j hj'
      simp only [hel] at this
      exact this
theorem r_indexAddr_row {T id : Nat} {x y : Operand} {i : TyI} {e sz eb : Nat} {ty : TypeId} {xs : List AV} {k : IntKind} {n : Int} {m : Nat} (ho : o.op = .indexAddr T x y) (hd : dok cx o = true) (hxo : opdOk x = true) (hyo : opdOk y = true) (hx : σ.eval x = .row id) (hy : σ.eval y = .int k n)
    (hl : σ.find id = some (.row ty sz xs)) (hT : lkT cx.E.tab T = some i) (hs : i.shape = .slc e sz eb) (hz : sz ≠ 0) (hn : n = (m : Int)) (hm : m < xs.length) : OpRule cx o σ (.elt id sz m 0) [id] [] :=
  rule_val hd fun τ γ a w h1 h2 hst => by
    have hev := hst.ev x hxo
    rw [h1 x (by simp [ho, Op.operands]), hx] at hev
    have hevy := hst.ev y hyo
    rw [h1 y (by simp [ho, Op.operands]), hy] at hevy
    have hme := hst.me id
    rw [h2 id (by simp), hl] at hme
    obtain ⟨d, hd', s, vs, hde, _, hown, _⟩ := hme
    subst hde
    obtain ⟨hu, hce, _⟩ := und_slc (cx.E.ok T i hT) hs
    have ex := hev.row_inv hd'
    rcases hown.2 with ⟨rfl, h0⟩ | ⟨g, cap, cur, rfl, _⟩
    · omega
    refine ⟨.pointer (some ⟨g, m * sz, none⟩), ?_, .elt hd' (fun g' s e => by injection e with e; injection e with e _; simp only [Value.ownBlock, Option.some.injEq] at e; rw [← e]; rfl)⟩
    subst hn
    simp [execOp, ho, ex, hevy.int_inv, Instr.indexAt, asIntOf, run_underlying hu, size_of_cells hce hz, hm, pure, Addr.add_lit]

/-! ### Elements of the call's own rows -/
theorem row_cells {w : World} {B ty sz n : Nat} {s : Value} {vs : List Value} {g : Nat} (h : w.ownsRow B ty sz s n vs) (hg : s.ownBlock = some g) (j : Nat) (hj : j < n * sz) : w.cell? ⟨g, j, none⟩ = some (vs.getD j undef) := by
  obtain ⟨hl, h⟩ := h
  rcases h with ⟨rfl, h0⟩ | ⟨g', cap, cur, rfl, hb, hh, hn, hm, hs, ht⟩
  · simp [Value.ownBlock] at hg
  · simp only [Value.ownBlock, Option.some.injEq] at hg
    subst hg
    have hsz : n * sz ≤ cap * sz := Nat.mul_le_mul_right _ hn
    rw [cell_of_row w g' j cur ty (0, 0) hh, ← ht]
    rw [List.getD_eq_getElem?_getD, List.getElem?_take_of_lt hj]
    simp only [Array.getElem?_toList]
    rw [Array.getElem?_eq_getElem (by omega)]
    rfl
theorem r_load_elt_agg {T id sz k : Nat} {x : Operand} {i : TyI} {ty : TypeId} {xs : List AV} {el : AV} (ho : o.op = .load T x) (hd : dok cx o = true) (hxo : opdOk x = true) (hx : σ.eval x = .elt id sz k 0) (hT : lkT cx.E.tab T = some i) (ha : i.shape.agg = true) (hl : σ.find id = some (.row ty sz xs)) (hsz : i.sz = sz) (he : xs[k]? = some el) :
    OpRule cx o σ (.agg el.cells) [id] [] :=
  rule_val hd fun τ γ a w h1 h2 hst => by
    have hev := hst.ev x hxo
    rw [h1 x (by simp [ho, Op.operands]), hx] at hev
    have hme := hst.me id
    rw [h2 id (by simp), hl] at hme
    obtain ⟨d, hd', s, vs, hde, _, hown, hlen, hr, hone⟩ := hme
    subst hde
    obtain ⟨hk, hel⟩ := List.getElem?_eq_some_iff.1 he
    have hg : ∃ g, s.ownBlock = some g := by
      rcases hown.2 with ⟨rfl, h0⟩ | ⟨g, cap, cur, rfl, _⟩
      · omega
      · exact ⟨g, rfl⟩
    obtain ⟨g, hg⟩ := hg
    rw [hg] at hd'
    have e := hev.elt_inv hd'
    have hle := hlen k hk
    rw [hel] at hle
    have hin : ∀ j, j < sz → k * sz + j < xs.length * sz := fun j hj => by
      have : (k + 1) * sz ≤ xs.length * sz := Nat.mul_le_mul_right _ hk
      rw [Nat.succ_mul] at this
      omega
    have hln : ((List.range i.sz).map fun j => vs.getD (k * sz + j) undef).length = i.sz := by simp
    have hrun := run_loadVar_agg (cx.E.ok T i hT) ha w ⟨g, k * sz + 0, none⟩ ((List.range i.sz).map fun j => vs.getD (k * sz + j) undef) hln (fun j v hj => by
      obtain ⟨hj1, hj2⟩ := List.getElem?_eq_some_iff.1 hj
      rw [hln] at hj1
      simp only [List.getElem_map, List.getElem_range] at hj2
      rw [Addr.add_lit, Nat.add_zero, row_cells hown hg _ (hin j (by omega)), hj2])
    refine ⟨.agg ((List.range i.sz).map fun j => vs.getD (k * sz + j) undef).toArray, by simp only [execOp, ho, e, Instr.loadAt, Instr.sureAddr, Sem.run_bind, Sem.run_pure, Result.andThen_ok, hrun], .agg _ (by simp; omega) (fun j hj => ?_) (fun j hj => ?_)⟩
    · have : ((List.range i.sz).map fun j => vs.getD (k * sz + j) undef).toArray.getD j undef = vs.getD (k * sz + j) undef := by
        have hj' : j < i.sz := by omega
        simp [hj']
      rw [this]
      have hj' : j < (xs[k]).cells.length := by rw [hel]; exact hj
      have := hr k hk j hj'
      simp only [hel] at this
      exact this.open_
    · have hj' : j < i.sz := by simpa using hj
      have : ((List.range i.sz).map fun j => vs.getD (k * sz + j) undef).toArray.getD j undef = vs.getD (k * sz + j) undef := by simp [hj']
      rw [this]
      have hb : k * sz + j < vs.length := by rw [hown.1]; exact hin j (by omega)
      rw [List.getD_eq_getElem?_getD, List.getElem?_eq_getElem hb]
      exact hone _ (List.getElem_mem hb)
theorem r_load_elt_one {T id sz k j : Nat} {x : Operand} {i : TyI} {ty : TypeId} {xs : List AV} {el av : AV} (ho : o.op = .load T x) (hd : dok cx o = true) (hxo : opdOk x = true) (hx : σ.eval x = .elt id sz k j) (hT : lkT cx.E.tab T = some i) (ha : i.shape.agg = false) (hl : σ.find id = some (.row ty sz xs)) (he : xs[k]? = some el) (hc : el.cells[j]? = some av) :
    OpRule cx o σ av [id] [] :=
  rule_val hd fun τ γ a w h1 h2 hst => by
    have hev := hst.ev x hxo
    rw [h1 x (by simp [ho, Op.operands]), hx] at hev
    have hme := hst.me id
    rw [h2 id (by simp), hl] at hme
    obtain ⟨d, hd', s, vs, hde, _, hown, hlen, hr, hone⟩ := hme
    subst hde
    obtain ⟨hk, hel⟩ := List.getElem?_eq_some_iff.1 he
    obtain ⟨hj, hcj⟩ := List.getElem?_eq_some_iff.1 hc
    have hg : ∃ g, s.ownBlock = some g := by
      rcases hown.2 with ⟨rfl, h0⟩ | ⟨g, cap, cur, rfl, _⟩
      · omega
      · exact ⟨g, rfl⟩
    obtain ⟨g, hg⟩ := hg
    rw [hg] at hd'
    have e := hev.elt_inv hd'
    have hle := hlen k hk
    rw [hel] at hle
    have hin : k * sz + j < xs.length * sz := by
      have : (k + 1) * sz ≤ xs.length * sz := Nat.mul_le_mul_right _ hk
      rw [Nat.succ_mul] at this
      omega
    have hrun := run_loadVar_one (cx.E.ok T i hT) ha w ⟨g, k * sz + j, none⟩ _ (row_cells hown hg _ hin)
    refine ⟨vs.getD (k * sz + j) undef, by simp only [execOp, ho, e, Instr.loadAt, Instr.sureAddr, Sem.run_bind, Sem.run_pure, Result.andThen_ok, hrun], ?_⟩
    have hj' : j < (xs[k]).cells.length := by rw [hel]; exact hj
    have := hr k hk j hj'
    simp only [hel, hcj] at this
    exact this.open_

/-! ### Aggregates by value -/
theorem getElem?_of_getD {vs : Array Value} {j : Nat} (h : j < vs.size) : vs[j]? = some (vs.getD j undef) := by
  rw [Array.getD_eq_getD_getElem?, Array.getElem?_eq_getElem h]; rfl
theorem r_field_one {T f fo fsz : Nat} {x : Operand} {i : TyI} {fs : List (Nat × Nat × Option Bool)} {cs : List AV} {av : AV} (ho : o.op = .field T x f) (hd : dok cx o = true) (hxo : opdOk x = true) (hx : σ.eval x = .agg cs) (hT : lkT cx.E.tab T = some i) (hs : i.shape = .strct fs) (hf : fs[f]? = some (fo, fsz, some false)) (hc : cs[fo]? = some av) :
    OpRule cx o σ av [] [] :=
  rule_val hd fun τ γ a w h1 h2 hst => by
    have hev := hst.ev x hxo
    rw [h1 x (by simp [ho, Op.operands]), hx] at hev
    obtain ⟨vs, e, hl, hr, h1c⟩ := hev.agg_inv
    obtain ⟨Fs, hF, rfl⟩ := und_strct (cx.E.ok T i hT) hs
    simp only [List.getElem?_map, Option.map_eq_some_iff, Prod.mk.injEq] at hf
    obtain ⟨fd, hfd, e1, e2, e3⟩ := hf
    have hfd' : Fs[f]? = some fd := by simpa using hfd
    obtain ⟨hlt, hc'⟩ := List.getElem?_eq_some_iff.1 hc
    have hagg := run_isAggT e3 w
    have hget := getElem?_of_getD (vs := vs) (j := fo) (by omega)
    refine ⟨vs.getD fo undef, ?_, ?_⟩
    · simp only [execOp, ho, e, Instr.field, Sem.run_bind, Sem.run_pure, Result.andThen_ok, run_underlying hF, hfd', asAgg, part, hagg, e1, hget]
      rfl
    · have := hr fo hlt
      rwa [hc'] at this
theorem r_field_agg {T f fo fsz : Nat} {x : Operand} {i : TyI} {fs : List (Nat × Nat × Option Bool)} {cs : List AV} (ho : o.op = .field T x f) (hd : dok cx o = true) (hxo : opdOk x = true) (hx : σ.eval x = .agg cs) (hT : lkT cx.E.tab T = some i) (hs : i.shape = .strct fs) (hf : fs[f]? = some (fo, fsz, some true)) (hz : fsz ≠ 0) (hc : fo + fsz ≤ cs.length) :
    OpRule cx o σ (.agg ((cs.drop fo).take fsz)) [] [] :=
  rule_val hd fun τ γ a w h1 h2 hst => by
    have hev := hst.ev x hxo
    rw [h1 x (by simp [ho, Op.operands]), hx] at hev
    obtain ⟨vs, e, hl, hr, h1c⟩ := hev.agg_inv
    obtain ⟨Fs, hF, rfl⟩ := und_strct (cx.E.ok T i hT) hs
    simp only [List.getElem?_map, Option.map_eq_some_iff, Prod.mk.injEq] at hf
    obtain ⟨fd, hfd, e1, e2, e3⟩ := hf
    have hfd' : Fs[f]? = some fd := by simpa using hfd
    have hagg := run_isAggT e3 w
    have hsz := size_of_cells e2 hz w
    have hx : ∀ j, j < fsz → (vs.extract fo (fo + fsz)).getD j undef = vs.getD (fo + j) undef := fun j hj => by
      rw [Array.getD_eq_getD_getElem?, Array.getD_eq_getD_getElem?, Array.getElem?_extract, if_pos (by omega)]
    refine ⟨.agg (vs.extract fo (fo + fsz)), ?_, .agg _ (by simp; omega) (fun j hj => ?_) (fun j hj => ?_)⟩
    · simp only [execOp, ho, e, Instr.field, Sem.run_bind, Sem.run_pure, Result.andThen_ok, run_underlying hF, hfd', asAgg, part, hagg, e1, if_true, hsz]
    · rw [List.length_take, List.length_drop] at hj
      rw [hx j (by omega)]
      simp only [List.getElem_take, List.getElem_drop]
      exact hr (fo + j) (by omega)
    · have hj' : j < fsz := by simp at hj; omega
      rw [hx j hj']
      exact h1c _ (by omega)
theorem r_index_one {T n e esz : Nat} {x y : Operand} {i : TyI} {cs : List AV} {av : AV} {k : IntKind} {m : Int} {q : Nat} (ho : o.op = .index T x y) (hd : dok cx o = true) (hxo : opdOk x = true) (hyo : opdOk y = true) (hx : σ.eval x = .agg cs) (hy : σ.eval y = .int k m) (hT : lkT cx.E.tab T = some i)
    (hs : i.shape = .arr n e esz (some false)) (hz : esz ≠ 0) (hm : m = (q : Int)) (hq : q < n) (hc : cs[q * esz]? = some av) : OpRule cx o σ av [] [] :=
  rule_val hd fun τ γ a w h1 h2 hst => by
    have hev := hst.ev x hxo
    rw [h1 x (by simp [ho, Op.operands]), hx] at hev
    have hevy := hst.ev y hyo
    rw [h1 y (by simp [ho, Op.operands]), hy] at hevy
    obtain ⟨vs, ex, hl, hr, h1c⟩ := hev.agg_inv
    obtain ⟨d, hdu, he⟩ := (cx.E.ok T i hT).und
    rw [hs] at he
    cases d <;> simp only [shapeOf, Shape.arr.injEq, reduceCtorEq] at he
    obtain ⟨hn, rfl, e2, e3⟩ := he
    subst hn
    obtain ⟨hlt, hc'⟩ := List.getElem?_eq_some_iff.1 hc
    have hagg := run_isAggT e3 w
    have hget := getElem?_of_getD (vs := vs) (j := q * esz) (by omega)
    subst hm
    have hres := hr (q * esz) hlt
    rw [hc'] at hres
    generalize vs.getD (q * esz) undef = u at *
    exact ⟨u, by simp [execOp, ho, ex, hevy.int_inv, Instr.index, asIntOf, run_underlying hdu, size_of_cells e2 hz, hq, part, hagg, hget, pure], hres⟩
theorem r_index_agg {T n e esz : Nat} {x y : Operand} {i : TyI} {cs : List AV} {k : IntKind} {m : Int} {q : Nat} (ho : o.op = .index T x y) (hd : dok cx o = true) (hxo : opdOk x = true) (hyo : opdOk y = true) (hx : σ.eval x = .agg cs) (hy : σ.eval y = .int k m) (hT : lkT cx.E.tab T = some i)
    (hs : i.shape = .arr n e esz (some true)) (hz : esz ≠ 0) (hm : m = (q : Int)) (hq : q < n) (hc : q * esz + esz ≤ cs.length) : OpRule cx o σ (.agg ((cs.drop (q * esz)).take esz)) [] [] :=
  rule_val hd fun τ γ a w h1 h2 hst => by
    have hev := hst.ev x hxo
    rw [h1 x (by simp [ho, Op.operands]), hx] at hev
    have hevy := hst.ev y hyo
    rw [h1 y (by simp [ho, Op.operands]), hy] at hevy
    obtain ⟨vs, ex, hl, hr, h1c⟩ := hev.agg_inv
    obtain ⟨d, hdu, he⟩ := (cx.E.ok T i hT).und
    rw [hs] at he
    cases d <;> simp only [shapeOf, Shape.arr.injEq, reduceCtorEq] at he
    obtain ⟨rfl, rfl, e2, e3⟩ := he
    have hagg := run_isAggT e3 w
    have hxx : ∀ j, j < esz → (vs.extract (q * esz) (q * esz + esz)).getD j undef = vs.getD (q * esz + j) undef := fun j hj => by
      rw [Array.getD_eq_getD_getElem?, Array.getD_eq_getD_getElem?, Array.getElem?_extract, if_pos (by omega)]
    subst hm
    refine ⟨.agg (vs.extract (q * esz) (q * esz + esz)), ?_, .agg _ (by simp; omega) (fun j hj => ?_) (fun j hj => ?_)⟩
    · simp [execOp, ho, ex, hevy.int_inv, Instr.index, asIntOf, run_underlying hdu, size_of_cells e2 hz, hq, part, hagg, pure]
    · rw [List.length_take, List.length_drop] at hj
      rw [hxx j (by omega)]
      simp only [List.getElem_take, List.getElem_drop]
      exact hr (q * esz + j) (by omega)
    · have hj' : j < esz := by simp at hj; omega
      rw [hxx j hj']
      exact h1c _ (by omega)
theorem r_extract {x : Operand} {ix : Nat} {cs : List AV} {av : AV} (ho : o.op = .extract x ix) (hd : dok cx o = true) (hxo : opdOk x = true) (hx : σ.eval x = .tup cs) (hc : cs[ix]? = some av) : OpRule cx o σ av [] [] :=
  rule_val hd fun τ γ a w h1 h2 hst => by
    have hev := hst.ev x hxo
    rw [h1 x (by simp [ho, Op.operands]), hx] at hev
    obtain ⟨vs, e, hl, hr⟩ := hev.tup_inv
    obtain ⟨hlt, hc'⟩ := List.getElem?_eq_some_iff.1 hc
    have hget := getElem?_of_getD (vs := vs) (j := ix) (by omega)
    have hres := hr ix hlt
    rw [hc'] at hres
    generalize vs.getD ix undef = u at *
    exact ⟨u, by simp [execOp, ho, e, Instr.extract, hget, pure], hres⟩

/-! ### Length -/
theorem r_len_sl {T ty sz : Nat} {x : Operand} {i : TyI} {e esz eb : Nat} {xs : List AV} (ho : o.op = .call { callee := .builtin .len, args := #[x], argTypes := #[T] }) (hd : dok cx o = true) (hxo : opdOk x = true) (hx : σ.eval x = .sl sz xs) (hT : lkT cx.E.tab T = some i) (hs : i.shape = .slc e esz eb) :
    OpRule cx o σ (.int .i64 (xs.length : Int)) [] [] :=
  rule_val hd fun τ γ a w h1 h2 hst => by
    have hev := hst.ev x hxo
    rw [h1 x (by simp [ho, Op.operands, Call.operands]), hx] at hev
    obtain ⟨A, c, ex, _⟩ := hev.sl_inv
    obtain ⟨hu, _, _⟩ := und_slc (cx.E.ok T i hT) hs
    exact ⟨.int .i64 (xs.length : Int), by simp [execOp, ho, resolve, invoke, builtin, Builtin.len_, ex, run_underlying hu, goInt, pure], .int _ _⟩
theorem r_len_nils {T ty : Nat} {x : Operand} {i : TyI} {e esz eb : Nat} (ho : o.op = .call { callee := .builtin .len, args := #[x], argTypes := #[T] }) (hd : dok cx o = true) (hxo : opdOk x = true) (hx : σ.eval x = .nils) (hT : lkT cx.E.tab T = some i) (hs : i.shape = .slc e esz eb) :
    OpRule cx o σ (.int .i64 0) [] [] :=
  rule_val hd fun τ γ a w h1 h2 hst => by
    have hev := hst.ev x hxo
    rw [h1 x (by simp [ho, Op.operands, Call.operands]), hx] at hev
    obtain ⟨hu, _, _⟩ := und_slc (cx.E.ok T i hT) hs
    exact ⟨.int .i64 0, by simp [execOp, ho, resolve, invoke, builtin, Builtin.len_, hev.nils_inv, run_underlying hu, goInt, pure], .int _ _⟩
theorem r_len_row {T id sz : Nat} {x : Operand} {i : TyI} {e esz eb : Nat} {ty : TypeId} {xs : List AV} (ho : o.op = .call { callee := .builtin .len, args := #[x], argTypes := #[T] }) (hd : dok cx o = true) (hxo : opdOk x = true) (hx : σ.eval x = .row id) (hl : σ.find id = some (.row ty sz xs)) (hT : lkT cx.E.tab T = some i) (hs : i.shape = .slc e esz eb) :
    OpRule cx o σ (.int .i64 (xs.length : Int)) [id] [] :=
  rule_val hd fun τ γ a w h1 h2 hst => by
    have hev := hst.ev x hxo
    rw [h1 x (by simp [ho, Op.operands, Call.operands]), hx] at hev
    have hme := hst.me id
    rw [h2 id (by simp), hl] at hme
    obtain ⟨d, hd', s, vs, hde, _, hown, _⟩ := hme
    subst hde
    have e := hev.row_inv hd'
    obtain ⟨hu, _, _⟩ := und_slc (cx.E.ok T i hT) hs
    have hsl : ∃ A c, s = .slice A xs.length c := by
      rcases hown.2 with ⟨rfl, h0⟩ | ⟨g, cap, cur, rfl, _⟩
      · exact ⟨none, 0, by rw [h0]⟩
      · exact ⟨_, _, rfl⟩
    obtain ⟨A, c, rfl⟩ := hsl
    exact ⟨.int .i64 (xs.length : Int), by simp [execOp, ho, resolve, invoke, builtin, Builtin.len_, e, run_underlying hu, goInt, pure], .int _ _⟩
theorem r_len_str {T : Nat} {x : Operand} {i : TyI} {s : ByteArray} (ho : o.op = .call { callee := .builtin .len, args := #[x], argTypes := #[T] }) (hd : dok cx o = true) (hxo : opdOk x = true) (hx : σ.eval x = .str s) (hT : lkT cx.E.tab T = some i) (hs : i.shape = .str) :
    OpRule cx o σ (.int .i64 (s.size : Int)) [] [] :=
  rule_val hd fun τ γ a w h1 h2 hst => by
    have hev := hst.ev x hxo
    rw [h1 x (by simp [ho, Op.operands, Call.operands]), hx] at hev
    obtain ⟨d, hdu, he⟩ := (cx.E.ok T i hT).und
    rw [hs] at he
    cases d <;> simp only [shapeOf, reduceCtorEq] at he
    exact ⟨.int .i64 (s.size : Int), by simp [execOp, ho, resolve, invoke, builtin, Builtin.len_, hev.str_inv, run_underlying hdu, goInt, pure], .int _ _⟩

/-! ### min, max -/
theorem r_max {T : Array TypeId} {x y : Operand} {k k' : IntKind} {a b : Int} (ho : o.op = .call { callee := .builtin .max, args := #[x, y], argTypes := T }) (hd : dok cx o = true) (hxo : opdOk x = true) (hyo : opdOk y = true) (hx : σ.eval x = .int k a) (hy : σ.eval y = .int k' b) : OpRule cx o σ (.int k (max a b)) [] [] :=
  rule_val hd fun τ γ ac w h1 h2 hst => by
    have e1 := hst.ev x hxo
    rw [h1 x (by simp [ho, Op.operands, Call.operands]), hx] at e1
    have e2 := hst.ev y hyo
    rw [h1 y (by simp [ho, Op.operands, Call.operands]), hy] at e2
    have hm : (if b > a then b else a) = max a b := by split <;> omega
    refine ⟨.int k (max a b), ?_, .int _ _⟩
    rw [← hm]
    simp only [execOp, ho, resolve, invoke, builtin, Sem.run_bind, Sem.run_pure, Result.andThen_ok, List.map_toArray, List.map_cons, List.map_nil, e1.int_inv, e2.int_inv]
    rfl
theorem r_min {T : Array TypeId} {x y : Operand} {k k' : IntKind} {a b : Int} (ho : o.op = .call { callee := .builtin .min, args := #[x, y], argTypes := T }) (hd : dok cx o = true) (hxo : opdOk x = true) (hyo : opdOk y = true) (hx : σ.eval x = .int k a) (hy : σ.eval y = .int k' b) : OpRule cx o σ (.int k (min a b)) [] [] :=
  rule_val hd fun τ γ ac w h1 h2 hst => by
    have e1 := hst.ev x hxo
    rw [h1 x (by simp [ho, Op.operands, Call.operands]), hx] at e1
    have e2 := hst.ev y hyo
    rw [h1 y (by simp [ho, Op.operands, Call.operands]), hy] at e2
    have hm : (if b < a then b else a) = min a b := by split <;> omega
    refine ⟨.int k (min a b), ?_, .int _ _⟩
    rw [← hm]
    simp only [execOp, ho, resolve, invoke, builtin, Sem.run_bind, Sem.run_pure, Result.andThen_ok, List.map_toArray, List.map_cons, List.map_nil, e1.int_inv, e2.int_inv]
    rfl
end
end Go.Proofs.Ytdbapaofibgfcaa
