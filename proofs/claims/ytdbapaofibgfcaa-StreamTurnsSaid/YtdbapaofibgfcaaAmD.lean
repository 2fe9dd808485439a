/- The abstract walk, fourth part: the operations, one rule each. -/
import Derived.Test.YtdbapaofibgfcaaAmC
set_option linter.unusedVariables false
set_option linter.unusedSimpArgs false
namespace Go.Proofs.Ytdbapaofibgfcaa
open Go.RowKit

section
variable {cx : Cx} {o : Oper} {σ : AS}

theorem rule_val {av : AV} {ids : List Nat} (hd : dok cx o = true)
    (h : ∀ τ γ a w, (∀ x ∈ o.op.operands, τ.eval x = σ.eval x) → (∀ id ∈ ids, τ.find id = σ.find id) → StG cx γ τ a w → ∃ v, (execOp a.eval o).run cx.P w = .ok (.value v) w ∧ Rep w (Sg cx.S0 cx.w0.heap.size γ) γ av v) : OpRule cx o σ av ids [] := by
  refine ⟨fun id e he => by simp [lkE] at he, fun τ h1 h2 a w Q K ⟨γ, hst⟩ hK => ?_⟩
  obtain ⟨v, hr, hv⟩ := h τ γ a w h1 h2 hst
  unfold Oper.wp
  rw [hr]
  exact hK _ _ ⟨γ, hst.put (dok_iff hd) hv⟩
theorem rule_grow {av : AV} {ids : List Nat} (hd : dok cx o = true)
    (h : ∀ τ γ a w, (∀ x ∈ o.op.operands, τ.eval x = σ.eval x) → (∀ id ∈ ids, τ.find id = σ.find id) → StG cx γ τ a w → ∃ v w', (execOp a.eval o).run cx.P w = .ok (.value v) w' ∧ Below w.heap.size w w' ∧ (cx.E.dr = true → w.drawn ≤ w'.drawn) ∧ Rep w' (Sg cx.S0 cx.w0.heap.size γ) γ av v) : OpRule cx o σ av ids [] := by
  refine ⟨fun id e he => by simp [lkE] at he, fun τ h1 h2 a w Q K ⟨γ, hst⟩ hK => ?_⟩
  obtain ⟨v, w', hr, hb, hdr, hv⟩ := h τ γ a w h1 h2 hst
  unfold Oper.wp
  rw [hr]
  exact hK _ _ ⟨γ, hst.grow (dok_iff hd) hb hdr hv⟩

theorem r_move {x : Operand} {av : AV} (ho : o.op = .move x) (hd : dok cx o = true) (hxo : opdOk x = true) (hx : σ.eval x = av) : OpRule cx o σ av [] [] :=
  rule_val hd fun τ γ a w h1 _ hst => ⟨a.eval x, by simp [execOp, ho], by
    have := hst.ev x hxo
    rwa [h1 x (by simp [ho, Op.operands]), hx] at this⟩
theorem r_assign {x : Operand} {av : AV} (ho : o.op = .assign x) (hd : dok cx o = true) (hxo : opdOk x = true) (hx : σ.eval x = av) : OpRule cx o σ av [] [] :=
  rule_val hd fun τ γ a w h1 _ hst => ⟨a.eval x, by simp [execOp, ho], by
    have := hst.ev x hxo
    rwa [h1 x (by simp [ho, Op.operands]), hx] at this⟩

def AV.toV : AV → Value
  | .int k n => .int k n
  | .bool b => .bool b
  | _ => undef
/-- Arithmetic and comparisons of integers. -/
def binI : BinOp → IntKind → Int → Int → Option AV
  | .add, k, a, b => some (.int k (k.wrap (a + b)))
  | .sub, k, a, b => some (.int k (k.wrap (a - b)))
  | .mul, k, a, b => some (.int k (k.wrap (a * b)))
  | .eql, _, a, b => some (.bool (decide (a = b)))
  | .neq, _, a, b => some (.bool (!decide (a = b)))
  | .lss, _, a, b => some (.bool (decide (a < b)))
  | .leq, _, a, b => some (.bool (decide (a ≤ b)))
  | .gtr, _, a, b => some (.bool (decide (b < a)))
  | .geq, _, a, b => some (.bool (decide (b ≤ a)))
  | _, _, _, _ => none
theorem r_binI {op : BinOp} {x y : Operand} {t t2 : TypeId} {k : IntKind} {a b : Int} {av : AV} (ho : o.op = .binOp op t x y t2) (hd : dok cx o = true) (hxo : opdOk x = true) (hyo : opdOk y = true) (hx : σ.eval x = .int k a) (hy : σ.eval y = .int k b) (hc : binI op k a b = some av) :
    OpRule cx o σ av [] [] :=
  rule_val hd fun τ γ ac w h1 _ hst => by
    have e1 := hst.ev x hxo
    rw [h1 x (by simp [ho, Op.operands]), hx] at e1
    have e2 := hst.ev y hyo
    rw [h1 y (by simp [ho, Op.operands]), hy] at e2
    have f1 := e1.int_inv
    have f2 := e2.int_inv
    refine ⟨av.toV, ?_, ?_⟩
    · cases op <;> simp only [binI, Option.some.injEq, reduceCtorEq] at hc <;> subst hc <;>
        first
          | (simp [execOp, ho, f1, f2, eqGuard, binOp, Op.intArith, Op.intCmp, pure, AV.toV]; done)
          | (simp [execOp, ho, f1, f2, eqGuard, binOp, Op.intArith, Op.intCmp, pure, AV.toV]; rfl)
          | (simp [execOp, ho, f1, f2, eqGuard, binOp, Op.intArith, Op.intCmp, pure, AV.toV]; rw [Bool.eq_iff_iff]; simp)
    · cases op <;> simp only [binI, Option.some.injEq, reduceCtorEq] at hc <;> subst hc <;> first | exact .int _ _ | exact .bool _
theorem r_add {x y : Operand} {t t2 : TypeId} {k : IntKind} {a b c : Int} (ho : o.op = .binOp .add t x y t2) (hd : dok cx o = true) (hxo : opdOk x = true) (hyo : opdOk y = true) (hx : σ.eval x = .int k a) (hy : σ.eval y = .int k b) (hc : k.wrap (a + b) = c) : OpRule cx o σ (.int k c) [] [] :=
  hc ▸ r_binI ho hd hxo hyo hx hy rfl
theorem r_sub {x y : Operand} {t t2 : TypeId} {k : IntKind} {a b c : Int} (ho : o.op = .binOp .sub t x y t2) (hd : dok cx o = true) (hxo : opdOk x = true) (hyo : opdOk y = true) (hx : σ.eval x = .int k a) (hy : σ.eval y = .int k b) (hc : k.wrap (a - b) = c) : OpRule cx o σ (.int k c) [] [] :=
  hc ▸ r_binI ho hd hxo hyo hx hy rfl
theorem r_mul {x y : Operand} {t t2 : TypeId} {k : IntKind} {a b c : Int} (ho : o.op = .binOp .mul t x y t2) (hd : dok cx o = true) (hxo : opdOk x = true) (hyo : opdOk y = true) (hx : σ.eval x = .int k a) (hy : σ.eval y = .int k b) (hc : k.wrap (a * b) = c) : OpRule cx o σ (.int k c) [] [] :=
  hc ▸ r_binI ho hd hxo hyo hx hy rfl
theorem r_rem {x y : Operand} {t t2 : TypeId} {k : IntKind} {a b c : Int} (ho : o.op = .binOp .rem t x y t2) (hd : dok cx o = true) (hxo : opdOk x = true) (hyo : opdOk y = true) (hx : σ.eval x = .int k a) (hy : σ.eval y = .int k b) (hb : b ≠ 0) (hc : a.tmod b = c) : OpRule cx o σ (.int k c) [] [] :=
  rule_val hd fun τ γ ac w h1 _ hst => by
    have e1 := hst.ev x hxo
    rw [h1 x (by simp [ho, Op.operands]), hx] at e1
    have e2 := hst.ev y hyo
    rw [h1 y (by simp [ho, Op.operands]), hy] at e2
    exact ⟨.int k c, by simp [execOp, ho, e1.int_inv, e2.int_inv, eqGuard, binOp, Op.intDiv, pure, hb, hc], .int _ _⟩
theorem r_quo {x y : Operand} {t t2 : TypeId} {k : IntKind} {a b c : Int} (ho : o.op = .binOp .quo t x y t2) (hd : dok cx o = true) (hxo : opdOk x = true) (hyo : opdOk y = true) (hx : σ.eval x = .int k a) (hy : σ.eval y = .int k b) (hb : b ≠ 0) (hc : k.wrap (a.tdiv b) = c) : OpRule cx o σ (.int k c) [] [] :=
  rule_val hd fun τ γ ac w h1 _ hst => by
    have e1 := hst.ev x hxo
    rw [h1 x (by simp [ho, Op.operands]), hx] at e1
    have e2 := hst.ev y hyo
    rw [h1 y (by simp [ho, Op.operands]), hy] at e2
    exact ⟨.int k c, by simp [execOp, ho, e1.int_inv, e2.int_inv, eqGuard, binOp, Op.intDiv, pure, hb, hc], .int _ _⟩

theorem r_not {x : Operand} {t : TypeId} {b : Bool} (ho : o.op = .unOp .not t x) (hd : dok cx o = true) (hxo : opdOk x = true) (hx : σ.eval x = .bool b) : OpRule cx o σ (.bool (!b)) [] [] :=
  rule_val hd fun τ γ ac w h1 _ hst => by
    have e1 := hst.ev x hxo
    rw [h1 x (by simp [ho, Op.operands]), hx] at e1
    exact ⟨.bool (!b), by simp [execOp, ho, e1.bool_inv, Op.unary, pure], .bool _⟩
theorem r_neg {x : Operand} {t : TypeId} {k : IntKind} {a c : Int} (ho : o.op = .unOp .neg t x) (hd : dok cx o = true) (hxo : opdOk x = true) (hx : σ.eval x = .int k a) (hc : k.wrap (0 - a) = c) : OpRule cx o σ (.int k c) [] [] :=
  rule_val hd fun τ γ ac w h1 _ hst => by
    have e1 := hst.ev x hxo
    rw [h1 x (by simp [ho, Op.operands]), hx] at e1
    exact ⟨.int k c, by simp [execOp, ho, e1.int_inv, Op.unary, Op.intArith, pure, ← hc], .int _ _⟩
theorem r_pick_true {c x y : Operand} {av : AV} {b : Bool} (ho : o.op = .pick c x y) (hd : dok cx o = true) (hco : opdOk c = true) (hxo : opdOk x = true) (hc : σ.eval c = .bool b) (hb : b = true) (hx : σ.eval x = av) : OpRule cx o σ av [] [] :=
  rule_val hd fun τ γ ac w h1 _ hst => by
    have e1 := hst.ev c hco
    rw [h1 c (by simp [ho, Op.operands]), hc] at e1
    have e2 := hst.ev x hxo
    rw [h1 x (by simp [ho, Op.operands]), hx] at e2
    exact ⟨ac.eval x, by simp [execOp, ho, e1.bool_inv, asBool, hb, pure], e2⟩
theorem r_pick_false {c x y : Operand} {av : AV} {b : Bool} (ho : o.op = .pick c x y) (hd : dok cx o = true) (hco : opdOk c = true) (hyo : opdOk y = true) (hc : σ.eval c = .bool b) (hb : b = false) (hy : σ.eval y = av) : OpRule cx o σ av [] [] :=
  rule_val hd fun τ γ ac w h1 _ hst => by
    have e1 := hst.ev c hco
    rw [h1 c (by simp [ho, Op.operands]), hc] at e1
    have e2 := hst.ev y hyo
    rw [h1 y (by simp [ho, Op.operands]), hy] at e2
    exact ⟨ac.eval y, by simp [execOp, ho, e1.bool_inv, asBool, hb, pure], e2⟩
/-- Comparison of bools. -/
theorem r_eqB {x y : Operand} {t t2 : TypeId} {a b : Bool} (ho : o.op = .binOp .eql t x y t2) (hd : dok cx o = true) (hxo : opdOk x = true) (hyo : opdOk y = true) (hx : σ.eval x = .bool a) (hy : σ.eval y = .bool b) (ht : cx.P.underlying t = some .bool) : OpRule cx o σ (.bool (a == b)) [] [] :=
  rule_val hd fun τ γ ac w h1 _ hst => by
    have e1 := hst.ev x hxo
    rw [h1 x (by simp [ho, Op.operands]), hx] at e1
    have e2 := hst.ev y hyo
    rw [h1 y (by simp [ho, Op.operands]), hy] at e2
    have hq : ∀ n : Nat, (Op.equalIn (n + 1) t (.bool a) (.bool b)).run cx.P w = .ok (a == b) w := fun n => by simp [Op.equalIn, run_underlying ht, pure]
    exact ⟨.bool (a == b), by simp [execOp, ho, e1.bool_inv, e2.bool_inv, eqGuard, binOp, Op.equal, Op.maxDepth, hq 9999, pure], .bool _⟩
theorem r_neB {x y : Operand} {t t2 : TypeId} {a b : Bool} (ho : o.op = .binOp .neq t x y t2) (hd : dok cx o = true) (hxo : opdOk x = true) (hyo : opdOk y = true) (hx : σ.eval x = .bool a) (hy : σ.eval y = .bool b) (ht : cx.P.underlying t = some .bool) : OpRule cx o σ (.bool (!(a == b))) [] [] :=
  rule_val hd fun τ γ ac w h1 _ hst => by
    have e1 := hst.ev x hxo
    rw [h1 x (by simp [ho, Op.operands]), hx] at e1
    have e2 := hst.ev y hyo
    rw [h1 y (by simp [ho, Op.operands]), hy] at e2
    have hq : ∀ n : Nat, (Op.equalIn (n + 1) t (.bool a) (.bool b)).run cx.P w = .ok (a == b) w := fun n => by simp [Op.equalIn, run_underlying ht, pure]
    exact ⟨.bool (!(a == b)), by simp [execOp, ho, e1.bool_inv, e2.bool_inv, eqGuard, binOp, Op.equal, Op.maxDepth, hq 9999, pure], .bool _⟩

/-! ### Types -/
theorem TyOk.size {P : Program} {T : TypeId} {i : TyI} (h : TyOk P T i) (w : World) : (sizeOf T).run P w = .ok i.sz w := by
  have := h.info
  cases hq : P.info? T with
  | none => rw [hq] at this; simp at this
  | some x => rw [hq] at this; simp at this; simp [sizeOf, typeInfo, hq, this.1]
theorem TyOk.cells {P : Program} {T : TypeId} {i : TyI} (h : TyOk P T i) : P.cellsOf T = i.sz := by
  have := h.info
  cases hq : P.info? T with
  | none => rw [hq] at this; simp at this
  | some x => rw [hq] at this; simp at this; simp [Program.cellsOf, hq, this.1]
theorem TyOk.zeroV {P : Program} {T : TypeId} {i : TyI} (h : TyOk P T i) (w : World) : (zeroValue T).run P w = .ok i.zero w := by
  have := h.zero
  cases hq : P.info? T with
  | none => rw [hq] at this; simp at this
  | some x => rw [hq] at this; simp at this; simp [zeroValue, typeInfo, hq, this]
theorem TyOk.und {P : Program} {T : TypeId} {i : TyI} (h : TyOk P T i) : ∃ d, P.underlying T = some d ∧ shapeOf P d = i.shape := by
  have := h.shape
  cases hq : P.underlying T with
  | none => rw [hq] at this; simp at this
  | some d => rw [hq] at this; simp at this; exact ⟨d, rfl, this⟩
def Shape.agg : Shape → Bool
  | .strct _ => true
  | .arr _ _ _ _ => true
  | _ => false
theorem TyOk.agg {P : Program} {T : TypeId} {i : TyI} (h : TyOk P T i) (w : World) : (isAgg T).run P w = .ok i.shape.agg w := by
  obtain ⟨d, hd, hs⟩ := h.und
  rw [← hs]
  cases d <;> simp [isAgg, run_underlying hd, shapeOf, Shape.agg, pure]
theorem run_isAggT {P : Program} {T : TypeId} {b : Bool} (h : aggT P T = some b) (w : World) : (isAgg T).run P w = .ok b w := by
  unfold aggT at h
  split at h
  · rename_i fs hq; injection h with h; subst h; simp [isAgg, run_underlying hq, pure]
  · rename_i n e hq; injection h with h; subst h; simp [isAgg, run_underlying hq, pure]
  · rename_i d h1 h2 hq
    injection h with h
    subst h
    cases d <;> first | exact (h1 _ rfl).elim | exact (h2 _ _ rfl).elim | simp [isAgg, run_underlying hq, pure]
  · cases h

end
end Go.Proofs.Ytdbapaofibgfcaa
