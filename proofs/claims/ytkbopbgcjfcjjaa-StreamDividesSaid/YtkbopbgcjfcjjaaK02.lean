/- The abstract walk, fourth part: the operations, one rule each. The abstract walk, fifth part: memory. The abstract walk, sixth part: slices, aggregates, closures, calls. The abstract walk, seventh part: literals, slicing, append, make, closures. The abstract walk, eighth part: slices made, cut and grown; closures; calls. -/
import Derived.Test.YtkbopbgcjfcjjaaK01
import Derived.Laws.Tables
import Derived.Laws.MakeOwn
set_option linter.unusedVariables false
set_option linter.unusedSimpArgs false
namespace Go.Proofs.Ytkbopbgcjfcjjaa
open Go.RowKit

section
variable {cx : Cx} {o : Oper} {σ : AS}

theorem rule_val {av : AV} {ids : List Nat} (hd : dok cx o = true)
    (h : ∀ τ γ a w, (∀ x ∈ o.op.operands, τ.eval x = σ.eval x) → (∀ id ∈ ids, τ.find id = σ.find id) → StG cx γ τ a w → ∃ v, (execOp a.eval o).run cx.P w = .ok (.value v) w ∧ Rep w (Sg cx.S0 cx.w0.heap.size γ) γ av v) : OpRule cx o σ av ids [] := by
  refine ⟨fun id e he => by simp [lkE] at he, fun τ h1 h2 a w Q K ⟨γ, hst⟩ hK => ?_⟩
  obtain ⟨v, hr, hv⟩ := h τ γ a w h1 h2 hst
  refine wp_in (nodefer_value hr) ?_
  unfold Oper.wp
  rw [hr]
  exact hK _ _ ⟨γ, hst.put (dok_iff hd) hv⟩
theorem rule_grow {av : AV} {ids : List Nat} (hd : dok cx o = true)
    (h : ∀ τ γ a w, (∀ x ∈ o.op.operands, τ.eval x = σ.eval x) → (∀ id ∈ ids, τ.find id = σ.find id) → StG cx γ τ a w → ∃ v w', (execOp a.eval o).run cx.P w = .ok (.value v) w' ∧ Below w.heap.size w w' ∧ (cx.E.dr = true → w.drawn ≤ w'.drawn) ∧ Rep w' (Sg cx.S0 cx.w0.heap.size γ) γ av v) : OpRule cx o σ av ids [] := by
  refine ⟨fun id e he => by simp [lkE] at he, fun τ h1 h2 a w Q K ⟨γ, hst⟩ hK => ?_⟩
  obtain ⟨v, w', hr, hb, hdr, hv⟩ := h τ γ a w h1 h2 hst
  refine wp_in (nodefer_value hr) ?_
  unfold Oper.wp
  rw [hr]
  exact hK _ _ ⟨γ, hst.grow (dok_iff hd) hb hdr hv⟩

theorem r_move {x : Operand} {av : AV} (ho : o.op = .move x) (hd : dok cx o = true) (hxo : opdOk x = true) (hx : σ.eval x = av) : OpRule cx o σ av [] [] :=
  rule_val hd fun τ γ a w h1 _ hst => ⟨a.eval x, by simp [execOp, ho], by
    have := hst.ev x hxo
    rwa [h1 x (by simp [ho, Op.operands]), hx] at this⟩
theorem r_assign {x : Operand} {av : AV} (ho : o.op = .assign x) (hd : dok cx o = true) (hxo : opdOk x = true) (hx : σ.eval x = av) : OpRule cx o σ av [] [] :=
  rule_val hd fun τ γ a w h1 _ hst => ⟨a.eval x, by simp [execOp, ho], by
    have := hst.ev x hxo
    rwa [h1 x (by simp [ho, Op.operands]), hx] at this⟩

def AV.toV : AV → Value
  | .int k n => .int k n
  | .bool b => .bool b
  | _ => undef
def binI : BinOp → IntKind → Int → Int → Option AV
  | .add, k, a, b => some (.int k (k.wrap (a + b)))
  | .sub, k, a, b => some (.int k (k.wrap (a - b)))
  | .mul, k, a, b => some (.int k (k.wrap (a * b)))
  | .eql, _, a, b => some (.bool (decide (a = b)))
  | .neq, _, a, b => some (.bool (!decide (a = b)))
  | .lss, _, a, b => some (.bool (decide (a < b)))
  | .leq, _, a, b => some (.bool (decide (a ≤ b)))
  | .gtr, _, a, b => some (.bool (decide (b < a)))
  | .geq, _, a, b => some (.bool (decide (b ≤ a)))
  | _, _, _, _ => none
theorem r_binI {op : BinOp} {x y : Operand} {t t2 : TypeId} {k : IntKind} {a b : Int} {av : AV} (ho : o.op = .binOp op t x y t2) (hd : dok cx o = true) (hxo : opdOk x = true) (hyo : opdOk y = true) (hx : σ.eval x = .int k a) (hy : σ.eval y = .int k b) (hc : binI op k a b = some av) :
    OpRule cx o σ av [] [] :=
  rule_val hd fun τ γ ac w h1 _ hst => by
    have e1 := hst.ev x hxo
    rw [h1 x (by simp [ho, Op.operands]), hx] at e1
    have e2 := hst.ev y hyo
    rw [h1 y (by simp [ho, Op.operands]), hy] at e2
    have f1 := e1.int_inv
    have f2 := e2.int_inv
    refine ⟨av.toV, ?_, ?_⟩
    · cases op <;> simp only [binI, Option.some.injEq, reduceCtorEq] at hc <;> subst hc <;>
        first
          | (simp [execOp, ho, f1, f2, eqGuard, binOp, Op.intArith, Op.intCmp, pure, AV.toV]; done)
          | (simp [execOp, ho, f1, f2, eqGuard, binOp, Op.intArith, Op.intCmp, pure, AV.toV]; rfl)
          | (simp [execOp, ho, f1, f2, eqGuard, binOp, Op.intArith, Op.intCmp, pure, AV.toV]; rw [Bool.eq_iff_iff]; simp)
    · cases op <;> simp only [binI, Option.some.injEq, reduceCtorEq] at hc <;> subst hc <;> first | exact .int _ _ | exact .bool _
theorem r_rem {x y : Operand} {t t2 : TypeId} {k : IntKind} {a b c : Int} (ho : o.op = .binOp .rem t x y t2) (hd : dok cx o = true) (hxo : opdOk x = true) (hyo : opdOk y = true) (hx : σ.eval x = .int k a) (hy : σ.eval y = .int k b) (hb : b ≠ 0) (hc : a.tmod b = c) : OpRule cx o σ (.int k c) [] [] :=
  rule_val hd fun τ γ ac w h1 _ hst => by
    have e1 := hst.ev x hxo
    rw [h1 x (by simp [ho, Op.operands]), hx] at e1
    have e2 := hst.ev y hyo
    rw [h1 y (by simp [ho, Op.operands]), hy] at e2
    exact ⟨.int k c, by simp [execOp, ho, e1.int_inv, e2.int_inv, eqGuard, binOp, Op.intDiv, pure, hb, hc], .int _ _⟩
theorem r_quo {x y : Operand} {t t2 : TypeId} {k : IntKind} {a b c : Int} (ho : o.op = .binOp .quo t x y t2) (hd : dok cx o = true) (hxo : opdOk x = true) (hyo : opdOk y = true) (hx : σ.eval x = .int k a) (hy : σ.eval y = .int k b) (hb : b ≠ 0) (hc : k.wrap (a.tdiv b) = c) : OpRule cx o σ (.int k c) [] [] :=
  rule_val hd fun τ γ ac w h1 _ hst => by
    have e1 := hst.ev x hxo
    rw [h1 x (by simp [ho, Op.operands]), hx] at e1
    have e2 := hst.ev y hyo
    rw [h1 y (by simp [ho, Op.operands]), hy] at e2
    exact ⟨.int k c, by simp [execOp, ho, e1.int_inv, e2.int_inv, eqGuard, binOp, Op.intDiv, pure, hb, hc], .int _ _⟩

theorem r_not {x : Operand} {t : TypeId} {b : Bool} (ho : o.op = .unOp .not t x) (hd : dok cx o = true) (hxo : opdOk x = true) (hx : σ.eval x = .bool b) : OpRule cx o σ (.bool (!b)) [] [] :=
  rule_val hd fun τ γ ac w h1 _ hst => by
    have e1 := hst.ev x hxo
    rw [h1 x (by simp [ho, Op.operands]), hx] at e1
    exact ⟨.bool (!b), by simp [execOp, ho, e1.bool_inv, Op.unary, pure], .bool _⟩
theorem r_neg {x : Operand} {t : TypeId} {k : IntKind} {a c : Int} (ho : o.op = .unOp .neg t x) (hd : dok cx o = true) (hxo : opdOk x = true) (hx : σ.eval x = .int k a) (hc : k.wrap (0 - a) = c) : OpRule cx o σ (.int k c) [] [] :=
  rule_val hd fun τ γ ac w h1 _ hst => by
    have e1 := hst.ev x hxo
    rw [h1 x (by simp [ho, Op.operands]), hx] at e1
    exact ⟨.int k c, by simp [execOp, ho, e1.int_inv, Op.unary, Op.intArith, pure, ← hc], .int _ _⟩
theorem r_pick_true {c x y : Operand} {av : AV} {b : Bool} (ho : o.op = .pick c x y) (hd : dok cx o = true) (hco : opdOk c = true) (hxo : opdOk x = true) (hc : σ.eval c = .bool b) (hb : b = true) (hx : σ.eval x = av) : OpRule cx o σ av [] [] :=
  rule_val hd fun τ γ ac w h1 _ hst => by
    have e1 := hst.ev c hco
    rw [h1 c (by simp [ho, Op.operands]), hc] at e1
    have e2 := hst.ev x hxo
    rw [h1 x (by simp [ho, Op.operands]), hx] at e2
    exact ⟨ac.eval x, by simp [execOp, ho, e1.bool_inv, asBool, hb, pure], e2⟩
theorem r_pick_false {c x y : Operand} {av : AV} {b : Bool} (ho : o.op = .pick c x y) (hd : dok cx o = true) (hco : opdOk c = true) (hyo : opdOk y = true) (hc : σ.eval c = .bool b) (hb : b = false) (hy : σ.eval y = av) : OpRule cx o σ av [] [] :=
  rule_val hd fun τ γ ac w h1 _ hst => by
    have e1 := hst.ev c hco
    rw [h1 c (by simp [ho, Op.operands]), hc] at e1
    have e2 := hst.ev y hyo
    rw [h1 y (by simp [ho, Op.operands]), hy] at e2
    exact ⟨ac.eval y, by simp [execOp, ho, e1.bool_inv, asBool, hb, pure], e2⟩
theorem r_eqB {x y : Operand} {t t2 : TypeId} {a b : Bool} (ho : o.op = .binOp .eql t x y t2) (hd : dok cx o = true) (hxo : opdOk x = true) (hyo : opdOk y = true) (hx : σ.eval x = .bool a) (hy : σ.eval y = .bool b) (ht : cx.P.underlying t = some .bool) : OpRule cx o σ (.bool (a == b)) [] [] :=
  rule_val hd fun τ γ ac w h1 _ hst => by
    have e1 := hst.ev x hxo
    rw [h1 x (by simp [ho, Op.operands]), hx] at e1
    have e2 := hst.ev y hyo
    rw [h1 y (by simp [ho, Op.operands]), hy] at e2
    have hq : ∀ n : Nat, (Op.equalIn (n + 1) t (.bool a) (.bool b)).run cx.P w = .ok (a == b) w := fun n => by simp [Op.equalIn, run_underlying ht, pure]
    exact ⟨.bool (a == b), by simp [execOp, ho, e1.bool_inv, e2.bool_inv, eqGuard, binOp, Op.equal, Op.maxDepth, hq 9999, pure], .bool _⟩
theorem r_neB {x y : Operand} {t t2 : TypeId} {a b : Bool} (ho : o.op = .binOp .neq t x y t2) (hd : dok cx o = true) (hxo : opdOk x = true) (hyo : opdOk y = true) (hx : σ.eval x = .bool a) (hy : σ.eval y = .bool b) (ht : cx.P.underlying t = some .bool) : OpRule cx o σ (.bool (!(a == b))) [] [] :=
  rule_val hd fun τ γ ac w h1 _ hst => by
    have e1 := hst.ev x hxo
    rw [h1 x (by simp [ho, Op.operands]), hx] at e1
    have e2 := hst.ev y hyo
    rw [h1 y (by simp [ho, Op.operands]), hy] at e2
    have hq : ∀ n : Nat, (Op.equalIn (n + 1) t (.bool a) (.bool b)).run cx.P w = .ok (a == b) w := fun n => by simp [Op.equalIn, run_underlying ht, pure]
    exact ⟨.bool (!(a == b)), by simp [execOp, ho, e1.bool_inv, e2.bool_inv, eqGuard, binOp, Op.equal, Op.maxDepth, hq 9999, pure], .bool _⟩

theorem TyOk.size {P : Program} {T : TypeId} {i : TyI} (h : TyOk P T i) (w : World) : (sizeOf T).run P w = .ok i.sz w := by
  have := h.info
  cases hq : P.info? T with
  | none => rw [hq] at this; simp at this
  | some x => rw [hq] at this; simp at this; simp [sizeOf, typeInfo, hq, this.1]
theorem TyOk.cells {P : Program} {T : TypeId} {i : TyI} (h : TyOk P T i) : P.cellsOf T = i.sz := by
  have := h.info
  cases hq : P.info? T with
  | none => rw [hq] at this; simp at this
  | some x => rw [hq] at this; simp at this; simp [Program.cellsOf, hq, this.1]
theorem TyOk.zeroV {P : Program} {T : TypeId} {i : TyI} (h : TyOk P T i) (w : World) : (zeroValue T).run P w = .ok i.zero w := by
  have := h.zero
  cases hq : P.info? T with
  | none => rw [hq] at this; simp at this
  | some x => rw [hq] at this; simp at this; simp [zeroValue, typeInfo, hq, this]
theorem TyOk.und {P : Program} {T : TypeId} {i : TyI} (h : TyOk P T i) : ∃ d, P.underlying T = some d ∧ shapeOf P d = i.shape := by
  have := h.shape
  cases hq : P.underlying T with
  | none => rw [hq] at this; simp at this
  | some d => rw [hq] at this; simp at this; exact ⟨d, rfl, this⟩
def Shape.agg : Shape → Bool
  | .strct _ => true
  | .arr _ _ _ _ => true
  | _ => false
theorem TyOk.agg {P : Program} {T : TypeId} {i : TyI} (h : TyOk P T i) (w : World) : (isAgg T).run P w = .ok i.shape.agg w := by
  obtain ⟨d, hd, hs⟩ := h.und
  rw [← hs]
  cases d <;> simp [isAgg, run_underlying hd, shapeOf, Shape.agg, pure]
theorem run_isAggT {P : Program} {T : TypeId} {b : Bool} (h : aggT P T = some b) (w : World) : (isAgg T).run P w = .ok b w := by
  unfold aggT at h
  split at h
  · rename_i fs hq; injection h with h; subst h; simp [isAgg, run_underlying hq, pure]
  · rename_i n e hq; injection h with h; subst h; simp [isAgg, run_underlying hq, pure]
  · rename_i d h1 h2 hq
    injection h with h
    subst h
    cases d <;> first | exact (h1 _ rfl).elim | exact (h2 _ _ rfl).elim | simp [isAgg, run_underlying hq, pure]
  · cases h

end
end Go.Proofs.Ytkbopbgcjfcjjaa
namespace Go.Proofs.Ytkbopbgcjfcjjaa
open Go.RowKit

theorem run_newRow (P : Program) (w : World) (e : TypeId) (cs : Array Value) : (newRow e cs).run P w = .ok ⟨w.heap.size, 0, none⟩ (w.alloc (.cells cs e)) := by
  rfl

section
variable {cx : Cx} {o : Oper} {σ : AS}

def AV.ids : AV → List Nat
  | .ptr id _ => [id]
  | .row id => [id]
  | .elt id _ _ _ => [id]
  | .der _ id => [id]
  | _ => []
def okc (σ : AS) : AV → Bool
  | .any => false
  | .tup _ => false
  | .ptr id _ => match σ.find id with | some (.box _ _) => true | _ => false
  | .row id => match σ.find id with | some (.row _ _ _) => true | _ => false
  | .elt _ _ _ _ => false
  | .der _ _ => false
  | _ => true
theorem cells_rep {cx : Cx} {γ : Gam} {τ σ : AS} {a : Act} {w : World} (h : StG cx γ τ a w) {av : AV} {v : Value} (hv : Rep w (Sg cx.S0 cx.w0.heap.size γ) γ av v) (ho : okc σ av = true) (hids : ∀ id ∈ av.ids, τ.find id = σ.find id) :
    v.cells.size = av.cells.length ∧ (∀ i (hi : i < av.cells.length), Rep w (Sg cx.S0 cx.w0.heap.size γ) γ av.cells[i] (v.cells.getD i undef)) ∧ ∀ i, i < v.cells.size → (v.cells.getD i undef).oneCell' = true := by
  have single : av.cells = [av] → v.oneCell' = true → v.cells.size = av.cells.length ∧ (∀ i (hi : i < av.cells.length), Rep w (Sg cx.S0 cx.w0.heap.size γ) γ av.cells[i] (v.cells.getD i undef)) ∧ ∀ i, i < v.cells.size → (v.cells.getD i undef).oneCell' = true := by
    intro hc h1
    have hvc : v.cells = #[v] := by cases v <;> first | rfl | simp [Value.oneCell'] at h1
    refine ⟨by rw [hvc, hc]; rfl, fun i hi => ?_, fun i hi => ?_⟩
    · have hi0 : i = 0 := by rw [hc] at hi; simpa using hi
      subst hi0
      simp only [hc, hvc]
      exact hv
    · have hi0 : i = 0 := by rw [hvc] at hi; simpa using hi
      subst hi0
      simp only [hvc]
      exact h1
  cases av with
  | any => simp [okc] at ho
  | tup cs => simp [okc] at ho
  | elt id sz k j => simp [okc] at ho
  | der φ id => simp [okc] at ho
  | agg cs =>
    obtain ⟨vs, rfl, hl, hr, h1⟩ := hv.agg_inv
    exact ⟨hl, hr, h1⟩
  | ptr id off =>
    have hf := hids id (by simp [AV.ids])
    have hme := h.me id
    simp only [okc] at ho
    split at ho
    · rename_i ty cs hfs
      rw [hf, hfs] at hme
      obtain ⟨x, hx, g, vs, hxe, _⟩ := hme
      subst hxe
      have := hv.ptr_inv hx
      exact single rfl (by rw [this]; rfl)
    · cases ho
  | row id =>
    have hf := hids id (by simp [AV.ids])
    have hme := h.me id
    simp only [okc] at ho
    split at ho
    · rename_i ty sz xs hfs
      rw [hf, hfs] at hme
      obtain ⟨x, hx, s, vs, hxe, hone, _⟩ := hme
      subst hxe
      have := hv.row_inv hx
      exact single rfl (by rw [this]; exact hone)
    · cases ho
  | _ => exact single rfl (hv.one rfl)

theorem r_alloc {T d : Nat} {i : TyI} (ho : o.op = .alloc T) (hdst : o.dst = some d) (hd : dok cx o = true) (hT : lkT cx.E.tab T = some i) (hn : σ.find d = none) (hz : i.zero.cells.all (·.oneCell') = true) :
    OpRule cx o σ (.ptr d 0) [d] [(d, .box T (i.zero.cells.toList.map AV.ofV))] := by
  refine ⟨fun id e he => ?_, fun τ h1 h2 a w Q K ⟨γ, hst⟩ hK => wp_in (fun c hc => by rw [ho] at hc; cases hc) ?_⟩
  · simp only [lkE] at he
    cases hb : Nat.beq d id with
    | true => simp [Nat.eq_of_beq_eq_true hb]
    | false => rw [hb] at he; cases he
  have hok := cx.E.ok T i hT
  have hrun : (execOp a.eval o).run cx.P w = .ok (.value (.pointer (some ⟨w.heap.size, 0, none⟩))) (w.alloc (.cells i.zero.cells T)) := by
    simp [execOp, ho, Instr.alloc, hok.zeroV, newVar, run_newRow, pure]
  unfold Oper.wp
  rw [hrun]
  refine hK _ _ ⟨_, hst.name (id := d) (g := w.heap.size) (s := .slice none 0 0) (e := .box T (i.zero.cells.toList.map AV.ofV)) (dok_iff hd) (by rw [h2 d (by simp)]; exact hn) ((Below.refl _ _).alloc (Nat.le_refl _) _) (Nat.le_refl _) (by simp) ?_ ?_⟩
  · refine ⟨w.heap.size, i.zero.cells, rfl, Blk.new w _ _, by simp, fun j hj => ?_, fun j hj => ?_⟩
    · have hj' : j < i.zero.cells.size := by simpa using hj
      have : i.zero.cells.getD j undef = i.zero.cells[j] := by simp [Array.getD, hj']
      simp only [List.getElem_map, Array.getElem_toList, this]
      exact rep_ofV _ _ _ _
    · have : i.zero.cells.getD j undef = i.zero.cells[j] := by simp [Array.getD, hj]
      rw [this]
      simp only [Array.all_eq_true] at hz
      exact hz j hj
  · exact .ptr (Gam.set_self _ _ _) (fun g s e => by injection e with e; injection e with e _; injection e with e; rw [e])

theorem r_box {T d : Nat} {x : Operand} {av : AV} (ho : o.op = .box T x) (hdst : o.dst = some d) (hd : dok cx o = true) (hxo : opdOk x = true) (hx : σ.eval x = av) (hc : okc σ av = true) (hn : σ.find d = none) :
    OpRule cx o σ (.ptr d 0) (d :: av.ids) [(d, .box T av.cells)] := by
  refine ⟨fun id e he => ?_, fun τ h1 h2 a w Q K ⟨γ, hst⟩ hK => wp_in (fun c hc => by rw [ho] at hc; cases hc) ?_⟩
  · simp only [lkE] at he
    cases hb : Nat.beq d id with
    | true => simp [Nat.eq_of_beq_eq_true hb]
    | false => rw [hb] at he; cases he
  have hev := hst.ev x hxo
  rw [h1 x (by simp [ho, Op.operands]), hx] at hev
  obtain ⟨c1, c2, c3⟩ := cells_rep hst hev hc (fun id hid => h2 id (by simp [hid]))
  have hrun : (execOp a.eval o).run cx.P w = .ok (.value (.pointer (some ⟨w.heap.size, 0, none⟩))) (w.alloc (.cells (a.eval x).cells T)) := by
    simp [execOp, ho, Instr.box, newVar, run_newRow, pure]
  unfold Oper.wp
  rw [hrun]
  have hγd : γ d = none := by have := hst.me d; rw [h2 d (by simp), hn] at this; exact this
  have hbl : Below w.heap.size w (w.alloc (.cells (a.eval x).cells T)) := (Below.refl _ _).alloc (Nat.le_refl _) _
  refine hK _ _ ⟨_, hst.name (id := d) (g := w.heap.size) (s := .slice none 0 0) (e := .box T av.cells) (dok_iff hd) (by rw [h2 d (by simp)]; exact hn) hbl (Nat.le_refl _) (by simp) ?_ ?_⟩
  · refine ⟨w.heap.size, (a.eval x).cells, rfl, Blk.new w _ _, c1, fun j hj => ?_, c3⟩
    refine ((c2 j hj).mono hbl.size (fun b hS hlt => ⟨hbl.block b hlt, ?_⟩)).gam (fun id x hx => Or.inl ?_)
    · rcases hS with hS | ⟨h1, h2⟩
      · exact Or.inl hS
      · refine Or.inr ⟨h1, fun ⟨i, s', hi, hb⟩ => ?_⟩
        by_cases hid : i = d
        · subst hid; rw [Gam.set_self] at hi; injection hi with hi; subst hi; have := blks_eq rfl hb; omega
        · rw [Gam.set_ne _ _ _ hid] at hi; exact h2 ⟨i, s', hi, hb⟩
    · rw [Gam.set_ne]
      · exact hx
      · rintro rfl; rw [hγd] at hx; cases hx
  · exact .ptr (Gam.set_self _ _ _) (fun g s e => by injection e with e; injection e with e _; injection e with e; rw [e])

theorem und_strct {P : Program} {T : TypeId} {i : TyI} {fs : List (Nat × Nat × Option Bool)} (h : TyOk P T i) (hs : i.shape = .strct fs) : ∃ Fs, P.underlying T = some (.struct Fs) ∧ fs = Fs.toList.map fun f => (f.offset, P.cellsOf f.type, aggT P f.type) := by
  obtain ⟨d, hd, he⟩ := h.und
  rw [hs] at he
  cases d <;> simp only [shapeOf, Shape.strct.injEq, reduceCtorEq] at he
  exact ⟨_, hd, he.symm⟩
theorem run_fieldAt {P : Program} {T : TypeId} {i : TyI} {fs : List (Nat × Nat × Option Bool)} {f fo fsz : Nat} {ag : Option Bool} (h : TyOk P T i) (hs : i.shape = .strct fs) (hf : fs[f]? = some (fo, fsz, ag)) (hz : fsz ≠ 0) (b off : Nat) (w : World) :
    (Instr.fieldAt T (.pointer (some ⟨b, off, none⟩)) f).run P w = .ok (.pointer (some ⟨b, off + fo, none⟩)) w := by
  obtain ⟨Fs, hF, rfl⟩ := und_strct h hs
  simp only [List.getElem?_map, Option.map_eq_some_iff, Prod.mk.injEq] at hf
  obtain ⟨fd, hfd, h1, h2, _⟩ := hf
  have hfd' : Fs[f]? = some fd := by simpa using hfd
  have hsz : ∃ info, P.info? fd.type = some info ∧ info.size = fsz := by
    unfold Program.cellsOf at h2
    cases hq : P.info? fd.type with
    | none => rw [hq] at h2; simp at h2; exact absurd h2.symm hz
    | some info => rw [hq] at h2; simp at h2; exact ⟨info, rfl, h2⟩
  obtain ⟨info, hi, hi2⟩ := hsz
  have hsize : (sizeOf fd.type).run P w = .ok fsz w := by simp [sizeOf, typeInfo, hi, hi2]
  simp [Instr.fieldAt, run_underlying hF, hfd', Instr.sureAddr, fieldPlace, hsize, hz, pure, Addr.add_lit, h1]

theorem r_fieldAddr {T id off f fo fsz : Nat} {x : Operand} {i : TyI} {fs : List (Nat × Nat × Option Bool)} {ag : Option Bool} {ty : TypeId} {cs : List AV} (ho : o.op = .fieldAddr T x f) (hd : dok cx o = true) (hxo : opdOk x = true) (hx : σ.eval x = .ptr id off) (hT : lkT cx.E.tab T = some i) (hs : i.shape = .strct fs) (hf : fs[f]? = some (fo, fsz, ag))
    (hz : fsz ≠ 0) (hl : σ.find id = some (.box ty cs)) : OpRule cx o σ (.ptr id (off + fo)) [id] [] :=
  rule_val hd fun τ γ a w h1 h2 hst => by
    have hev := hst.ev x hxo
    rw [h1 x (by simp [ho, Op.operands]), hx] at hev
    have hme := hst.me id
    rw [h2 id (by simp), hl] at hme
    obtain ⟨d, hd', g, vs, hde, _⟩ := hme
    subst hde
    have e := hev.ptr_inv hd'
    refine ⟨.pointer (some ⟨g, off + fo, none⟩), ?_, .ptr hd' (fun g' s e => by injection e with e; injection e with e _; injection e with e; rw [e])⟩
    simp [execOp, ho, e, run_fieldAt (cx.E.ok T i hT) hs hf hz, pure]
theorem r_fieldAddr_elt {T id sz k j f fo fsz : Nat} {x : Operand} {i : TyI} {fs : List (Nat × Nat × Option Bool)} {ag : Option Bool} {ty : TypeId} {xs : List AV} (ho : o.op = .fieldAddr T x f) (hd : dok cx o = true) (hxo : opdOk x = true) (hx : σ.eval x = .elt id sz k j) (hT : lkT cx.E.tab T = some i) (hs : i.shape = .strct fs) (hf : fs[f]? = some (fo, fsz, ag))
    (hz : fsz ≠ 0) (hl : σ.find id = some (.row ty sz xs)) (hk : k < xs.length) : OpRule cx o σ (.elt id sz k (j + fo)) [id] [] :=
  rule_val hd fun τ γ a w h1 h2 hst => by
    have hev := hst.ev x hxo
    rw [h1 x (by simp [ho, Op.operands]), hx] at hev
    have hme := hst.me id
    rw [h2 id (by simp), hl] at hme
    obtain ⟨d, hd', s, vs, hde, _, hown, _⟩ := hme
    subst hde
    have hg : ∃ g, s.ownBlock = some g := by
      rcases hown.2 with ⟨rfl, h0⟩ | ⟨g, cap, cur, rfl, _⟩
      · omega
      · exact ⟨g, rfl⟩
    obtain ⟨g, hg⟩ := hg
    rw [hg] at hd'
    have e := hev.elt_inv hd'
    refine ⟨.pointer (some ⟨g, k * sz + (j + fo), none⟩), ?_, .elt hd' (fun g' s e => by injection e with e; injection e with e _; injection e with e; rw [e])⟩
    simp [execOp, ho, e, run_fieldAt (cx.E.ok T i hT) hs hf hz, pure, Nat.add_assoc]
theorem rep_ref_drop {w : World} {S : Nat → Prop} {γ : Gam} {cs : List AV} {b off k : Nat} {cell : Nat → Value} (hS : S b) (hb : b < w.heap.size) (hc : ∀ j, j < cs.length → w.cell? ⟨b, off + j, none⟩ = some (cell j)) (hr : ∀ j (hj : j < cs.length), Rep w S G0 cs[j] (cell j))
    (h1 : ∀ j, j < cs.length → (cell j).oneCell' = true) : Rep w S γ (.ref (cs.drop k)) (.pointer (some ⟨b, off + k, none⟩)) := by
  refine .ref b (off + k) (fun j => cell (k + j)) hS hb (fun j hj => ?_) (fun j hj => ?_) (fun j hj => ?_)
  · rw [List.length_drop] at hj
    have := hc (k + j) (by omega)
    rwa [← Nat.add_assoc] at this
  · rw [List.length_drop] at hj
    rw [List.getElem_drop]
    exact hr (k + j) (by omega)
  · rw [List.length_drop] at hj
    exact h1 (k + j) (by omega)
theorem r_fieldAddr_ref {T f fo fsz : Nat} {x : Operand} {i : TyI} {fs : List (Nat × Nat × Option Bool)} {ag : Option Bool} {cs : List AV} (ho : o.op = .fieldAddr T x f) (hd : dok cx o = true) (hxo : opdOk x = true) (hx : σ.eval x = .ref cs) (hT : lkT cx.E.tab T = some i) (hs : i.shape = .strct fs) (hf : fs[f]? = some (fo, fsz, ag))
    (hz : fsz ≠ 0) : OpRule cx o σ (.ref (cs.drop fo)) [] [] :=
  rule_val hd fun τ γ a w h1 h2 hst => by
    have hev := hst.ev x hxo
    rw [h1 x (by simp [ho, Op.operands]), hx] at hev
    obtain ⟨b, off, e, hS, hb, cell, hc, hr, h1c⟩ := hev.ref_inv
    refine ⟨.pointer (some ⟨b, off + fo, none⟩), ?_, rep_ref_drop hS hb hc hr h1c⟩
    simp [execOp, ho, e, run_fieldAt (cx.E.ok T i hT) hs hf hz, pure]

theorem run_loadVar_agg {P : Program} {T : TypeId} {i : TyI} (h : TyOk P T i) (ha : i.shape.agg = true) (w : World) (ad : Addr) (cs : List Value) (hl : cs.length = i.sz) (hc : ∀ j v, cs[j]? = some v → w.cell? (ad.add j) = some v) : (loadVar T ad).run P w = .ok (.agg cs.toArray) w := by
  have := run_loadCells_list (P := P) w ad cs hc
  rw [hl] at this
  simp [loadVar, h.agg, ha, h.size, this, pure]
theorem run_loadVar_one {P : Program} {T : TypeId} {i : TyI} (h : TyOk P T i) (ha : i.shape.agg = false) (w : World) (ad : Addr) (v : Value) (hc : w.cell? ad = some v) : (loadVar T ad).run P w = .ok v w := by
  simp [loadVar, h.agg, ha, load, Sem.run, hc]
theorem blk_cells {w : World} {g : Nat} {ty : TypeId} {vs : Array Value} (h : Blk w g ty vs) (j : Nat) (hj : j < vs.size) : w.cell? ⟨g, j, none⟩ = some (vs.getD j undef) := by
  rw [h.cell, Array.getElem?_eq_getElem hj]
  simp [Array.getD, hj]

theorem r_load_agg {T id off : Nat} {x : Operand} {i : TyI} {ty : TypeId} {cs : List AV} (ho : o.op = .load T x) (hd : dok cx o = true) (hxo : opdOk x = true) (hx : σ.eval x = .ptr id off) (hT : lkT cx.E.tab T = some i) (ha : i.shape.agg = true) (hl : σ.find id = some (.box ty cs)) (hn : off + i.sz ≤ cs.length) :
    OpRule cx o σ (.agg ((cs.drop off).take i.sz)) [id] [] :=
  rule_val hd fun τ γ a w h1 h2 hst => by
    have hev := hst.ev x hxo
    rw [h1 x (by simp [ho, Op.operands]), hx] at hev
    have hme := hst.me id
    rw [h2 id (by simp), hl] at hme
    obtain ⟨d, hd', g, vs, hde, hb, hsz, hr, hone⟩ := hme
    subst hde
    have e := hev.ptr_inv hd'
    have hlen : ((List.range i.sz).map fun j => vs.getD (off + j) undef).length = i.sz := by simp
    have hrun := run_loadVar_agg (cx.E.ok T i hT) ha w ⟨g, off, none⟩ ((List.range i.sz).map fun j => vs.getD (off + j) undef) hlen (fun j v hj => by
      obtain ⟨hj1, hj2⟩ := List.getElem?_eq_some_iff.1 hj
      rw [hlen] at hj1
      simp only [List.getElem_map, List.getElem_range] at hj2
      rw [Addr.add_lit, blk_cells hb _ (by omega), hj2])
    refine ⟨.agg ((List.range i.sz).map fun j => vs.getD (off + j) undef).toArray, by simp only [execOp, ho, e, Instr.loadAt, Instr.sureAddr, Sem.run_bind, Sem.run_pure, Result.andThen_ok, hrun], .agg _ (by simp; omega) (fun j hj => ?_) (fun j hj => ?_)⟩
    · rw [List.length_take, List.length_drop] at hj
      simp only [List.getElem_take, List.getElem_drop]
      have : ((List.range i.sz).map fun j => vs.getD (off + j) undef).toArray.getD j undef = vs.getD (off + j) undef := by
        have hj' : j < i.sz := by omega
        simp [hj']
      rw [this]
      exact hr (off + j) (by omega)
    · have hj' : j < i.sz := by simpa using hj
      have : ((List.range i.sz).map fun j => vs.getD (off + j) undef).toArray.getD j undef = vs.getD (off + j) undef := by
        simp [hj']
      rw [this]
      exact hone _ (by omega)
theorem r_load_one {T id off : Nat} {x : Operand} {i : TyI} {ty : TypeId} {cs : List AV} {av : AV} (ho : o.op = .load T x) (hd : dok cx o = true) (hxo : opdOk x = true) (hx : σ.eval x = .ptr id off) (hT : lkT cx.E.tab T = some i) (ha : i.shape.agg = false) (hl : σ.find id = some (.box ty cs)) (hc : cs[off]? = some av) :
    OpRule cx o σ av [id] [] :=
  rule_val hd fun τ γ a w h1 h2 hst => by
    have hev := hst.ev x hxo
    rw [h1 x (by simp [ho, Op.operands]), hx] at hev
    have hme := hst.me id
    rw [h2 id (by simp), hl] at hme
    obtain ⟨d, hd', g, vs, hde, hb, hsz, hr, hone⟩ := hme
    subst hde
    have e := hev.ptr_inv hd'
    obtain ⟨hlt, hc'⟩ := List.getElem?_eq_some_iff.1 hc
    have hrun := run_loadVar_one (cx.E.ok T i hT) ha w ⟨g, off, none⟩ (vs.getD off undef) (blk_cells hb off (by omega))
    refine ⟨vs.getD off undef, by simp only [execOp, ho, e, Instr.loadAt, Instr.sureAddr, Sem.run_bind, Sem.run_pure, Result.andThen_ok, hrun], ?_⟩
    have := hr off hlt
    rwa [hc'] at this
theorem r_load_ref_agg {T : Nat} {x : Operand} {i : TyI} {cs : List AV} (ho : o.op = .load T x) (hd : dok cx o = true) (hxo : opdOk x = true) (hx : σ.eval x = .ref cs) (hT : lkT cx.E.tab T = some i) (ha : i.shape.agg = true) (hn : i.sz ≤ cs.length) :
    OpRule cx o σ (.agg (cs.take i.sz)) [] [] :=
  rule_val hd fun τ γ a w h1 h2 hst => by
    have hev := hst.ev x hxo
    rw [h1 x (by simp [ho, Op.operands]), hx] at hev
    obtain ⟨b, off, e, hS, hb, cell, hc, hr, h1c⟩ := hev.ref_inv
    have hlen : ((List.range i.sz).map cell).length = i.sz := by simp
    have hrun := run_loadVar_agg (cx.E.ok T i hT) ha w ⟨b, off, none⟩ ((List.range i.sz).map cell) hlen (fun j v hj => by
      obtain ⟨hj1, hj2⟩ := List.getElem?_eq_some_iff.1 hj
      rw [hlen] at hj1
      simp only [List.getElem_map, List.getElem_range] at hj2
      rw [Addr.add_lit, hc _ (by omega), hj2])
    refine ⟨.agg ((List.range i.sz).map cell).toArray, by simp only [execOp, ho, e, Instr.loadAt, Instr.sureAddr, Sem.run_bind, Sem.run_pure, Result.andThen_ok, hrun], .agg _ (by simp; omega) (fun j hj => ?_) (fun j hj => ?_)⟩
    · rw [List.length_take] at hj
      simp only [List.getElem_take]
      have : ((List.range i.sz).map cell).toArray.getD j undef = cell j := by
        have hj' : j < i.sz := by omega
        simp [hj']
      rw [this]
      exact (hr j (by omega)).open_
    · have hj' : j < i.sz := by simpa using hj
      have : ((List.range i.sz).map cell).toArray.getD j undef = cell j := by simp [hj']
      rw [this]
      exact h1c _ (by omega)
theorem r_load_ref_one {T : Nat} {x : Operand} {i : TyI} {av : AV} {cs : List AV} (ho : o.op = .load T x) (hd : dok cx o = true) (hxo : opdOk x = true) (hx : σ.eval x = .ref (av :: cs)) (hT : lkT cx.E.tab T = some i) (ha : i.shape.agg = false) :
    OpRule cx o σ av [] [] :=
  rule_val hd fun τ γ a w h1 h2 hst => by
    have hev := hst.ev x hxo
    rw [h1 x (by simp [ho, Op.operands]), hx] at hev
    obtain ⟨b, off, e, hS, hb, cell, hc, hr, h1c⟩ := hev.ref_inv
    have hrun := run_loadVar_one (cx.E.ok T i hT) ha w ⟨b, off, none⟩ (cell 0) (by simpa using hc 0 (by simp))
    exact ⟨cell 0, by simp only [execOp, ho, e, Instr.loadAt, Instr.sureAddr, Sem.run_bind, Sem.run_pure, Result.andThen_ok, hrun], (hr 0 (by simp)).open_⟩

theorem run_storeVar {P : Program} {T : TypeId} {i : TyI} (h : TyOk P T i) (w : World) (g off : Nat) (ty : TypeId) (vs : Array Value) (v : Value) (hb : Blk w g ty vs) (hl : v.cells.size = i.sz) (hfit : off + i.sz ≤ vs.size) (h1 : ∀ u ∈ v.cells.toList, u.oneCell' = true) :
    (storeVar T ⟨g, off, none⟩ v).run P w = .ok () (w.setRow g (vs.toList.take off ++ v.cells.toList ++ vs.toList.drop (off + i.sz)).toArray) := by
  have := run_storeCells_at P g off ty v.cells.toList 0 vs w hb (by simp [hl]; omega) h1
  simp only [Nat.add_zero, Array.length_toList, hl] at this
  simp [storeVar, h.size, hl, this]

theorem r_store {T id off : Nat} {x y : Operand} {i : TyI} {ty : TypeId} {cs cs' : List AV} {av : AV} (ho : o.op = .store T x y) (hd : dok cx o = true) (hxo : opdOk x = true) (hyo : opdOk y = true) (hx : σ.eval x = .ptr id off) (hy : σ.eval y = av) (hT : lkT cx.E.tab T = some i) (hl : σ.find id = some (.box ty cs)) (hn : off + i.sz ≤ cs.length)
    (hav : av.cells.length = i.sz) (hc : okc σ av = true) (hcs : cs.take off ++ av.cells ++ cs.drop (off + i.sz) = cs') : OpRule cx o σ (.tup []) (id :: av.ids) [(id, .box ty cs')] := by
  refine ⟨fun id' e he => ?_, fun τ h1 h2 a w Q K ⟨γ, hst⟩ hK => wp_in (fun c hc => by rw [ho] at hc; cases hc) ?_⟩
  · simp only [lkE] at he
    cases hb : Nat.beq id id' with
    | true => simp [Nat.eq_of_beq_eq_true hb]
    | false => rw [hb] at he; cases he
  have hev := hst.ev x hxo
  rw [h1 x (by simp [ho, Op.operands]), hx] at hev
  have hevy := hst.ev y hyo
  rw [h1 y (by simp [ho, Op.operands]), hy] at hevy
  have hme := hst.me id
  rw [h2 id (by simp), hl] at hme
  obtain ⟨d, hd', g, vs, hde, hb, hsz, hr, hone⟩ := hme
  subst hde
  have e := hev.ptr_inv hd'
  obtain ⟨c1, c2, c3⟩ := cells_rep hst hevy hc (fun id hid => h2 id (by simp [hid]))
  have hone' : ∀ u ∈ (a.eval y).cells.toList, u.oneCell' = true := fun u hu => by
    obtain ⟨j, hj, rfl⟩ := List.mem_iff_getElem.1 hu
    have hj' : j < (a.eval y).cells.size := by simpa using hj
    have := c3 j hj'
    simpa [Array.getD, hj'] using this
  have hrun := run_storeVar (cx.E.ok T i hT) w g off ty vs (a.eval y) hb (c1.trans hav) (by omega) hone'
  unfold Oper.wp
  have hex : (execOp a.eval o).run cx.P w = .ok .skip (w.setRow g (vs.toList.take off ++ (a.eval y).cells.toList ++ vs.toList.drop (off + i.sz)).toArray) := by
    simp only [execOp, ho, e, Instr.storeAt, Instr.sureAddr, Sem.run_bind, Sem.run_pure, Result.andThen_ok, hrun]
  rw [hex]
  have hblk := setRow_heap w g vs (vs.toList.take off ++ (a.eval y).cells.toList ++ vs.toList.drop (off + i.sz)).toArray ty (0, 0) hb
  have hoth : ∀ k, k ≠ g → (w.setRow g (vs.toList.take off ++ (a.eval y).cells.toList ++ vs.toList.drop (off + i.sz)).toArray).heap[k]? = w.heap[k]? := fun k hk => setRow_other w g k _ hk
  have hgo : own γ g := own.mk hd'
  have hgl := hst.ge g hgo
  have hns : ∀ b, Sg cx.S0 cx.w0.heap.size γ b → b ≠ g := fun b hS e => by
    subst e
    rcases hS with ⟨_, h⟩ | ⟨_, h⟩
    · have := hgl.1.1; omega
    · exact h hgo
  generalize hw' : w.setRow g (vs.toList.take off ++ (a.eval y).cells.toList ++ vs.toList.drop (off + i.sz)).toArray = w' at *
  have hz : w.heap.size ≤ w'.heap.size := by rw [← hw']; simp
  have hdr : w.drawn ≤ w'.drawn := by rw [← hw']; exact Nat.le_refl _
  refine hK _ _ ⟨γ, hst.step (dok_iff hd) hz (fun b hS hlt => ⟨hoth b (hns b hS), hS⟩) (fun id d h => Or.inl h) (fun id' hid' => ⟨rfl, fun g' s hg' hm' => hoth g' ?_⟩) (fun id' e' he' => ?_) hst.inj (fun b hbo => ⟨(hst.ge b hbo).1, Nat.lt_of_lt_of_le (hst.ge b hbo).2 hz⟩) ?_ (.tup #[] rfl (fun i hi => by simp at hi)) (fun b hno _ => ⟨hoth b (fun e => hno (e ▸ hgo)), hno⟩) (fun _ => hdr)⟩
  · rintro rfl
    have := hst.inj _ _ _ _ _ hg' hd' hm' blks_one
    subst this
    simp [lkE] at hid'
  · have hid : id' = id := by
      simp only [lkE] at he'
      cases hbq : Nat.beq id id' with
      | true => exact (Nat.eq_of_beq_eq_true hbq).symm
      | false => rw [hbq] at he'; cases he'
    subst hid
    simp only [lkE, Nat.beq_refl, Option.some.injEq] at he'
    subst he'
    have hmv : ∀ {av v}, Rep w (Sg cx.S0 cx.w0.heap.size γ) γ av v → Rep w' (Sg cx.S0 cx.w0.heap.size γ) γ av v := fun h => h.mono hz (fun b hS _ => ⟨hoth b (hns b hS), hS⟩)
    have hcl : cs'.length = cs.length := by rw [← hcs]; simp; omega
    have hvl : (vs.toList.take off ++ (a.eval y).cells.toList ++ vs.toList.drop (off + i.sz)).toArray.size = vs.size := by
      simp; omega
    have hat : ∀ j (hj : j < cs.length), (vs.toList.take off ++ (a.eval y).cells.toList ++ vs.toList.drop (off + i.sz)).toArray.getD j undef = if j < off then vs.getD j undef else if j < off + i.sz then (a.eval y).cells.getD (j - off) undef else vs.getD j undef := fun j hj => by
      simp only [Array.getD_eq_getD_getElem?, List.getElem?_toArray]
      congr 1
      by_cases h1 : j < off
      · rw [if_pos h1]
        rw [List.append_assoc, List.getElem?_append_left (by simp; omega), List.getElem?_take_of_lt h1]
        simp
      · rw [if_neg h1]
        by_cases h2 : j < off + i.sz
        · rw [if_pos h2, List.append_assoc, List.getElem?_append_right (by simp; omega), List.getElem?_append_left (by simp; omega)]
          rw [show j - (List.take off vs.toList).length = j - off by simp; omega]
          simp
        · rw [if_neg h2, List.getElem?_append_right (by simp; omega), List.getElem?_drop]
          rw [show off + i.sz + (j - (List.take off vs.toList ++ (a.eval y).cells.toList).length) = j by simp; omega]
          simp
    refine ⟨_, hd', g, _, rfl, hblk, by omega, fun j hj => ?_, fun j hj => ?_⟩
    · rw [hat j (by omega)]
      have hcj : cs'[j] = if h1 : j < off then cs[j]'(by omega) else if h2 : j < off + i.sz then av.cells[j - off]'(by omega) else cs[j]'(by omega) := by
        subst hcs
        by_cases h1 : j < off
        · rw [dif_pos h1, List.getElem_append_left (by simp; omega), List.getElem_append_left (by simp; omega), List.getElem_take]
        · rw [dif_neg h1]
          by_cases h2 : j < off + i.sz
          · rw [dif_pos h2, List.getElem_append_left (by simp; omega), List.getElem_append_right (by simp; omega)]
            congr 1
            simp; omega
          · rw [dif_neg h2, List.getElem_append_right (by simp; omega), List.getElem_drop]
            congr 1
            simp; omega
      rw [hcj]
      by_cases h1 : j < off
      · rw [if_pos h1, dif_pos h1]; exact hmv (hr j (by omega))
      · rw [if_neg h1, dif_neg h1]
        by_cases h2 : j < off + i.sz
        · rw [if_pos h2, dif_pos h2]; exact hmv (c2 (j - off) (by omega))
        · rw [if_neg h2, dif_neg h2]; exact hmv (hr j (by omega))
    · rw [hvl] at hj
      rw [hat j (by omega)]
      by_cases h1 : j < off
      · rw [if_pos h1]; exact hone j hj
      · rw [if_neg h1]
        by_cases h2 : j < off + i.sz
        · rw [if_pos h2]; exact c3 (j - off) (by omega)
        · rw [if_neg h2]; exact hone j hj
  · refine hst.below.trans ⟨by rw [← hw']; rfl, by rw [← hw']; rfl, by rw [← hw']; rfl, hz, fun k hk => hoth k (by have := hgl.1.1; omega)⟩
end
end Go.Proofs.Ytkbopbgcjfcjjaa
namespace Go.Proofs.Ytkbopbgcjfcjjaa
open Go.RowKit

theorem und_slc {P : Program} {T : TypeId} {i : TyI} {e esz eb : Nat} (h : TyOk P T i) (hs : i.shape = .slc e esz eb) : P.underlying T = some (.slice e) ∧ P.cellsOf e = esz ∧ P.bytesOf e = eb := by
  obtain ⟨d, hd, he⟩ := h.und
  rw [hs] at he
  cases d <;> simp only [shapeOf, Shape.slc.injEq, reduceCtorEq] at he
  obtain ⟨rfl, h2, h3⟩ := he
  exact ⟨hd, h2, h3⟩
theorem size_of_cells {P : Program} {e esz : Nat} (h : P.cellsOf e = esz) (hz : esz ≠ 0) (w : World) : (sizeOf e).run P w = .ok esz w := by
  unfold Program.cellsOf at h
  cases hq : P.info? e with
  | none => rw [hq] at h; simp at h; exact absurd h.symm hz
  | some info => rw [hq] at h; simp at h; simp [sizeOf, typeInfo, hq, h]

section
variable {cx : Cx} {o : Oper} {σ : AS}

theorem r_indexAddr_sl {T : Nat} {x y : Operand} {i : TyI} {e sz eb : Nat} {xs : List AV} {k : IntKind} {n : Int} {m : Nat} {el : AV} (ho : o.op = .indexAddr T x y) (hd : dok cx o = true) (hxo : opdOk x = true) (hyo : opdOk y = true) (hx : σ.eval x = .sl sz xs) (hy : σ.eval y = .int k n)
    (hT : lkT cx.E.tab T = some i) (hs : i.shape = .slc e sz eb) (hz : sz ≠ 0) (hn : n = (m : Int)) (he : xs[m]? = some el) : OpRule cx o σ (.ref el.cells) [] [] :=
  rule_val hd fun τ γ a w h1 h2 hst => by
    have hev := hst.ev x hxo
    rw [h1 x (by simp [ho, Op.operands]), hx] at hev
    have hevy := hst.ev y hyo
    rw [h1 y (by simp [ho, Op.operands]), hy] at hevy
    obtain ⟨hm, hel⟩ := List.getElem?_eq_some_iff.1 he
    obtain ⟨A, c, ex, hc, hlen, cell, hb, hr, h1c⟩ := hev.sl_inv
    obtain ⟨b, off, rfl, hS, hlt, hcell⟩ := hb (by omega)
    obtain ⟨hu, hce, _⟩ := und_slc (cx.E.ok T i hT) hs
    have hl := hlen m hm
    rw [hel] at hl
    refine ⟨.pointer (some ⟨b, off + m * sz, none⟩), ?_, .ref b (off + m * sz) (fun j => cell m j) hS hlt (fun j hj => ?_) (fun j hj => ?_) (fun j hj => h1c m j)⟩
    · subst hn
      simp [execOp, ho, ex, hevy.int_inv, Instr.indexAt, asIntOf, run_underlying hu, size_of_cells hce hz, hm, pure, Addr.add_lit]
    · have := hcell m j hm (by omega)
      rwa [← Nat.add_assoc] at this
    · have hj' : j < (xs[m]).cells.length := by rw [hel]; exact hj
      have := hr m hm j hj'
      simp only [hel] at this
      exact this
theorem r_indexAddr_row {T id : Nat} {x y : Operand} {i : TyI} {e sz eb : Nat} {ty : TypeId} {xs : List AV} {k : IntKind} {n : Int} {m : Nat} (ho : o.op = .indexAddr T x y) (hd : dok cx o = true) (hxo : opdOk x = true) (hyo : opdOk y = true) (hx : σ.eval x = .row id) (hy : σ.eval y = .int k n)
    (hl : σ.find id = some (.row ty sz xs)) (hT : lkT cx.E.tab T = some i) (hs : i.shape = .slc e sz eb) (hz : sz ≠ 0) (hn : n = (m : Int)) (hm : m < xs.length) : OpRule cx o σ (.elt id sz m 0) [id] [] :=
  rule_val hd fun τ γ a w h1 h2 hst => by
    have hev := hst.ev x hxo
    rw [h1 x (by simp [ho, Op.operands]), hx] at hev
    have hevy := hst.ev y hyo
    rw [h1 y (by simp [ho, Op.operands]), hy] at hevy
    have hme := hst.me id
    rw [h2 id (by simp), hl] at hme
    obtain ⟨d, hd', s, vs, hde, _, hown, _⟩ := hme
    subst hde
    obtain ⟨hu, hce, _⟩ := und_slc (cx.E.ok T i hT) hs
    have ex := hev.row_inv hd'
    rcases hown.2 with ⟨rfl, h0⟩ | ⟨g, cap, cur, rfl, _⟩
    · omega
    refine ⟨.pointer (some ⟨g, m * sz, none⟩), ?_, .elt hd' (fun g' s e => by injection e with e; injection e with e _; simp only [Value.ownBlock, Option.some.injEq] at e; rw [← e]; rfl)⟩
    subst hn
    simp [execOp, ho, ex, hevy.int_inv, Instr.indexAt, asIntOf, run_underlying hu, size_of_cells hce hz, hm, pure, Addr.add_lit]

theorem row_cells {w : World} {B ty sz n : Nat} {s : Value} {vs : List Value} {g : Nat} (h : w.ownsRow B ty sz s n vs) (hg : s.ownBlock = some g) (j : Nat) (hj : j < n * sz) : w.cell? ⟨g, j, none⟩ = some (vs.getD j undef) := by
  obtain ⟨hl, h⟩ := h
  rcases h with ⟨rfl, h0⟩ | ⟨g', cap, cur, rfl, hb, hh, hn, hm, hs, ht⟩
  · simp [Value.ownBlock] at hg
  · simp only [Value.ownBlock, Option.some.injEq] at hg
    subst hg
    have hsz : n * sz ≤ cap * sz := Nat.mul_le_mul_right _ hn
    rw [cell_of_row w g' j cur ty (0, 0) hh, ← ht]
    rw [List.getD_eq_getElem?_getD, List.getElem?_take_of_lt hj]
    simp only [Array.getElem?_toList]
    rw [Array.getElem?_eq_getElem (by omega)]
    rfl
theorem r_load_elt_agg {T id sz k : Nat} {x : Operand} {i : TyI} {ty : TypeId} {xs : List AV} {el : AV} (ho : o.op = .load T x) (hd : dok cx o = true) (hxo : opdOk x = true) (hx : σ.eval x = .elt id sz k 0) (hT : lkT cx.E.tab T = some i) (ha : i.shape.agg = true) (hl : σ.find id = some (.row ty sz xs)) (hsz : i.sz = sz) (he : xs[k]? = some el) :
    OpRule cx o σ (.agg el.cells) [id] [] :=
  rule_val hd fun τ γ a w h1 h2 hst => by
    have hev := hst.ev x hxo
    rw [h1 x (by simp [ho, Op.operands]), hx] at hev
    have hme := hst.me id
    rw [h2 id (by simp), hl] at hme
    obtain ⟨d, hd', s, vs, hde, _, hown, hlen, hr, hone⟩ := hme
    subst hde
    obtain ⟨hk, hel⟩ := List.getElem?_eq_some_iff.1 he
    have hg : ∃ g, s.ownBlock = some g := by
      rcases hown.2 with ⟨rfl, h0⟩ | ⟨g, cap, cur, rfl, _⟩
      · omega
      · exact ⟨g, rfl⟩
    obtain ⟨g, hg⟩ := hg
    rw [hg] at hd'
    have e := hev.elt_inv hd'
    have hle := hlen k hk
    rw [hel] at hle
    have hin : ∀ j, j < sz → k * sz + j < xs.length * sz := fun j hj => by
      have : (k + 1) * sz ≤ xs.length * sz := Nat.mul_le_mul_right _ hk
      rw [Nat.succ_mul] at this
      omega
    have hln : ((List.range i.sz).map fun j => vs.getD (k * sz + j) undef).length = i.sz := by simp
    have hrun := run_loadVar_agg (cx.E.ok T i hT) ha w ⟨g, k * sz + 0, none⟩ ((List.range i.sz).map fun j => vs.getD (k * sz + j) undef) hln (fun j v hj => by
      obtain ⟨hj1, hj2⟩ := List.getElem?_eq_some_iff.1 hj
      rw [hln] at hj1
      simp only [List.getElem_map, List.getElem_range] at hj2
      rw [Addr.add_lit, Nat.add_zero, row_cells hown hg _ (hin j (by omega)), hj2])
    refine ⟨.agg ((List.range i.sz).map fun j => vs.getD (k * sz + j) undef).toArray, by simp only [execOp, ho, e, Instr.loadAt, Instr.sureAddr, Sem.run_bind, Sem.run_pure, Result.andThen_ok, hrun], .agg _ (by simp; omega) (fun j hj => ?_) (fun j hj => ?_)⟩
    · have : ((List.range i.sz).map fun j => vs.getD (k * sz + j) undef).toArray.getD j undef = vs.getD (k * sz + j) undef := by
        have hj' : j < i.sz := by omega
        simp [hj']
      rw [this]
      have hj' : j < (xs[k]).cells.length := by rw [hel]; exact hj
      have := hr k hk j hj'
      simp only [hel] at this
      exact this.open_
    · have hj' : j < i.sz := by simpa using hj
      have : ((List.range i.sz).map fun j => vs.getD (k * sz + j) undef).toArray.getD j undef = vs.getD (k * sz + j) undef := by simp [hj']
      rw [this]
      have hb : k * sz + j < vs.length := by rw [hown.1]; exact hin j (by omega)
      rw [List.getD_eq_getElem?_getD, List.getElem?_eq_getElem hb]
      exact hone _ (List.getElem_mem hb)
theorem r_load_elt_one {T id sz k j : Nat} {x : Operand} {i : TyI} {ty : TypeId} {xs : List AV} {el av : AV} (ho : o.op = .load T x) (hd : dok cx o = true) (hxo : opdOk x = true) (hx : σ.eval x = .elt id sz k j) (hT : lkT cx.E.tab T = some i) (ha : i.shape.agg = false) (hl : σ.find id = some (.row ty sz xs)) (he : xs[k]? = some el) (hc : el.cells[j]? = some av) :
    OpRule cx o σ av [id] [] :=
  rule_val hd fun τ γ a w h1 h2 hst => by
    have hev := hst.ev x hxo
    rw [h1 x (by simp [ho, Op.operands]), hx] at hev
    have hme := hst.me id
    rw [h2 id (by simp), hl] at hme
    obtain ⟨d, hd', s, vs, hde, _, hown, hlen, hr, hone⟩ := hme
    subst hde
    obtain ⟨hk, hel⟩ := List.getElem?_eq_some_iff.1 he
    obtain ⟨hj, hcj⟩ := List.getElem?_eq_some_iff.1 hc
    have hg : ∃ g, s.ownBlock = some g := by
      rcases hown.2 with ⟨rfl, h0⟩ | ⟨g, cap, cur, rfl, _⟩
      · omega
      · exact ⟨g, rfl⟩
    obtain ⟨g, hg⟩ := hg
    rw [hg] at hd'
    have e := hev.elt_inv hd'
    have hle := hlen k hk
    rw [hel] at hle
    have hin : k * sz + j < xs.length * sz := by
      have : (k + 1) * sz ≤ xs.length * sz := Nat.mul_le_mul_right _ hk
      rw [Nat.succ_mul] at this
      omega
    have hrun := run_loadVar_one (cx.E.ok T i hT) ha w ⟨g, k * sz + j, none⟩ _ (row_cells hown hg _ hin)
    refine ⟨vs.getD (k * sz + j) undef, by simp only [execOp, ho, e, Instr.loadAt, Instr.sureAddr, Sem.run_bind, Sem.run_pure, Result.andThen_ok, hrun], ?_⟩
    have hj' : j < (xs[k]).cells.length := by rw [hel]; exact hj
    have := hr k hk j hj'
    simp only [hel, hcj] at this
    exact this.open_

theorem getElem?_of_getD {vs : Array Value} {j : Nat} (h : j < vs.size) : vs[j]? = some (vs.getD j undef) := by
  rw [Array.getD_eq_getD_getElem?, Array.getElem?_eq_getElem h]; rfl
theorem r_field_one {T f fo fsz : Nat} {x : Operand} {i : TyI} {fs : List (Nat × Nat × Option Bool)} {cs : List AV} {av : AV} (ho : o.op = .field T x f) (hd : dok cx o = true) (hxo : opdOk x = true) (hx : σ.eval x = .agg cs) (hT : lkT cx.E.tab T = some i) (hs : i.shape = .strct fs) (hf : fs[f]? = some (fo, fsz, some false)) (hc : cs[fo]? = some av) :
    OpRule cx o σ av [] [] :=
  rule_val hd fun τ γ a w h1 h2 hst => by
    have hev := hst.ev x hxo
    rw [h1 x (by simp [ho, Op.operands]), hx] at hev
    obtain ⟨vs, e, hl, hr, h1c⟩ := hev.agg_inv
    obtain ⟨Fs, hF, rfl⟩ := und_strct (cx.E.ok T i hT) hs
    simp only [List.getElem?_map, Option.map_eq_some_iff, Prod.mk.injEq] at hf
    obtain ⟨fd, hfd, e1, e2, e3⟩ := hf
    have hfd' : Fs[f]? = some fd := by simpa using hfd
    obtain ⟨hlt, hc'⟩ := List.getElem?_eq_some_iff.1 hc
    have hagg := run_isAggT e3 w
    have hget := getElem?_of_getD (vs := vs) (j := fo) (by omega)
    refine ⟨vs.getD fo undef, ?_, ?_⟩
    · simp only [execOp, ho, e, Instr.field, Sem.run_bind, Sem.run_pure, Result.andThen_ok, run_underlying hF, hfd', asAgg, part, hagg, e1, hget]
      rfl
    · have := hr fo hlt
      rwa [hc'] at this
theorem r_field_agg {T f fo fsz : Nat} {x : Operand} {i : TyI} {fs : List (Nat × Nat × Option Bool)} {cs : List AV} (ho : o.op = .field T x f) (hd : dok cx o = true) (hxo : opdOk x = true) (hx : σ.eval x = .agg cs) (hT : lkT cx.E.tab T = some i) (hs : i.shape = .strct fs) (hf : fs[f]? = some (fo, fsz, some true)) (hz : fsz ≠ 0) (hc : fo + fsz ≤ cs.length) :
    OpRule cx o σ (.agg ((cs.drop fo).take fsz)) [] [] :=
  rule_val hd fun τ γ a w h1 h2 hst => by
    have hev := hst.ev x hxo
    rw [h1 x (by simp [ho, Op.operands]), hx] at hev
    obtain ⟨vs, e, hl, hr, h1c⟩ := hev.agg_inv
    obtain ⟨Fs, hF, rfl⟩ := und_strct (cx.E.ok T i hT) hs
    simp only [List.getElem?_map, Option.map_eq_some_iff, Prod.mk.injEq] at hf
    obtain ⟨fd, hfd, e1, e2, e3⟩ := hf
    have hfd' : Fs[f]? = some fd := by simpa using hfd
    have hagg := run_isAggT e3 w
    have hsz := size_of_cells e2 hz w
    have hx : ∀ j, j < fsz → (vs.extract fo (fo + fsz)).getD j undef = vs.getD (fo + j) undef := fun j hj => by
      rw [Array.getD_eq_getD_getElem?, Array.getD_eq_getD_getElem?, Array.getElem?_extract, if_pos (by omega)]
    refine ⟨.agg (vs.extract fo (fo + fsz)), ?_, .agg _ (by simp; omega) (fun j hj => ?_) (fun j hj => ?_)⟩
    · simp only [execOp, ho, e, Instr.field, Sem.run_bind, Sem.run_pure, Result.andThen_ok, run_underlying hF, hfd', asAgg, part, hagg, e1, if_true, hsz]
    · rw [List.length_take, List.length_drop] at hj
      rw [hx j (by omega)]
      simp only [List.getElem_take, List.getElem_drop]
      exact hr (fo + j) (by omega)
    · have hj' : j < fsz := by simp at hj; omega
      rw [hx j hj']
      exact h1c _ (by omega)
theorem r_index_one {T n e esz : Nat} {x y : Operand} {i : TyI} {cs : List AV} {av : AV} {k : IntKind} {m : Int} {q : Nat} (ho : o.op = .index T x y) (hd : dok cx o = true) (hxo : opdOk x = true) (hyo : opdOk y = true) (hx : σ.eval x = .agg cs) (hy : σ.eval y = .int k m) (hT : lkT cx.E.tab T = some i)
    (hs : i.shape = .arr n e esz (some false)) (hz : esz ≠ 0) (hm : m = (q : Int)) (hq : q < n) (hc : cs[q * esz]? = some av) : OpRule cx o σ av [] [] :=
  rule_val hd fun τ γ a w h1 h2 hst => by
    have hev := hst.ev x hxo
    rw [h1 x (by simp [ho, Op.operands]), hx] at hev
    have hevy := hst.ev y hyo
    rw [h1 y (by simp [ho, Op.operands]), hy] at hevy
    obtain ⟨vs, ex, hl, hr, h1c⟩ := hev.agg_inv
    obtain ⟨d, hdu, he⟩ := (cx.E.ok T i hT).und
    rw [hs] at he
    cases d <;> simp only [shapeOf, Shape.arr.injEq, reduceCtorEq] at he
    obtain ⟨hn, rfl, e2, e3⟩ := he
    subst hn
    obtain ⟨hlt, hc'⟩ := List.getElem?_eq_some_iff.1 hc
    have hagg := run_isAggT e3 w
    have hget := getElem?_of_getD (vs := vs) (j := q * esz) (by omega)
    subst hm
    have hres := hr (q * esz) hlt
    rw [hc'] at hres
    generalize vs.getD (q * esz) undef = u at *
    exact ⟨u, by simp [execOp, ho, ex, hevy.int_inv, Instr.index, asIntOf, run_underlying hdu, size_of_cells e2 hz, hq, part, hagg, hget, pure], hres⟩
theorem r_index_agg {T n e esz : Nat} {x y : Operand} {i : TyI} {cs : List AV} {k : IntKind} {m : Int} {q : Nat} (ho : o.op = .index T x y) (hd : dok cx o = true) (hxo : opdOk x = true) (hyo : opdOk y = true) (hx : σ.eval x = .agg cs) (hy : σ.eval y = .int k m) (hT : lkT cx.E.tab T = some i)
    (hs : i.shape = .arr n e esz (some true)) (hz : esz ≠ 0) (hm : m = (q : Int)) (hq : q < n) (hc : q * esz + esz ≤ cs.length) : OpRule cx o σ (.agg ((cs.drop (q * esz)).take esz)) [] [] :=
  rule_val hd fun τ γ a w h1 h2 hst => by
    have hev := hst.ev x hxo
    rw [h1 x (by simp [ho, Op.operands]), hx] at hev
    have hevy := hst.ev y hyo
    rw [h1 y (by simp [ho, Op.operands]), hy] at hevy
    obtain ⟨vs, ex, hl, hr, h1c⟩ := hev.agg_inv
    obtain ⟨d, hdu, he⟩ := (cx.E.ok T i hT).und
    rw [hs] at he
    cases d <;> simp only [shapeOf, Shape.arr.injEq, reduceCtorEq] at he
    obtain ⟨rfl, rfl, e2, e3⟩ := he
    have hagg := run_isAggT e3 w
    have hxx : ∀ j, j < esz → (vs.extract (q * esz) (q * esz + esz)).getD j undef = vs.getD (q * esz + j) undef := fun j hj => by
      rw [Array.getD_eq_getD_getElem?, Array.getD_eq_getD_getElem?, Array.getElem?_extract, if_pos (by omega)]
    subst hm
    refine ⟨.agg (vs.extract (q * esz) (q * esz + esz)), ?_, .agg _ (by simp; omega) (fun j hj => ?_) (fun j hj => ?_)⟩
    · simp [execOp, ho, ex, hevy.int_inv, Instr.index, asIntOf, run_underlying hdu, size_of_cells e2 hz, hq, part, hagg, pure]
    · rw [List.length_take, List.length_drop] at hj
      rw [hxx j (by omega)]
      simp only [List.getElem_take, List.getElem_drop]
      exact hr (q * esz + j) (by omega)
    · have hj' : j < esz := by simp at hj; omega
      rw [hxx j hj']
      exact h1c _ (by omega)
theorem r_extract {x : Operand} {ix : Nat} {cs : List AV} {av : AV} (ho : o.op = .extract x ix) (hd : dok cx o = true) (hxo : opdOk x = true) (hx : σ.eval x = .tup cs) (hc : cs[ix]? = some av) : OpRule cx o σ av [] [] :=
  rule_val hd fun τ γ a w h1 h2 hst => by
    have hev := hst.ev x hxo
    rw [h1 x (by simp [ho, Op.operands]), hx] at hev
    obtain ⟨vs, e, hl, hr⟩ := hev.tup_inv
    obtain ⟨hlt, hc'⟩ := List.getElem?_eq_some_iff.1 hc
    have hget := getElem?_of_getD (vs := vs) (j := ix) (by omega)
    have hres := hr ix hlt
    rw [hc'] at hres
    generalize vs.getD ix undef = u at *
    exact ⟨u, by simp [execOp, ho, e, Instr.extract, hget, pure], hres⟩

theorem r_len_sl {T ty sz : Nat} {x : Operand} {i : TyI} {e esz eb : Nat} {xs : List AV} (ho : o.op = .call { callee := .builtin .len, args := #[x], argTypes := #[T] }) (hd : dok cx o = true) (hxo : opdOk x = true) (hx : σ.eval x = .sl sz xs) (hT : lkT cx.E.tab T = some i) (hs : i.shape = .slc e esz eb) :
    OpRule cx o σ (.int .i64 (xs.length : Int)) [] [] :=
  rule_val hd fun τ γ a w h1 h2 hst => by
    have hev := hst.ev x hxo
    rw [h1 x (by simp [ho, Op.operands, Call.operands]), hx] at hev
    obtain ⟨A, c, ex, _⟩ := hev.sl_inv
    obtain ⟨hu, _, _⟩ := und_slc (cx.E.ok T i hT) hs
    exact ⟨.int .i64 (xs.length : Int), by simp [execOp, ho, resolve, invoke, builtin, Builtin.len_, ex, run_underlying hu, goInt, pure], .int _ _⟩
theorem r_len_nils {T ty : Nat} {x : Operand} {i : TyI} {e esz eb : Nat} (ho : o.op = .call { callee := .builtin .len, args := #[x], argTypes := #[T] }) (hd : dok cx o = true) (hxo : opdOk x = true) (hx : σ.eval x = .nils) (hT : lkT cx.E.tab T = some i) (hs : i.shape = .slc e esz eb) :
    OpRule cx o σ (.int .i64 0) [] [] :=
  rule_val hd fun τ γ a w h1 h2 hst => by
    have hev := hst.ev x hxo
    rw [h1 x (by simp [ho, Op.operands, Call.operands]), hx] at hev
    obtain ⟨hu, _, _⟩ := und_slc (cx.E.ok T i hT) hs
    exact ⟨.int .i64 0, by simp [execOp, ho, resolve, invoke, builtin, Builtin.len_, hev.nils_inv, run_underlying hu, goInt, pure], .int _ _⟩
theorem r_len_row {T id sz : Nat} {x : Operand} {i : TyI} {e esz eb : Nat} {ty : TypeId} {xs : List AV} (ho : o.op = .call { callee := .builtin .len, args := #[x], argTypes := #[T] }) (hd : dok cx o = true) (hxo : opdOk x = true) (hx : σ.eval x = .row id) (hl : σ.find id = some (.row ty sz xs)) (hT : lkT cx.E.tab T = some i) (hs : i.shape = .slc e esz eb) :
    OpRule cx o σ (.int .i64 (xs.length : Int)) [id] [] :=
  rule_val hd fun τ γ a w h1 h2 hst => by
    have hev := hst.ev x hxo
    rw [h1 x (by simp [ho, Op.operands, Call.operands]), hx] at hev
    have hme := hst.me id
    rw [h2 id (by simp), hl] at hme
    obtain ⟨d, hd', s, vs, hde, _, hown, _⟩ := hme
    subst hde
    have e := hev.row_inv hd'
    obtain ⟨hu, _, _⟩ := und_slc (cx.E.ok T i hT) hs
    have hsl : ∃ A c, s = .slice A xs.length c := by
      rcases hown.2 with ⟨rfl, h0⟩ | ⟨g, cap, cur, rfl, _⟩
      · exact ⟨none, 0, by rw [h0]⟩
      · exact ⟨_, _, rfl⟩
    obtain ⟨A, c, rfl⟩ := hsl
    exact ⟨.int .i64 (xs.length : Int), by simp [execOp, ho, resolve, invoke, builtin, Builtin.len_, e, run_underlying hu, goInt, pure], .int _ _⟩
theorem r_len_str {T : Nat} {x : Operand} {i : TyI} {s : ByteArray} (ho : o.op = .call { callee := .builtin .len, args := #[x], argTypes := #[T] }) (hd : dok cx o = true) (hxo : opdOk x = true) (hx : σ.eval x = .str s) (hT : lkT cx.E.tab T = some i) (hs : i.shape = .str) :
    OpRule cx o σ (.int .i64 (s.size : Int)) [] [] :=
  rule_val hd fun τ γ a w h1 h2 hst => by
    have hev := hst.ev x hxo
    rw [h1 x (by simp [ho, Op.operands, Call.operands]), hx] at hev
    obtain ⟨d, hdu, he⟩ := (cx.E.ok T i hT).und
    rw [hs] at he
    cases d <;> simp only [shapeOf, reduceCtorEq] at he
    exact ⟨.int .i64 (s.size : Int), by simp [execOp, ho, resolve, invoke, builtin, Builtin.len_, hev.str_inv, run_underlying hdu, goInt, pure], .int _ _⟩

theorem r_max {T : Array TypeId} {x y : Operand} {k k' : IntKind} {a b : Int} (ho : o.op = .call { callee := .builtin .max, args := #[x, y], argTypes := T }) (hd : dok cx o = true) (hxo : opdOk x = true) (hyo : opdOk y = true) (hx : σ.eval x = .int k a) (hy : σ.eval y = .int k' b) : OpRule cx o σ (.int k (max a b)) [] [] :=
  rule_val hd fun τ γ ac w h1 h2 hst => by
    have e1 := hst.ev x hxo
    rw [h1 x (by simp [ho, Op.operands, Call.operands]), hx] at e1
    have e2 := hst.ev y hyo
    rw [h1 y (by simp [ho, Op.operands, Call.operands]), hy] at e2
    have hm : (if b > a then b else a) = max a b := by split <;> omega
    refine ⟨.int k (max a b), ?_, .int _ _⟩
    rw [← hm]
    simp only [execOp, ho, resolve, invoke, builtin, Sem.run_bind, Sem.run_pure, Result.andThen_ok, List.map_toArray, List.map_cons, List.map_nil, e1.int_inv, e2.int_inv]
    rfl
theorem r_min {T : Array TypeId} {x y : Operand} {k k' : IntKind} {a b : Int} (ho : o.op = .call { callee := .builtin .min, args := #[x, y], argTypes := T }) (hd : dok cx o = true) (hxo : opdOk x = true) (hyo : opdOk y = true) (hx : σ.eval x = .int k a) (hy : σ.eval y = .int k' b) : OpRule cx o σ (.int k (min a b)) [] [] :=
  rule_val hd fun τ γ ac w h1 h2 hst => by
    have e1 := hst.ev x hxo
    rw [h1 x (by simp [ho, Op.operands, Call.operands]), hx] at e1
    have e2 := hst.ev y hyo
    rw [h1 y (by simp [ho, Op.operands, Call.operands]), hy] at e2
    have hm : (if b < a then b else a) = min a b := by split <;> omega
    refine ⟨.int k (min a b), ?_, .int _ _⟩
    rw [← hm]
    simp only [execOp, ho, resolve, invoke, builtin, Sem.run_bind, Sem.run_pure, Result.andThen_ok, List.map_toArray, List.map_cons, List.map_nil, e1.int_inv, e2.int_inv]
    rfl
end
end Go.Proofs.Ytkbopbgcjfcjjaa
namespace Go.Proofs.Ytkbopbgcjfcjjaa
open Go.RowKit

def CRel (w : World) (S : Nat → Prop) (γ : Gam) (cells : Array Value) (cs : List AV) : Prop :=
  cells.size = cs.length ∧ (∀ i (hi : i < cs.length), Rep w S γ cs[i] (cells.getD i undef)) ∧ ∀ i, i < cells.size → (cells.getD i undef).oneCell' = true
def fillA (place : Nat → Option (Nat × Nat)) : List AV → List (Nat × AV) → Option (List AV)
  | cells, [] => some cells
  | cells, (i, v) :: r => match place i with
    | none => none
    | some (off, size) => match Nat.beq v.cells.length size && Nat.ble (off + size) cells.length with
      | true => fillA place (cells.take off ++ v.cells ++ cells.drop (off + size)) r
      | false => none

theorem splice_foldl (off : Nat) : ∀ (l : List Value) (n : Nat) (cells : Array Value), ((l.zipIdx n).foldl (fun cs p => cs.setIfInBounds (off + p.2) p.1) cells).size = cells.size ∧
    ∀ m, ((l.zipIdx n).foldl (fun cs p => cs.setIfInBounds (off + p.2) p.1) cells).getD m undef = if off + n ≤ m ∧ m < off + n + l.length ∧ m < cells.size then l.getD (m - (off + n)) undef else cells.getD m undef
  | [], n, cells => ⟨rfl, fun m => by rw [if_neg (by simp; omega)]; rfl⟩
  | v :: r, n, cells => by
    simp only [List.zipIdx_cons, List.foldl_cons]
    obtain ⟨h1, h2⟩ := splice_foldl off r (n + 1) (cells.setIfInBounds (off + n) v)
    refine ⟨by rw [h1]; simp, fun m => ?_⟩
    rw [h2 m]
    simp only [Array.size_setIfInBounds, List.length_cons]
    by_cases hm : m = off + n
    · subst hm
      rw [if_neg (by omega)]
      by_cases hb : off + n < cells.size
      · rw [if_pos (by omega)]
        simp [Array.getD_eq_getD_getElem?, hb]
      · rw [if_neg (by omega)]
        simp [Array.getD_eq_getD_getElem?, hb]
    · have hset : (cells.setIfInBounds (off + n) v).getD m undef = cells.getD m undef := by
        simp only [Array.getD_eq_getD_getElem?, Array.getElem?_setIfInBounds_ne (Ne.symm hm)]
      rw [hset]
      by_cases hc : off + (n + 1) ≤ m ∧ m < off + (n + 1) + r.length ∧ m < cells.size
      · rw [if_pos hc, if_pos (by omega)]
        rw [show m - (off + n) = (m - (off + (n + 1))) + 1 by omega]
        simp
      · rw [if_neg hc, if_neg (by omega)]

theorem fill_rel {w : World} {S : Nat → Prop} {γ : Gam} {place : Nat → Option (Nat × Nat)} {f : Operand → Value} {g : Operand → AV} : ∀ (ops : List (Nat × Operand)) (cells : Array Value) (cs cs' : List AV), (∀ p ∈ ops, CRel w S γ (f p.2).cells (g p.2).cells) → CRel w S γ cells cs →
    fillA place cs (ops.map fun p => (p.1, g p.2)) = some cs' → ∃ cells', Instr.fill place cells (ops.map fun p => (p.1, f p.2)) = some cells' ∧ CRel w S γ cells' cs'
  | [], cells, cs, cs', _, hr, h => by
    simp only [List.map_nil, fillA, Option.some.injEq] at h
    subst h
    exact ⟨cells, rfl, hr⟩
  | (i, x) :: r, cells, cs, cs', hp, hr, h => by
    simp only [List.map_cons, fillA] at h
    obtain ⟨q1, q2, q3⟩ := hp (i, x) (by simp)
    simp only at q1 q2 q3
    cases hpl : place i with
    | none => rw [hpl] at h; simp at h
    | some os =>
      obtain ⟨off, size⟩ := os
      rw [hpl] at h
      simp only at h
      split at h
      · rename_i hcond
        simp only [Bool.and_eq_true] at hcond
        have hc1 : (g x).cells.length = size := Nat.eq_of_beq_eq_true hcond.1
        have hc2 : off + size ≤ cs.length := Nat.le_of_ble_eq_true hcond.2
        simp only [List.map_cons, Instr.fill, hpl]
        have hns : ¬ (((f x).cells.size ≠ size || off + (f x).cells.size > cells.size) = true) := by
          have := hr.1
          simp only [Bool.or_eq_true, decide_eq_true_eq]
          simp only [q1] at *
          omega
        rw [if_neg hns]
        refine fill_rel r _ _ cs' (fun p hp' => hp p (by simp [hp'])) ?_ h
        have hfold : ((f x).cells.zipIdx.foldl (fun cs (p : Value × Nat) => cs.setIfInBounds (off + p.2) p.1) cells) = (((f x).cells.toList.zipIdx 0).foldl (fun cs p => cs.setIfInBounds (off + p.2) p.1) cells) := by
          rw [← Array.foldl_toList, Array.toList_zipIdx]
        have hfold' : ((f x).cells.zipIdx.foldl (fun cs x => match x with | (c, j) => cs.setIfInBounds (off + j) c) cells) = (((f x).cells.toList.zipIdx 0).foldl (fun cs p => cs.setIfInBounds (off + p.2) p.1) cells) := hfold
        obtain ⟨s1, s2⟩ := splice_foldl off (f x).cells.toList 0 cells
        have hcl : (cs.take off ++ (g x).cells ++ cs.drop (off + size)).length = cs.length := by simp; omega
        have hval : ∀ m, m < cs.length → (((f x).cells.toList.zipIdx 0).foldl (fun cs p => cs.setIfInBounds (off + p.2) p.1) cells).getD m undef = if off ≤ m ∧ m < off + size then (f x).cells.getD (m - off) undef else cells.getD m undef := fun m hm => by
          rw [s2 m]
          have hrs := hr.1
          have hls : (f x).cells.toList.length = size := by rw [Array.length_toList]; omega
          by_cases hc : off ≤ m ∧ m < off + size
          · rw [if_pos hc, if_pos (by omega)]
            simp [Array.getD_eq_getD_getElem?, List.getD_eq_getElem?_getD]
          · rw [if_neg hc, if_neg (by omega)]
        have hres : CRel w S γ (((f x).cells.toList.zipIdx 0).foldl (fun cs p => cs.setIfInBounds (off + p.2) p.1) cells) (cs.take off ++ (g x).cells ++ cs.drop (off + size)) := by
          refine ⟨by rw [s1, hcl]; exact hr.1, fun m hm => ?_, fun m hm => ?_⟩
          · rw [hcl] at hm
            rw [hval m hm]
            by_cases h1 : m < off
            · rw [if_neg (by omega), List.getElem_append_left (by simp; omega), List.getElem_append_left (by simp; omega), List.getElem_take]
              exact hr.2.1 m hm
            · by_cases h2 : m < off + size
              · rw [if_pos (by omega), List.getElem_append_left (by simp; omega), List.getElem_append_right (by simp; omega)]
                have hlen : (cs.take off).length = off := by simp; omega
                simp only [hlen]
                exact q2 (m - off) (by omega)
              · rw [if_neg (by omega), List.getElem_append_right (by simp; omega), List.getElem_drop]
                have hlen : off + size + (m - (cs.take off ++ (g x).cells).length) = m := by simp; omega
                simp only [hlen]
                exact hr.2.1 m hm
          · rw [s1] at hm
            rw [hval m (by have := hr.1; omega)]
            by_cases hc : off ≤ m ∧ m < off + size
            · rw [if_pos hc]; exact q3 (m - off) (by omega)
            · rw [if_neg hc]; exact hr.2.2 m hm
        rw [hfold']
        exact hres
      · cases h

theorem crel_zero (w : World) (S : Nat → Prop) (γ : Gam) (z : Value) (hz : z.cells.all (·.oneCell') = true) : CRel w S γ z.cells (z.cells.toList.map AV.ofV) := by
  refine ⟨by simp, fun j hj => ?_, fun j hj => ?_⟩
  · have hj' : j < z.cells.size := by simpa using hj
    have : z.cells.getD j undef = z.cells[j] := by simp [Array.getD, hj']
    simp only [List.getElem_map, Array.getElem_toList, this]
    exact rep_ofV _ _ _ _
  · have : z.cells.getD j undef = z.cells[j] := by simp [Array.getD, hj]
    rw [this]
    simp only [Array.all_eq_true] at hz
    exact hz j hj

section
variable {cx : Cx} {o : Oper} {σ : AS}
def partsA (σ : AS) (ps : Array (Nat × Operand)) : List (Nat × AV) := ps.toList.map fun p => (p.1, σ.eval p.2)
def partIds (l : List (Nat × AV)) : List Nat := l.flatMap fun p => p.2.ids
def partsOk (σ : AS) (ps : Array (Nat × Operand)) : Bool := ps.toList.all fun p => opdOk p.2 && okc σ (σ.eval p.2)

theorem parts_rel {γ : Gam} {τ : AS} {a : Act} {w : World} {ps : Array (Nat × Operand)} (hst : StG cx γ τ a w) (hok : partsOk σ ps = true) (h1 : ∀ p ∈ ps.toList, τ.eval p.2 = σ.eval p.2) (h2 : ∀ id ∈ partIds (partsA σ ps), τ.find id = σ.find id) :
    ∀ p ∈ ps.toList, CRel w (Sg cx.S0 cx.w0.heap.size γ) γ (a.eval p.2).cells (σ.eval p.2).cells := fun p hp => by
  simp only [partsOk, List.all_eq_true, Bool.and_eq_true] at hok
  obtain ⟨k1, k2⟩ := hok p hp
  have hev := hst.ev p.2 k1
  rw [h1 p hp] at hev
  exact cells_rep hst hev k2 (fun id hid => h2 id (List.mem_flatMap.2 ⟨(p.1, σ.eval p.2), List.mem_map.2 ⟨p, hp, rfl⟩, hid⟩))

theorem info_of_cells {P : Program} {e esz : Nat} (h : P.cellsOf e = esz) (hz : esz ≠ 0) : ∃ info, P.info? e = some info ∧ info.size = esz := by
  unfold Program.cellsOf at h
  cases hq : P.info? e with
  | none => rw [hq] at h; simp at h; exact absurd h.symm hz
  | some info => rw [hq] at h; simp at h; exact ⟨info, rfl, h⟩
theorem places_of {P : Program} (Fs : List Field) (h : ∀ f ∈ Fs, P.cellsOf f.type ≠ 0) : Fs.mapM (fun f => (P.info? f.type).map fun i => (f.offset, i.size)) = some (Fs.map fun f => (f.offset, P.cellsOf f.type)) := by
  induction Fs with
  | nil => rfl
  | cons f r ih =>
    obtain ⟨info, hi, hs⟩ := info_of_cells rfl (h f (by simp))
    rw [List.mapM_cons, ih (fun g hg => h g (by simp [hg]))]
    simp [hi, hs]

theorem r_build_strct {T : Nat} {ps : Array (Nat × Operand)} {i : TyI} {fs : List (Nat × Nat × Option Bool)} {cs : List AV} (ho : o.op = .build T ps) (hd : dok cx o = true) (hT : lkT cx.E.tab T = some i) (hs : i.shape = .strct fs) (hz : i.zero.cells.all (·.oneCell') = true) (hok : partsOk σ ps = true)
    (hfs : fs.all (fun f => !(Nat.beq f.2.1 0)) = true) (hf : fillA (fun j => (fs[j]?).map fun f => (f.1, f.2.1)) (i.zero.cells.toList.map AV.ofV) (partsA σ ps) = some cs) : OpRule cx o σ (.agg cs) (partIds (partsA σ ps)) [] :=
  rule_val hd fun τ γ a w h1 h2 hst => by
    have hrel := parts_rel hst hok (fun p hp => h1 p.2 (by simp only [ho, Op.operands, List.mem_toArray, List.mem_map]; exact ⟨p, hp, rfl⟩)) h2
    have hokT := cx.E.ok T i hT
    obtain ⟨Fs, hF, hfsE⟩ := und_strct hokT hs
    obtain ⟨cells', hfill, hc1, hc2, hc3⟩ := fill_rel (f := a.eval) (g := σ.eval) ps.toList i.zero.cells _ cs hrel (crel_zero w _ γ i.zero hz) hf
    have hpl : (fun j : Nat => (fs[j]?).map fun (f : Nat × Nat × Option Bool) => (f.1, f.2.1)) = fun j : Nat => (Fs.toList.map fun f => (f.offset, cx.P.cellsOf f.type))[j]? := by
      funext j
      rw [hfsE]
      simp [List.getElem?_map, Option.map_map]
      rfl
    rw [hpl] at hfill
    have hb : cx.P.built T ((ps.map fun p => (p.1, a.eval p.2)).toList) = some cells' := by
      obtain ⟨it, hit, hz'⟩ : ∃ it, cx.P.info? T = some it ∧ it.zero = some i.zero := by
        have := hokT.zero
        cases hq : cx.P.info? T with
        | none => rw [hq] at this; simp at this
        | some it => rw [hq] at this; exact ⟨it, rfl, by simpa using this⟩
      have hnz : ∀ f ∈ Fs.toList, cx.P.cellsOf f.type ≠ 0 := fun f hf => by
        simp only [hfsE, List.all_eq_true] at hfs
        have := hfs (f.offset, cx.P.cellsOf f.type, aggT cx.P f.type) (List.mem_map.2 ⟨f, hf, rfl⟩)
        intro e
        simp [e] at this
      unfold Program.built
      rw [hit, hF]
      simp only [hz', places_of Fs.toList hnz, Array.toList_map]
      simpa using hfill
    have hrun := run_build (P := cx.P) w T (ps.map fun p => (p.1, a.eval p.2)) cells' hb
    refine ⟨.agg cells', ?_, .agg cells' hc1 hc2 hc3⟩
    have e : (ps.map fun x => match x with | (i, x) => (i, a.eval x)) = ps.map fun p => (p.1, a.eval p.2) := rfl
    simp only [execOp, ho, e, Sem.run_bind, Sem.run_pure, Result.andThen_ok, hrun]
theorem und_arr {P : Program} {T : TypeId} {i : TyI} {n e esz : Nat} {ag : Option Bool} (h : TyOk P T i) (hs : i.shape = .arr n e esz ag) : P.underlying T = some (.array n e) ∧ P.cellsOf e = esz ∧ aggT P e = ag := by
  obtain ⟨d, hd, he⟩ := h.und
  rw [hs] at he
  cases d <;> simp only [shapeOf, Shape.arr.injEq, reduceCtorEq] at he
  obtain ⟨rfl, rfl, h2, h3⟩ := he
  exact ⟨hd, h2, h3⟩
theorem r_build_arr {T n e esz : Nat} {ag : Option Bool} {ps : Array (Nat × Operand)} {i : TyI} {cs : List AV} (ho : o.op = .build T ps) (hd : dok cx o = true) (hT : lkT cx.E.tab T = some i) (hs : i.shape = .arr n e esz ag) (hz : i.zero.cells.all (·.oneCell') = true) (hok : partsOk σ ps = true) (hesz : esz ≠ 0)
    (hf : fillA (fun j => some (j * esz, esz)) (i.zero.cells.toList.map AV.ofV) (partsA σ ps) = some cs) : OpRule cx o σ (.agg cs) (partIds (partsA σ ps)) [] :=
  rule_val hd fun τ γ a w h1 h2 hst => by
    have hrel := parts_rel hst hok (fun p hp => h1 p.2 (by simp only [ho, Op.operands, List.mem_toArray, List.mem_map]; exact ⟨p, hp, rfl⟩)) h2
    have hokT := cx.E.ok T i hT
    obtain ⟨hu, hce, _⟩ := und_arr hokT hs
    obtain ⟨cells', hfill, hc1, hc2, hc3⟩ := fill_rel (f := a.eval) (g := σ.eval) ps.toList i.zero.cells _ cs hrel (crel_zero w _ γ i.zero hz) hf
    have hb : cx.P.built T ((ps.map fun p => (p.1, a.eval p.2)).toList) = some cells' := by
      obtain ⟨it, hit, hz'⟩ : ∃ it, cx.P.info? T = some it ∧ it.zero = some i.zero := by
        have := hokT.zero
        cases hq : cx.P.info? T with
        | none => rw [hq] at this; simp at this
        | some it => rw [hq] at this; exact ⟨it, rfl, by simpa using this⟩
      obtain ⟨ie, hie, hie2⟩ := info_of_cells hce hesz
      unfold Program.built
      rw [hit, hu]
      simp only [hz', hie, hie2, Array.toList_map]
      exact hfill
    have hrun := run_build (P := cx.P) w T (ps.map fun p => (p.1, a.eval p.2)) cells' hb
    refine ⟨.agg cells', ?_, .agg cells' hc1 hc2 hc3⟩
    have e : (ps.map fun x => match x with | (i, x) => (i, a.eval x)) = ps.map fun p => (p.1, a.eval p.2) := rfl
    simp only [execOp, ho, e, Sem.run_bind, Sem.run_pure, Result.andThen_ok, hrun]
end
end Go.Proofs.Ytkbopbgcjfcjjaa
namespace Go.Proofs.Ytkbopbgcjfcjjaa
open Go.RowKit

theorem cells_closed {x : AV} (h : x.closed = true) (j : Nat) (hj : j < x.cells.length) : (x.cells[j]).closed = true := by
  have single : x.cells = [x] → (x.cells[j]).closed = true := fun hc => by
    have h2 : ∀ y ∈ x.cells, y.closed = true := fun y hy => by
      rw [hc, List.mem_singleton] at hy
      rw [hy]; exact h
    exact h2 _ (List.getElem_mem hj)
  cases x with
  | agg cs => simp only [AV.closed] at h; exact AV.closedL_at h j hj
  | _ => exact single rfl
theorem flat_at {xs : List AV} {sz : Nat} (h : ∀ k (hk : k < xs.length), (xs[k]).cells.length = sz) : (xs.flatMap AV.cells).length = xs.length * sz ∧ ∀ k (hk : k < xs.length) j (hj : j < (xs[k]).cells.length), (xs.flatMap AV.cells)[k * sz + j]? = some ((xs[k]).cells[j]) := by
  induction xs with
  | nil => exact ⟨by simp, fun k hk => absurd hk (by simp)⟩
  | cons x r ih =>
    have hx := h 0 (by simp)
    simp only [List.getElem_cons_zero] at hx
    obtain ⟨i1, i2⟩ := ih (fun k hk => by have := h (k + 1) (by simpa using hk); simpa using this)
    refine ⟨by rw [List.flatMap_cons, List.length_append, hx, i1, List.length_cons, Nat.succ_mul]; omega, fun k hk j hj => ?_⟩
    rw [List.flatMap_cons]
    cases k with
    | zero =>
      simp only [List.getElem_cons_zero] at hj ⊢
      rw [Nat.zero_mul, Nat.zero_add, List.getElem?_append_left hj, List.getElem?_eq_getElem hj]
    | succ k =>
      simp only [List.getElem_cons_succ] at hj ⊢
      rw [List.getElem?_append_right (by rw [hx, Nat.succ_mul]; omega), hx, show (k + 1) * sz + j - sz = k * sz + j by rw [Nat.succ_mul]; omega]
      exact i2 k (by simpa using hk) j hj
section
variable {cx : Cx} {o : Oper} {σ : AS}

theorem mod_cell {z : Array Value} (hz : z.all (·.oneCell') = true) (h0 : 0 < z.size) (x : Nat) : (z[x % z.size]!).oneCell' = true := by
  have hlt := Nat.mod_lt x h0
  rw [getElem!_pos z _ hlt]
  simp only [Array.all_eq_true] at hz
  exact hz _ hlt

theorem run_buildSlice {P : Program} {T : Nat} {i ie : TyI} {e esz eb n : Nat} {parts : Array (Nat × Value)} {cells' : Array Value} (hT : TyOk P T i) (hs : i.shape = .slc e esz eb) (he : TyOk P e ie) (hz : esz ≠ 0) (hn : n * esz ≤ 16777216)
    (hf : Instr.fill (fun j => some (j * esz, esz)) ((Array.range (n * esz)).map (ie.zero.cells[· % ie.zero.cells.size]!)) parts.toList = some cells') (w : World) : (Instr.buildSlice T n parts).run P w = .ok (.slice (some ⟨w.heap.size, 0, none⟩) n n) (w.alloc (.cells cells' e)) := by
  obtain ⟨hu, hce, _⟩ := und_slc hT hs
  have hsz := size_of_cells hce hz w
  have hzr := he.zeroV w
  by_cases h0 : n * esz = 0
  · have hn0 : n = 0 := (Nat.mul_eq_zero.1 h0).resolve_right hz
    subst hn0
    have e1 : ((Array.range (0 * esz)).map (ie.zero.cells[· % ie.zero.cells.size]!)) = #[] := by simp
    rw [e1] at hf
    unfold Instr.buildSlice
    simp only [Sem.run_bind, run_underlying hu, Result.andThen_ok, hsz]
    rw [if_neg (by omega)]
    simp only [Nat.zero_mul, if_true, Sem.run_bind, Sem.run_pure, Result.andThen_ok]
    have e2 : ((Array.range 0).map fun x => (#[] : Array Value)[x % (#[] : Array Value).size]!) = #[] := by simp
    rw [e2, hf]
    simp [run_newRow, pure]
  · unfold Instr.buildSlice
    simp only [Sem.run_bind, run_underlying hu, Result.andThen_ok, hsz]
    rw [if_neg (by omega), if_neg h0]
    simp only [Sem.run_bind, hzr, Sem.run_pure, Result.andThen_ok]
    rw [hf]
    simp [run_newRow, pure]

theorem r_buildSlice {T n : Nat} {ps : Array (Nat × Operand)} {i ie : TyI} {e esz eb : Nat} {xs : List AV} (ho : o.op = .buildSlice T n ps) (hd : dok cx o = true) (hT : lkT cx.E.tab T = some i) (hs : i.shape = .slc e esz eb) (he : lkT cx.E.tab e = some ie) (hz : esz ≠ 0) (hn : Nat.ble (n * esz) 16777216 = true)
    (hze : ie.zero.cells.all (·.oneCell') = true) (hz0 : Nat.blt 0 ie.zero.cells.size = true) (hok : partsOk σ ps = true) (hcl : AV.closedL xs = true) (hlen : xs.length = n) (hl : xs.all (fun x => Nat.beq x.cells.length esz) = true)
    (hf : fillA (fun j => some (j * esz, esz)) (List.replicate (n * esz) .any) (partsA σ ps) = some (xs.flatMap AV.cells)) : OpRule cx o σ (.sl esz xs) (partIds (partsA σ ps)) [] :=
  rule_grow hd fun τ γ a w h1 h2 hst => by
    have hrel := parts_rel hst hok (fun p hp => h1 p.2 (by simp only [ho, Op.operands, List.mem_toArray, List.mem_map]; exact ⟨p, hp, rfl⟩)) h2
    have hcell : ∀ j, (ie.zero.cells[j % ie.zero.cells.size]!).oneCell' = true := mod_cell hze (by simpa using hz0)
    have h0rel : CRel w (Sg cx.S0 cx.w0.heap.size γ) γ ((Array.range (n * esz)).map (ie.zero.cells[· % ie.zero.cells.size]!)) (List.replicate (n * esz) .any) := by
      refine ⟨by simp, fun j hj => by simp only [List.getElem_replicate]; exact .any _, fun j hj => ?_⟩
      have hj' : j < n * esz := by simpa using hj
      have : ((Array.range (n * esz)).map (ie.zero.cells[· % ie.zero.cells.size]!)).getD j undef = ie.zero.cells[j % ie.zero.cells.size]! := by
        rw [Array.getD_eq_getD_getElem?, Array.getElem?_map, Array.getElem?_range, if_pos hj']; rfl
      rw [this]
      exact hcell j
    obtain ⟨cells', hfill, hc1, hc2, hc3⟩ := fill_rel (f := a.eval) (g := σ.eval) ps.toList _ _ _ hrel h0rel hf
    have hrun := run_buildSlice (parts := ps.map fun p => (p.1, a.eval p.2)) (cx.E.ok T i hT) hs (cx.E.ok e ie he) hz (Nat.le_of_ble_eq_true hn) (by rw [Array.toList_map]; exact hfill) w
    have hbl : Below w.heap.size w (w.alloc (.cells cells' e)) := (Below.refl _ _).alloc (Nat.le_refl _) _
    have hblk : Blk (w.alloc (.cells cells' e)) w.heap.size e cells' := Blk.new w _ _
    have hlen' : ∀ k (hk : k < xs.length), (xs[k]).cells.length = esz := fun k hk => by
      simp only [List.all_eq_true] at hl
      exact Nat.eq_of_beq_eq_true (hl _ (List.getElem_mem hk))
    obtain ⟨g1, g2⟩ := flat_at hlen'
    have hin : ∀ k j, k < xs.length → j < esz → k * esz + j < xs.length * esz := fun k j hk hj => by
      have : (k + 1) * esz ≤ xs.length * esz := Nat.mul_le_mul_right _ hk
      rw [Nat.succ_mul] at this
      omega
    have hsz := hst.below.size
    refine ⟨.slice (some ⟨w.heap.size, 0, none⟩) n n, w.alloc (.cells cells' e), ?_, hbl, fun _ => Nat.le_refl _, ?_⟩
    · have e' : (ps.map fun x => match x with | (i, x) => (i, a.eval x)) = ps.map fun p => (p.1, a.eval p.2) := rfl
      simp only [execOp, ho, e', Sem.run_bind, Sem.run_pure, Result.andThen_ok, hrun]
    · subst hlen
      refine .sl (some ⟨w.heap.size, 0, none⟩) xs.length (fun k j => if k < xs.length ∧ j < esz then cells'.getD (k * esz + j) undef else .bool true) (Nat.le_refl _) hlen' (fun _ => ⟨w.heap.size, 0, rfl, Or.inr ⟨⟨hsz, fun h0 => by have := hst.gh _ h0; omega⟩, fun hown => by have := (hst.ge _ hown).2; omega⟩, by simp, fun k j hk hj => ?_⟩) (fun k hk j hj => ?_) (fun k j => ?_)
      · rw [if_pos ⟨hk, hj⟩, Nat.zero_add]
        exact blk_cells hblk _ (by rw [hc1, g1]; exact hin k j hk hj)
      · have hj' : j < esz := by rw [← hlen' k hk]; exact hj
        rw [if_pos ⟨hk, hj'⟩]
        have hlt : k * esz + j < (xs.flatMap AV.cells).length := by rw [g1]; exact hin k j hk hj'
        have := hc2 (k * esz + j) hlt
        have hq := g2 k hk j hj
        rw [List.getElem?_eq_getElem hlt] at hq
        injection hq with hq
        rw [hq] at this
        refine (this.mono hbl.size (fun b hS hlt => ⟨hbl.block b hlt, hS⟩)).close ?_
        exact cells_closed (AV.closedL_at hcl k hk) j hj
      · by_cases h : k < xs.length ∧ j < esz
        · rw [if_pos h]
          exact hc3 _ (by rw [hc1, g1]; exact hin k j h.1 h.2)
        · rw [if_neg h]; rfl

def bndA (σ : AS) (d : Nat) : Option Operand → Option Int
  | none => some d
  | some y => match σ.eval y with | .int _ n => some n | _ => none
def opdO : Option Operand → Bool
  | none => true
  | some y => opdOk y
theorem run_bound {P : Program} {w : World} (k : IntKind) (m y : Nat) (c : BoundsCode) (h : m ≤ y) : (Instr.sliceBound (.int k (m : Int)) y c).run P w = .ok m w := by
  have : (0 : Int) ≤ m ∧ (m : Int) ≤ y := by omega
  simp [Instr.sliceBound, asIntOf, this.1, this.2, pure, h]
theorem r_slice_sl {T sz l h : Nat} {x : Operand} {lo hi : Option Operand} {i : TyI} {e esz eb : Nat} {xs : List AV} (ho : o.op = .slice T x lo hi none) (hd : dok cx o = true) (hxo : opdOk x = true) (hlo : opdO lo = true) (hhi : opdO hi = true) (hx : σ.eval x = .sl sz xs) (hT : lkT cx.E.tab T = some i) (hs : i.shape = .slc e sz eb) (hz : sz ≠ 0)
    (h1 : bndA σ 0 lo = some (l : Int)) (h2 : bndA σ xs.length hi = some (h : Int)) (hlh : l ≤ h) (hh : h ≤ xs.length) : OpRule cx o σ (.sl sz ((xs.take h).drop l)) [] [] :=
  rule_val hd fun τ γ a w hh1 hh2 hst => by
    have hev := hst.ev x hxo
    rw [hh1 x (by simp [ho, Op.operands]), hx] at hev
    obtain ⟨A, c, ex, hc, hlen, cell, hb, hr, h1c⟩ := hev.sl_inv
    obtain ⟨hu, hce, _⟩ := und_slc (cx.E.ok T i hT) hs
    have hsz := size_of_cells hce hz w
    have hbh : ∃ hv : Option Value, hi.map a.eval = hv ∧ (match hv with | some v => Instr.sliceBound v c .sliceAcap | none => pure xs.length : Sem Nat).run cx.P w = .ok h w := by
      refine ⟨_, rfl, ?_⟩
      cases hi with
      | none => simp only [bndA, Option.some.injEq] at h2; have : xs.length = h := by omega
                simp [this]
      | some y =>
        have he := hst.ev y hhi
        rw [hh1 y (by simp [ho, Op.operands])] at he
        simp only [bndA] at h2
        cases hy : σ.eval y with
        | int k n =>
          rw [hy] at he h2
          simp only [Option.some.injEq] at h2
          subst h2
          simp only [Option.map_some, he.int_inv]
          exact run_bound k h c _ (by omega)
        | _ => rw [hy] at h2; simp at h2
    have hbl : (match lo.map a.eval with | some v => Instr.sliceBound v h .sliceB | none => pure 0 : Sem Nat).run cx.P w = .ok l w := by
      cases lo with
      | none => simp only [bndA, Option.some.injEq] at h1; have : l = 0 := by omega
                simp [this]
      | some y =>
        have he := hst.ev y hlo
        rw [hh1 y (by simp [ho, Op.operands])] at he
        simp only [bndA] at h1
        cases hy : σ.eval y with
        | int k n =>
          rw [hy] at he h1
          simp only [Option.some.injEq] at h1
          subst h1
          simp only [Option.map_some, he.int_inv]
          exact run_bound k l h _ hlh
        | _ => rw [hy] at h1; simp at h1
    obtain ⟨hv, hhv, hrun⟩ := hbh
    have hB : (Instr.sliceBounds true xs.length c (lo.map a.eval) (hi.map a.eval) none).run cx.P w = .ok (l, h, c) w := by
      rw [hhv]
      unfold Instr.sliceBounds
      cases hv with
      | none =>
        simp only [Sem.run_bind, Sem.run_pure, Result.andThen_ok] at hrun ⊢
        have : xs.length = h := by simpa using hrun
        subst this
        cases hlo' : lo.map a.eval with
        | none => rw [hlo'] at hbl; simp only [Sem.run_pure, Result.ok.injEq, and_true] at hbl ⊢; simp [hbl]
        | some v => rw [hlo'] at hbl; simp only [Option.isSome_none, Bool.false_eq_true, if_false, Sem.run_bind, Sem.run_pure, hbl, Result.andThen_ok]
      | some v =>
        simp only [if_true, Sem.run_bind, Sem.run_pure, Result.andThen_ok, hrun] at hrun ⊢
        cases hlo' : lo.map a.eval with
        | none => rw [hlo'] at hbl; simp only [Sem.run_pure, Result.ok.injEq, and_true] at hbl ⊢; simp [hbl]
        | some v => rw [hlo'] at hbl; simp only [Option.isSome_none, Bool.false_eq_true, if_false, Sem.run_bind, Sem.run_pure, hbl, Result.andThen_ok]
    have hlen' : ((xs.take h).drop l).length = h - l := by simp; omega
    refine ⟨.slice (if c = l then A else A.map (·.add (l * sz))) (h - l) (c - l), ?_, ?_⟩
    · simp only [execOp, ho, ex, Instr.sliceAt, Instr.slice, Sem.run_bind, Sem.run_pure, Result.andThen_ok, run_underlying hu, hB, hsz, Option.map_none]
    · rw [← hlen']
      refine .sl _ _ (fun k j => cell (l + k) j) (by omega) (fun k hk => ?_) (fun h0 => ?_) (fun k hk j hj => ?_) (fun k j => h1c _ _)
      · have hk' : l + k < xs.length := by omega
        simp only [List.getElem_drop, List.getElem_take]
        exact hlen _ hk'
      · obtain ⟨b, off, rfl, hS, hlt, hcell⟩ := hb (by omega)
        refine ⟨b, off + l * sz, ?_, hS, hlt, fun k j hk hj => ?_⟩
        · rw [if_neg (by omega)]
          simp [Addr.add_lit]
        · have := hcell (l + k) j (by omega) hj
          rw [show off + l * sz + (k * sz + j) = off + ((l + k) * sz + j) by rw [Nat.add_mul]; omega]
          exact this
      · have hk' : l + k < xs.length := by omega
        simp only [List.getElem_drop, List.getElem_take] at hj ⊢
        exact hr (l + k) hk' j hj
theorem r_slice_str {T l h : Nat} {x : Operand} {lo hi : Option Operand} {i : TyI} {s : ByteArray} (ho : o.op = .slice T x lo hi none) (hd : dok cx o = true) (hxo : opdOk x = true) (hlo : opdO lo = true) (hhi : opdO hi = true) (hx : σ.eval x = .str s) (hT : lkT cx.E.tab T = some i) (hs : i.shape = .str)
    (h1 : bndA σ 0 lo = some (l : Int)) (h2 : bndA σ s.size hi = some (h : Int)) (hlh : l ≤ h) (hh : h ≤ s.size) : OpRule cx o σ (.str (s.extract l h)) [] [] :=
  rule_val hd fun τ γ a w hh1 hh2 hst => by
    have hev := hst.ev x hxo
    rw [hh1 x (by simp [ho, Op.operands]), hx] at hev
    obtain ⟨d, hdu, he⟩ := (cx.E.ok T i hT).und
    rw [hs] at he
    cases d <;> simp only [shapeOf, reduceCtorEq] at he
    have hrun : ∃ hv : Option Value, hi.map a.eval = hv ∧ (match hv with | some v => Instr.sliceBound v s.size .sliceAlen | none => pure s.size : Sem Nat).run cx.P w = .ok h w := by
      refine ⟨_, rfl, ?_⟩
      cases hi with
      | none => simp only [bndA, Option.some.injEq] at h2; have : s.size = h := by omega
                simp [this]
      | some y =>
        have he := hst.ev y hhi
        rw [hh1 y (by simp [ho, Op.operands])] at he
        simp only [bndA] at h2
        cases hy : σ.eval y with
        | int k n =>
          rw [hy] at he h2
          simp only [Option.some.injEq] at h2
          subst h2
          simp only [Option.map_some, he.int_inv]
          exact run_bound k h _ _ (by omega)
        | _ => rw [hy] at h2; simp at h2
    have hbl : (match lo.map a.eval with | some v => Instr.sliceBound v h .sliceB | none => pure 0 : Sem Nat).run cx.P w = .ok l w := by
      cases lo with
      | none => simp only [bndA, Option.some.injEq] at h1; have : l = 0 := by omega
                simp [this]
      | some y =>
        have he := hst.ev y hlo
        rw [hh1 y (by simp [ho, Op.operands])] at he
        simp only [bndA] at h1
        cases hy : σ.eval y with
        | int k n =>
          rw [hy] at he h1
          simp only [Option.some.injEq] at h1
          subst h1
          simp only [Option.map_some, he.int_inv]
          exact run_bound k l h _ hlh
        | _ => rw [hy] at h1; simp at h1
    obtain ⟨hv, hhv, hrun⟩ := hrun
    have hB : (Instr.sliceBounds false s.size s.size (lo.map a.eval) (hi.map a.eval) none).run cx.P w = .ok (l, h, s.size) w := by
      rw [hhv]
      unfold Instr.sliceBounds
      cases hv with
      | none =>
        simp only [Sem.run_bind, Sem.run_pure, Result.andThen_ok] at hrun ⊢
        have : s.size = h := by simpa using hrun
        subst this
        cases hlo' : lo.map a.eval with
        | none => rw [hlo'] at hbl; simp only [Sem.run_pure, Result.ok.injEq, and_true] at hbl ⊢; simp [hbl]
        | some v => rw [hlo'] at hbl; simp only [Option.isSome_none, Bool.false_eq_true, if_false, Sem.run_bind, Sem.run_pure, hbl, Result.andThen_ok]
      | some v =>
        simp only [Bool.false_eq_true, if_false, Sem.run_bind, Sem.run_pure, Result.andThen_ok, hrun] at hrun ⊢
        cases hlo' : lo.map a.eval with
        | none => rw [hlo'] at hbl; simp only [Sem.run_pure, Result.ok.injEq, and_true] at hbl ⊢; simp [hbl]
        | some v => rw [hlo'] at hbl; simp only [Option.isSome_none, Bool.false_eq_true, if_false, Sem.run_bind, Sem.run_pure, hbl, Result.andThen_ok]
    refine ⟨.string (s.extract l h), ?_, .str _⟩
    simp only [execOp, ho, hev.str_inv, Instr.sliceAt, Instr.slice, Sem.run_bind, Sem.run_pure, Result.andThen_ok, run_underlying hdu, hB, Option.map_none, Option.isSome_none, Bool.false_eq_true, if_false]

theorem und_int {P : Program} {T : Nat} {i : TyI} {k : IntKind} (h : TyOk P T i) (hs : i.shape = .int k) : P.underlying T = some (.int k) := by
  obtain ⟨d, hd, he⟩ := h.und
  rw [hs] at he
  cases d <;> simp only [shapeOf, reduceCtorEq, Shape.int.injEq] at he
  subst he
  exact hd
theorem r_convert {T T' : Nat} {x : Operand} {i j : TyI} {k k' : IntKind} {n : Int} (ho : o.op = .convert T T' x) (hd : dok cx o = true) (hxo : opdOk x = true) (hx : σ.eval x = .int k n) (hT : lkT cx.E.tab T = some i) (hT' : lkT cx.E.tab T' = some j) (hs : j.shape = .int k') : OpRule cx o σ (.int k' (k'.wrap n)) [] [] :=
  rule_val hd fun τ γ a w h1 h2 hst => by
    have hev := hst.ev x hxo
    rw [h1 x (by simp [ho, Op.operands]), hx] at hev
    obtain ⟨d, hdd, _⟩ := (cx.E.ok T i hT).und
    have hu := und_int (cx.E.ok T' j hT') hs
    refine ⟨.int k' (k'.wrap n), ?_, .int _ _⟩
    simp only [execOp, ho, hev.int_inv, convert, Sem.run_bind, Sem.run_pure, Result.andThen_ok, run_underlying hdd, run_underlying hu, Conv.intToInt]

theorem r_makeFunc {f : FuncId} {ps : Array Operand} {cs : List AV} (ho : o.op = .makeFunc (.func f) #[] ps) (hd : dok cx o = true) (hok : ps.toList.all opdOk = true) (hc : ps.toList.map σ.eval = cs) : OpRule cx o σ (.fn f cs) [] [] :=
  rule_val hd fun τ γ a w h1 h2 hst => by
    subst hc
    refine ⟨.func (.func f) #[] (ps.map a.eval), by simp [execOp, ho, Instr.makeFunc, pure], .fn _ (by simp) (fun i hi => ?_)⟩
    have hi' : i < ps.size := by simpa using hi
    have e : (ps.map a.eval).getD i undef = a.eval ps[i] := by simp [Array.getD, hi']
    rw [e]
    simp only [List.all_eq_true] at hok
    have hev := hst.ev ps[i] (hok _ (by simp))
    rw [h1 ps[i] (by simp [ho, Op.operands])] at hev
    simpa using hev
end
end Go.Proofs.Ytkbopbgcjfcjjaa
