/- Maps: the walk's rules. -/
import Derived.Test.YtdbapaofibgfcaaMapE
import Derived.Carry
set_option linter.unusedVariables false
set_option linter.unusedSimpArgs false
namespace Go.Proofs.Ytdbapaofibgfcaa
open Go.RowKit

theorem flatFs_flat {P : Program} {fs : List Field} : ∀ {cs : List AV} {k : Nat}, flatFs P k cs fs = true → AV.flatL cs = true := by
  induction fs with
  | nil => intro cs k h; cases cs with
    | nil => rfl
    | cons => simp [flatFs] at h
  | cons f fs ih =>
    intro cs k h
    cases cs with
    | nil => rfl
    | cons a cs =>
      simp only [flatFs, Bool.and_eq_true] at h
      have h1 := h.2.2.1
      simp only [AV.flatL, Bool.and_eq_true]
      refine ⟨?_, ih h.2.2.2⟩
      cases a <;> first | rfl | simp [fkA, fkT] at h1
theorem keyFl_flat {P : Program} {t : TypeId} {k : AV} (h : keyFl P t k = true) : k.flat = true := by
  cases k with
  | agg cs =>
    obtain ⟨fs, _, hf⟩ := keyFl_agg h
    exact flatFs_flat hf
  | int => rfl
  | bool => rfl
  | str => rfl
  | _ => simp [keyFl, fkA, fkT] at h
theorem und_map {P : Program} {T : TypeId} {i : TyI} {k e : Nat} (h : TyOk P T i) (hs : i.shape = .map k e) : P.underlying T = some (.map k e) := by
  obtain ⟨d, hd, he⟩ := h.und
  rw [hs] at he
  cases d <;> simp only [shapeOf, reduceCtorEq, Shape.map.injEq] at he
  obtain ⟨rfl, rfl⟩ := he
  exact hd
section
variable {cx : Cx} {o : Oper} {σ : AS}
theorem lkE_one {d id : Nat} {e e' : Ent} (he : lkE [(d, e)] id = some e') : id ∈ [d] := by
  simp only [lkE] at he
  cases hb : Nat.beq d id with
  | true => simp [Nat.eq_of_beq_eq_true hb]
  | false => rw [hb] at he; cases he
theorem r_makeMap {T d : Nat} (ho : o.op = .makeMap T none) (hdst : o.dst = some d) (hd : dok cx o = true) (hn : σ.find d = none) : OpRule cx o σ (.row d) [d] [(d, .mp [])] := by
  refine ⟨fun id e he => lkE_one he, fun τ h1 h2 a w Q K ⟨γ, hst⟩ hK => ?_⟩
  have hrun : (execOp a.eval o).run cx.P w = .ok (.value (.map (some w.heap.size))) (w.alloc (.map #[] 0)) := by
    simp only [execOp, ho, Option.map_none, Sem.run_bind, run_makeMap, Result.andThen_ok, Sem.run_pure]
  unfold Oper.wp
  rw [hrun]
  refine hK _ _ ⟨_, hst.name (id := d) (g := w.heap.size) (s := .map (some w.heap.size)) (e := .mp []) (dok_iff hd) (by rw [h2 d (by simp)]; exact hn) ((Below.refl _ _).alloc (Nat.le_refl _) _) (Nat.le_refl _) (by simp) ?_ ?_⟩
  · exact ⟨w.heap.size, rfl, #[], 0, (MapKept.heap_alloc w _).1, rfl, fun j h => absurd h (by simp)⟩
  · exact .row (Gam.set_self _ _ _) (fun g s e => by injection e with e; injection e with _ e)
theorem mp_val {γ : Gam} {τ : AS} {a : Act} {w : World} {id : Nat} {ps : List (AV × AV)} {v : Value} (hst : StG cx γ τ a w) (hl : τ.find id = some (.mp ps)) (hv : Rep w (Sg cx.S0 cx.w0.heap.size γ) γ (.row id) v) :
    ∃ g, γ id = some (some (some g, .map (some g))) ∧ v = .map (some g) ∧ MapIs w (Sg cx.S0 cx.w0.heap.size γ) g ps := by
  have hme := hst.me id
  rw [hl] at hme
  obtain ⟨d, hd', g, hde, hm⟩ := hme
  subst hde
  exact ⟨g, hd', hv.row_inv hd', hm⟩
def lkVal (z : AV) (ps : List (AV × AV)) : Option Nat → AV
  | some j => (ps.getD j default).2
  | none => z
def lkRes (av : AV) (b : Bool) : Bool → AV
  | true => .tup [av, .bool b]
  | false => av
theorem r_lookup {T kt et id : Nat} {x y : Operand} {ok : Bool} {i ie : TyI} {k av : AV} {ps : List (AV × AV)} {r : Option Nat} (ho : o.op = .lookup T x y ok) (hd : dok cx o = true) (hxo : opdOk x = true) (hyo : opdOk y = true) (hx : σ.eval x = .row id) (hy : σ.eval y = k) (hl : σ.find id = some (.mp ps))
    (hT : lkT cx.E.tab T = some i) (hs : i.shape = .map kt et) (he : lkT cx.E.tab et = some ie) (hzo : aggOk ie.zero = true) (hk : keyFl cx.P kt k = true) (hf : findK k (ps.map (·.1)) 0 = some r)
    (hav : Sub (lkVal (constV ie.zero) ps r) av) : OpRule cx o σ (lkRes av r.isSome ok) [id] [] :=
  rule_val hd fun τ γ a w h1 h2 hst => by
    have ex := hst.ev x hxo
    rw [h1 x (by simp [ho, Op.operands]), hx] at ex
    have ey := hst.ev y hyo
    rw [h1 y (by simp [ho, Op.operands]), hy] at ey
    obtain ⟨g, hg, hv, hm⟩ := mp_val hst (by rw [h2 id (by simp)]; exact hl) ex
    obtain ⟨v, hv1, hv2⟩ := lookup_run (S := Sg cx.S0 cx.w0.heap.size γ) (zA := constV ie.zero) ok (und_map (cx.E.ok T i hT) hs) hk (ey.flat (keyFl_flat hk)) hm ((cx.E.ok et ie he).zeroV w) (rep_const _ _ _ _ hzo) hf
    have hv1 : Rep w (Sg cx.S0 cx.w0.heap.size γ) G0 (lkVal (constV ie.zero) ps r) v := by cases r <;> exact hv1
    have hv1 := (hv1.open_ (γ' := γ)).sub hav
    refine ⟨(if ok then .tuple #[v, .bool r.isSome] else v), by simp only [execOp, ho, hv, Sem.run_bind, hv2, Result.andThen_ok, Sem.run_pure], ?_⟩
    cases ok with
    | false => exact hv1
    | true =>
      simp only [lkRes, if_true]
      refine .tup #[v, .bool r.isSome] rfl (fun j hj => ?_)
      have hj : j < 2 := hj
      rcases j with _ | _ | j
      · exact hv1
      · exact .bool _
      · omega
theorem r_mapUpdate {T kt et id : Nat} {x y z : Operand} {i : TyI} {k xv : AV} {ps ps' : List (AV × AV)} {r : Option Nat} (ho : o.op = .mapUpdate T x y z ∨ o.op = .insert T x y z) (hd : dok cx o = true) (hxo : opdOk x = true) (hyo : opdOk y = true) (hzo : opdOk z = true) (hx : σ.eval x = .row id) (hy : σ.eval y = k) (hz : σ.eval z = xv) (hl : σ.find id = some (.mp ps))
    (hT : lkT cx.E.tab T = some i) (hs : i.shape = .map kt et) (hk : keyFl cx.P kt k = true) (hcl : xv.closed = true) (hf : findK k (ps.map (·.1)) 0 = some r) (hps : SubM (putK r k xv ps) ps') : OpRule cx o σ (.tup []) [id] [(id, .mp ps')] := by
  refine ⟨fun id e he => lkE_one he, fun τ h1 h2 a w Q K ⟨γ, hst⟩ hK => ?_⟩
  have hmem : x ∈ o.op.operands ∧ y ∈ o.op.operands ∧ z ∈ o.op.operands := by rcases ho with ho | ho <;> simp [ho, Op.operands]
  have ex := hst.ev x hxo
  rw [h1 x hmem.1, hx] at ex
  have ey := hst.ev y hyo
  rw [h1 y hmem.2.1, hy] at ey
  have ez := hst.ev z hzo
  rw [h1 z hmem.2.2, hz] at ez
  obtain ⟨g, hg, hv, hm⟩ := mp_val hst (by rw [h2 id (by simp)]; exact hl) ex
  have hgo : own γ g := ⟨id, _, hg⟩
  have hgl := hst.ge g hgo
  have hns : ∀ b, Sg cx.S0 cx.w0.heap.size γ b → b ≠ g := fun b hS e => by
    subst e
    rcases hS with ⟨_, h⟩ | ⟨_, h⟩
    · have := hgl.1.1; omega
    · exact h hgo
  obtain ⟨ob, hrun, hm'⟩ := update_run (und_map (cx.E.ok T i hT) hs) hk (ey.flat (keyFl_flat hk)) (ez.close hcl) hm hf (fun hS => hns g hS rfl)
  have hex : (execOp a.eval o).run cx.P w = .ok .skip { w with heap := w.heap.setIfInBounds g ob } := by
    rcases ho with ho | ho <;> simp only [execOp, ho, hv, Sem.run_bind, hrun, Result.andThen_ok, Sem.run_pure]
  unfold Oper.wp
  rw [hex]
  have hoth : ∀ k, k ≠ g → ({ w with heap := w.heap.setIfInBounds g ob } : World).heap[k]? = w.heap[k]? := fun k hk => by simp [Array.getElem?_setIfInBounds, Ne.symm hk]
  have hz' : w.heap.size ≤ ({ w with heap := w.heap.setIfInBounds g ob } : World).heap.size := by simp
  have hdr : w.drawn ≤ ({ w with heap := w.heap.setIfInBounds g ob } : World).drawn := Nat.le_refl _
  have hbel : Below cx.w0.heap.size w ({ w with heap := w.heap.setIfInBounds g ob } : World) := ⟨rfl, rfl, rfl, hz', fun k hk => hoth k (by have := hgl.1.1; omega)⟩
  generalize ({ w with heap := w.heap.setIfInBounds g ob } : World) = w' at *
  refine hK _ _ ⟨γ, hst.step (dok_iff hd) hz' (fun b hS hlt => ⟨hoth b (hns b hS), hS⟩) (fun id d h => Or.inl h) (fun id' hid' => ⟨rfl, fun g' s hg' => hoth g' ?_⟩) (fun id' e' he' => ?_) hst.inj (fun b hbo => ⟨(hst.ge b hbo).1, Nat.lt_of_lt_of_le (hst.ge b hbo).2 hz'⟩) (hst.below.trans hbel) (.tup #[] rfl (fun j hj => absurd hj (by simp))) (fun b hno hlt => ⟨hoth b (fun e => hno (e ▸ hgo)), hno⟩) (fun _ => hdr)⟩
  · rintro rfl
    have := hst.inj _ _ _ _ _ hg' hg
    subst this
    simp [lkE] at hid'
  · have hid : id' = id := by have := lkE_one he'; simpa using this
    subst hid
    simp only [lkE, Nat.beq_refl, Option.some.injEq] at he'
    subst he'
    exact ⟨_, hg, g, rfl, hm'.sub hps⟩
theorem r_len_map {T id kt et : Nat} {x : Operand} {i : TyI} {ps : List (AV × AV)} (ho : o.op = .call { callee := .builtin .len, args := #[x], argTypes := #[T] }) (hd : dok cx o = true) (hxo : opdOk x = true) (hx : σ.eval x = .row id) (hl : σ.find id = some (.mp ps)) (hT : lkT cx.E.tab T = some i) (hs : i.shape = .map kt et) : OpRule cx o σ (.int .i64 (ps.length : Int)) [id] [] :=
  rule_val hd fun τ γ a w h1 h2 hst => by
    have ex := hst.ev x hxo
    rw [h1 x (by simp [ho, Op.operands, Call.operands]), hx] at ex
    obtain ⟨g, hg, hv, es, clock, hb, hl', _⟩ := mp_val hst (by rw [h2 id (by simp)]; exact hl) ex
    refine ⟨.int .i64 (ps.length : Int), ?_, .int _ _⟩
    rw [← hl']
    simp [execOp, ho, resolve, invoke, builtin, Builtin.len_, hv, run_underlying (und_map (cx.E.ok T i hT) hs), MapKept.run_getObj_map hb, goInt, pure, Result.andThen]
end
end Go.Proofs.Ytdbapaofibgfcaa
