/- The abstract walk, before its evaluator: a row is given up in the call that reads it. -/
import Derived.Test.YtdbapaofibgfcaaAmR
set_option linter.unusedVariables false
set_option linter.unusedSimpArgs false
namespace Go.Proofs.Ytdbapaofibgfcaa
open Go.RowKit

mutual
def AV.frz (r sz : Nat) (xs : List AV) : AV → AV
  | .row id => match Nat.beq id r with | true => .sl sz xs | false => .row id
  | .fn f cap => .fn f (AV.frzL r sz xs cap)
  | .agg cs => .agg (AV.frzL r sz xs cs)
  | .tup cs => .tup (AV.frzL r sz xs cs)
  | x => x
def AV.frzL (r sz : Nat) (xs : List AV) : List AV → List AV
  | [] => []
  | x :: l => x.frz r sz xs :: AV.frzL r sz xs l
end
theorem AV.frzL_length (r sz : Nat) (xs l : List AV) : (AV.frzL r sz xs l).length = l.length := by
  induction l with
  | nil => rfl
  | cons x l ih => simp [AV.frzL, ih]
theorem AV.frzL_at (r sz : Nat) (xs l : List AV) (i : Nat) (hi : i < l.length) : (AV.frzL r sz xs l)[i]'(by rw [AV.frzL_length]; exact hi) = l[i].frz r sz xs := by
  induction l generalizing i with
  | nil => simp at hi
  | cons x l ih =>
    cases i with
    | zero => rfl
    | succ i => exact ih i (by simpa using hi)
theorem Rep.frz {w : World} {S : Nat → Prop} {γ γ' : Gam} {r sz : Nat} {xs : List AV} {d : Option (Option Nat × Value)} (hγ : ∀ i x, i ≠ r → γ i = some x → γ' i = some x) (hr : γ r = some d) (hr' : γ' r = some none)
    (hsl : ∀ v, (∀ g s, d = some (g, s) → v = s) → Rep w S γ' (.sl sz xs) v) {av : AV} {v : Value} (h : Rep w S γ av v) : Rep w S γ' (av.frz r sz xs) v := by
  induction h with
  | any => exact .any _
  | int => exact .int _ _
  | bool => exact .bool _
  | str => exact .str _
  | nilp => exact .nilp
  | nils => exact .nils
  | nilf => exact .nilf
  | @ptr γ id off v d' h hv =>
    by_cases hi : id = r
    · subst hi; exact .ptr hr' (fun g s e => by cases e)
    · exact .ptr (hγ _ _ hi h) hv
  | @elt γ id sz k j v d' h hv =>
    by_cases hi : id = r
    · subst hi; exact .elt hr' (fun g s e => by cases e)
    · exact .elt (hγ _ _ hi h) hv
  | @row γ id v d' h hv =>
    simp only [AV.frz]
    cases hb : Nat.beq id r with
    | true =>
      have := Nat.eq_of_beq_eq_true hb
      subst this
      rw [hr] at h
      injection h with h
      subst h
      exact hsl _ hv
    | false => exact .row (hγ _ _ (Nat.ne_of_beq_eq_false hb) h) hv
  | sl A c cell hc hlen hb hr2 h1 ih => exact .sl A c cell hc hlen hb hr2 h1
  | ref b off cell hS hb hc hr2 h1 ih => exact .ref b off cell hS hb hc hr2 h1
  | fn vs hl hrr ih =>
    exact .fn vs (by rw [hl, AV.frzL_length]) (fun i hi' => by
      have hi2 := hi'
      rw [AV.frzL_length] at hi2
      rw [AV.frzL_at r sz xs _ i hi2]
      exact ih i hi2 hγ hr)
  | agg vs hl hrr h1 ih =>
    exact .agg vs (by rw [hl, AV.frzL_length]) (fun i hi' => by
      have hi2 := hi'
      rw [AV.frzL_length] at hi2
      rw [AV.frzL_at r sz xs _ i hi2]
      exact ih i hi2 hγ hr) h1
  | tup vs hl hrr ih =>
    exact .tup vs (by rw [hl, AV.frzL_length]) (fun i hi' => by
      have hi2 := hi'
      rw [AV.frzL_length] at hi2
      rw [AV.frzL_at r sz xs _ i hi2]
      exact ih i hi2 hγ hr)
section
variable {cx : Cx} {o : Oper} {σ : AS}
theorem r_call_eat {x : Operand} {args : Array Operand} {tys : Array TypeId} {f id ty sz : Nat} {cap avs xs : List AV} {res : AV} {fr : Bool} (ho : o.op = .call { callee := .value x, args := args, argTypes := tys }) (hd : dok cx o = true) (hxo : opdOk x = true) (hok : args.toList.all opdOk = true) (hx : σ.eval x = .fn f cap)
    (hl : σ.find id = some (.row ty sz xs)) (ha : AV.frzL id sz xs (argsA σ args cap) = avs) (hcl : AV.closedL avs = true) (hc : Con cx.E fr f avs res) : OpRule cx o σ res [id] [(id, .dead)] := by
  refine ⟨fun i e he => lkE_one he, fun τ h1 h2 a w Q K ⟨γ, hst⟩ hK => ?_⟩
  have hop : o.op.operands = #[x] ++ args := by simp [ho, Op.operands, Call.operands]
  obtain ⟨caps, hcx, hl', hr⟩ := args_rep hst hok hxo (fun y hy => h1 y (by rw [hop]; simp at hy ⊢; exact Or.inr hy)) (h1 x (by rw [hop]; simp)) hx
  have hme := hst.me id
  rw [h2 id (by simp), hl] at hme
  obtain ⟨d, hd', he⟩ := hme
  have hown : ∀ b, own (γ.set id none) b → own γ b ∧ ∀ s, γ id ≠ some (some (some b, s)) := fun b ⟨i, s, hi⟩ => by
    by_cases hir : i = id
    · subst hir; rw [Gam.set_self] at hi; cases hi
    · rw [Gam.set_ne _ _ _ hir] at hi
      exact ⟨⟨i, s, hi⟩, fun s' hs' => hir (hst.inj _ _ _ _ _ hi hs')⟩
  have hS : ∀ b, Sg cx.S0 cx.w0.heap.size γ b → Sg cx.S0 cx.w0.heap.size (γ.set id none) b := fun b hb => hb.elim Or.inl (fun ⟨h1, h2⟩ => Or.inr ⟨h1, fun ho => h2 (hown b ho).1⟩)
  have hg : ∀ i x, γ i = some x → γ.set id none i = some x ∨ γ.set id none i = some none := fun i x hx => by
    by_cases hir : i = id
    · subst hir; exact Or.inr (Gam.set_self _ _ _)
    · exact Or.inl (by rw [Gam.set_ne _ _ _ hir]; exact hx)
  obtain ⟨s, hs, hrr⟩ := row_sl (S' := Sg cx.S0 cx.w0.heap.size (γ.set id none)) he (fun b hb _ => hS b hb) (fun s g hg => Or.inr ⟨(hst.ge g ⟨id, s, by rw [hd', hg]⟩).1, fun ho => (hown g ho).2 s (by rw [hd', hg])⟩) (γ.set id none)
  have mv : ∀ {av v}, Rep w (Sg cx.S0 cx.w0.heap.size γ) γ av v → Rep w (Sg cx.S0 cx.w0.heap.size (γ.set id none)) (γ.set id none) (av.frz id sz xs) v := fun hv =>
    (hv.mono (Nat.le_refl _) (fun b hb _ => ⟨rfl, hS b hb⟩)).frz (fun i x hi hx => by rw [Gam.set_ne _ _ _ hi]; exact hx) hd' (Gam.set_self _ _ _) (fun v hv => by rw [hv _ _ hs]; exact hrr)
  unfold Oper.wp
  rw [run_call ho hcx hc.1]
  show Calls _ _ _ _ _
  have hlen : avs.length = (argsA σ args cap).length := by rw [← ha, AV.frzL_length]
  refine (hc.2 (Sg cx.S0 cx.w0.heap.size (γ.set id none)) w _ ⟨by rw [hlen]; exact hl', fun i hi => ?_⟩).mono ?_
  · have hi' : i < (argsA σ args cap).length := by omega
    have e : avs[i] = (argsA σ args cap)[i].frz id sz xs := by
      have : (AV.frzL id sz xs (argsA σ args cap))[i]'(by rw [AV.frzL_length]; exact hi') = avs[i] := by simp only [ha]
      rw [← this, AV.frzL_at]
    have := mv (hr i hi')
    rw [← e] at this
    exact this.close (AV.closedL_at hcl i hi)
  rintro e w' ⟨v, rfl, ⟨hb, hdr⟩, hv⟩
  refine hK _ _ ⟨γ.set id none, hst.step (γ' := γ.set id none) (dok_iff hd) hb.size (fun b hS' hlt => ⟨hb.block b hlt, hS b hS'⟩) hg (fun i hi => ?_) (fun i e hi => ?_) (fun i j b s s' hi hj => ?_) (fun b hb' => ⟨(hst.ge b (hown b hb').1).1, Nat.lt_of_lt_of_le (hst.ge b (hown b hb').1).2 hb.size⟩) (hst.below.trans (hb.mono hst.below.size)) ?_ (fun b hno hlt => ⟨hb.block b hlt, fun ho => hno (hown b ho).1⟩) hdr⟩
  · have hid : i ≠ id := fun e => by subst e; simp [lkE] at hi
    exact ⟨Gam.set_ne _ _ _ hid, fun g s hgi => hb.block g (hst.ge g ⟨i, s, hgi⟩).2⟩
  · have hid : i = id := by have := lkE_one hi; simpa using this
    subst hid
    simp only [lkE, Nat.beq_refl, Option.some.injEq] at hi
    subst hi
    exact ⟨none, Gam.set_self _ _ _, rfl⟩
  · have hir : i ≠ id := fun e => by subst e; rw [Gam.set_self] at hi; cases hi
    have hjr : j ≠ id := fun e => by subst e; rw [Gam.set_self] at hj; cases hj
    rw [Gam.set_ne _ _ _ hir] at hi
    rw [Gam.set_ne _ _ _ hjr] at hj
    exact hst.inj _ _ _ _ _ hi hj
  · refine (hv.mono (Nat.le_refl _) (fun b hS' _ => ⟨rfl, ?_⟩)).open_
    rcases hS' with ⟨_, hS'⟩ | hS'
    · exact hS'
    · exact Or.inr ⟨⟨Nat.le_trans hst.below.size hS', fun h0 => by have := hst.gh _ h0; omega⟩, fun ho' => by have := (hst.ge b (hown b ho').1).2; omega⟩
/-- append(nil, make([]T, n)...), n at least one. -/
theorem r_append_zeros {T Ti d e esz eb : Nat} {x y : Operand} {i ie it : TyI} {k kn : IntKind} {n : Int} {m : Nat} (ho : o.op = .call { callee := .builtin .append, args := #[x, y], argTypes := #[T, Ti] }) (hdst : o.dst = some d) (hd : dok cx o = true) (hxo : opdOk x = true) (hyo : opdOk y = true) (hx : σ.eval x = .nils) (hy : σ.eval y = .int k n)
    (hT : lkT cx.E.tab T = some i) (hs : i.shape = .slc e esz eb) (hTi : lkT cx.E.tab Ti = some it) (hsi : it.shape = .int kn) (he : lkT cx.E.tab e = some ie) (hz : esz ≠ 0) (hzo : zeroOk ie = true) (hone : ie.zero.cells.all (·.oneCell') = true) (hn : σ.find d = none) (hm : n = (m : Int)) (h0 : 0 < n) (h1 : m ≤ 1099511627776) (h2 : ie.bytes * m ≤ 281474976710656) :
    OpRule cx o σ (.row d) [d] [(d, .row e esz (List.replicate m (zeroA ie)))] := by
  refine ⟨fun id e he => lkE_one he, fun τ q1 q2 a w Q K ⟨γ, hst⟩ hK => ?_⟩
  have ex := hst.ev x hxo
  rw [q1 x (by simp [ho, Op.operands, Call.operands]), hx] at ex
  have ey := hst.ev y hyo
  rw [q1 y (by simp [ho, Op.operands, Call.operands]), hy] at ey
  obtain ⟨hu, hce, _⟩ := und_slc (cx.E.ok T i hT) hs
  have hui : cx.P.underlying Ti = some (.int kn) := by
    obtain ⟨dd, hdd, he'⟩ := (cx.E.ok Ti it hTi).und
    rw [hsi] at he'
    cases dd <;> simp only [shapeOf, reduceCtorEq, Shape.int.injEq] at he'
    subst he'
    exact hdd
  have hok := cx.E.ok e ie he
  obtain ⟨info, hi, hi1, hi2, hi3⟩ := hok.both
  have hsz : ie.sz = esz := hok.cells.symm.trans hce
  obtain ⟨hzc, hzs⟩ := zeroA_cells hzo
  subst hm
  have hm0 : 0 < m := by omega
  have hrun := Lib.run_append_nil_zeros (P := cx.P) w T Ti o.type e info ie.zero k kn hu hui hi hi3 m hm0 (by rw [hi1, hsz]; omega) (by omega) (by rw [hi2, Nat.mul_comm]; exact h2)
  generalize hcap : grownCap w m 0 e = cap at hrun
  have hcap1 : m ≤ cap := by rw [← hcap]; exact grownCap_ge _ _ _ _
  have hcap2 : cap ≤ maxLen := by rw [← hcap]; exact grownCap_le_maxLen _ _ _ _ (by unfold maxLen; omega)
  generalize hcur : Builtin.zeroCells ie.zero.cells m ++ Builtin.zeroCells ie.zero.cells (cap - m) = cur at hrun
  have hzs2 : ie.zero.cells.size = esz := hzs.trans hsz
  have hcs : cur.size = cap * esz := by
    rw [← hcur, Array.size_append, size_zeroCells, size_zeroCells, hzs2, ← Nat.add_mul]
    congr 1; omega
  have hex : (execOp a.eval o).run cx.P w = .ok (.value (.slice (some ⟨w.heap.size, 0, none⟩) m cap)) (w.drew.alloc (.cells cur e)) := by
    simp only [execOp, ho, resolve, invoke, builtin, Sem.run_bind, Sem.run_pure, Result.andThen_ok, List.map_toArray, List.map_cons, List.map_nil, ex.nils_inv, ey.int_inv, hrun]
  unfold Oper.wp
  rw [hex]
  refine hK _ _ ?_
  rw [hdst]
  have hcl : (zeroA ie).cells.length = esz := by rw [hzc, List.length_map, Array.length_toList, hzs, hsz]
  have hus : cur.toList.take (m * esz) = (madeCells ie.zero.cells (m * esz)).toList := by
    rw [← hcur, Array.toList_append, List.take_append_of_le_length (by rw [Array.length_toList, size_zeroCells, hzs2]; exact Nat.le_refl _), List.take_of_length_le (by rw [Array.length_toList, size_zeroCells, hzs2]; exact Nat.le_refl _)]
    unfold Builtin.zeroCells madeCells
    rw [hzs2]
  have hown : (w.drew.alloc (.cells cur e)).ownsRow w.heap.size e esz (.slice (some ⟨w.heap.size, 0, none⟩) m cap) m (madeCells ie.zero.cells (m * esz)).toList :=
    ⟨by simp [size_madeCells], Or.inr ⟨w.heap.size, cap, cur, rfl, Nat.le_refl _, (MapKept.heap_alloc w.drew _).1, hcap1, hcap2, hcs, hus⟩⟩
  have hget : ∀ q j, q < m → j < esz → (madeCells ie.zero.cells (m * esz)).toList.getD (q * esz + j) undef = ie.zero.cells.getD j undef := fun q j hq hj => by
    have hlt : q * esz + j < m * esz := by
      have : (q + 1) * esz ≤ m * esz := Nat.mul_le_mul_right _ hq
      rw [Nat.succ_mul] at this
      omega
    have hmod : (q * esz + j) % ie.zero.cells.size = j := by
      rw [hzs2, Nat.mul_comm, Nat.mul_add_mod, Nat.mod_eq_of_lt hj]
    rw [List.getD_eq_getElem?_getD]
    have hj' : j < ie.zero.cells.size := by omega
    simp [madeCells, hlt, hmod, Array.getD, hj']
  have hall : ∀ v ∈ ie.zero.cells, v.oneCell' = true := by
    rw [Array.all_eq_true_iff_forall_mem] at hone
    exact hone
  refine new_row (v := .slice (some ⟨w.heap.size, 0, none⟩) m cap) (us := (madeCells ie.zero.cells (m * esz)).toList) hst (fun _ => Nat.le_succ _) (by rw [q2 d (by simp), hn]) (fun x hx => by injection hx with hx; subst hx; exact dok_iff hd _ hdst) (((Below.refl _ _).drew).alloc (Nat.le_refl _) _)
    (by rw [List.length_replicate]; exact hown) (fun q hq => by rw [List.getElem_replicate]; exact hcl) (fun q hq j hj => ?_) (fun u hu => ?_)
    (fun hS => .row (Gam.set_self _ _ _) (fun g s e => by injection e with e; injection e with _ e))
  · have hq' : q < m := by simpa using hq
    rw [List.getElem_replicate] at hj
    have hj' : j < esz := by omega
    rw [hget q j hq' hj']
    simp only [List.getElem_replicate, hzc, List.getElem_map]
    have hj2 : j < ie.zero.cells.size := by omega
    have : ie.zero.cells.getD j undef = ie.zero.cells[j] := by simp [Array.getD, hj2]
    rw [this]
    simpa using rep_ofV _ _ _ (ie.zero.cells[j])
  · obtain ⟨q, hq, rfl⟩ := List.mem_iff_getElem.1 hu
    have hq' : q < m * esz := by simpa [size_madeCells] using hq
    have hpos : 0 < ie.zero.cells.size := by omega
    have hmod := Nat.mod_lt q hpos
    simp only [madeCells, Array.toList_map, List.getElem_map, Array.getElem_toList, Array.getElem_range]
    rw [getElem!_pos ie.zero.cells _ hmod]
    exact hall _ (Array.getElem_mem _)
end
end Go.Proofs.Ytdbapaofibgfcaa
