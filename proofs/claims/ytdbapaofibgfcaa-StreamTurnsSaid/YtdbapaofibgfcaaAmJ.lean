/- The abstract walk, tenth part: calls, by contract. -/
import Derived.Test.YtdbapaofibgfcaaAmI
set_option linter.unusedVariables false
set_option linter.unusedSimpArgs false
namespace Go.Proofs.Ytdbapaofibgfcaa
open Go.RowKit

/-- A call of f comes to its body. -/
def Enters (E : Env) (f : FuncId) : Prop := ∀ args w, (callFunc f args).run E.P w = .ok (.enter f args) w
def Args (w : World) (S : Nat → Prop) (args : List AV) (vs : Array Value) : Prop := vs.size = args.length ∧ ∀ i (hi : i < args.length), Rep w S G0 args[i] (vs.getD i undef)
/-- Below some blocks nothing turned, and (where the contracts say so) draws did not become fewer. -/
def BelE (E : Env) (w w' : World) : Prop := Below w.heap.size w w' ∧ (E.dr = true → w.drawn ≤ w'.drawn)
/-- Called with such arguments, f returns such a result; it lies in new memory, and (fr = false) in the arguments'. -/
def Con (E : Env) (fr : Bool) (f : FuncId) (args : List AV) (res : AV) : Prop :=
  Enters E f ∧ ∀ (S : Nat → Prop) (w : World) (vs : Array Value), Args w S args vs → Calls E.P f vs w fun e w' => ∃ v, e = .returned v ∧ BelE E w w' ∧ Rep w' (fun b => (fr = false ∧ S b) ∨ w.heap.size ≤ b) G0 res v
/-- f returns a slice of its own making, that no one else has. -/
def ConRow (E : Env) (f : FuncId) (args : List AV) (ty sz : Nat) (xs : List AV) : Prop :=
  Enters E f ∧ ∀ (S : Nat → Prop) (w : World) (vs : Array Value), Args w S args vs → Calls E.P f vs w fun e w' => ∃ v us, e = .returned v ∧ Below w.heap.size w w' ∧ w'.ownsRow w.heap.size ty sz v xs.length us ∧
    (∀ k (hk : k < xs.length), (xs[k]).cells.length = sz) ∧ (∀ k (hk : k < xs.length) j (hj : j < (xs[k]).cells.length), Rep w' (fun b => (S b ∨ w.heap.size ≤ b) ∧ v.ownBlock ≠ some b) G0 ((xs[k]).cells[j]) (us.getD (k * sz + j) undef)) ∧ ∀ u ∈ us, u.oneCell' = true

mutual
/-- It holds no address. -/
def AV.flat : AV → Bool
  | .ptr _ _ => false
  | .row _ => false
  | .elt _ _ _ _ => false
  | .sl _ _ => false
  | .ref _ => false
  | .fn _ cap => AV.flatL cap
  | .agg cs => AV.flatL cs
  | .tup cs => AV.flatL cs
  | _ => true
def AV.flatL : List AV → Bool
  | [] => true
  | x :: r => x.flat && AV.flatL r
end
theorem AV.flatL_at {l : List AV} (h : AV.flatL l = true) (i : Nat) (hi : i < l.length) : l[i].flat = true := by
  induction l generalizing i with
  | nil => simp at hi
  | cons x r ih =>
    simp only [AV.flatL, Bool.and_eq_true] at h
    cases i with
    | zero => exact h.1
    | succ i => exact ih h.2 i (by simpa using hi)
theorem Rep.flat {w w' : World} {S S' : Nat → Prop} {γ γ' : Gam} {av : AV} {v : Value} (h : Rep w S γ av v) (hf : av.flat = true) : Rep w' S' γ' av v := by
  induction h with
  | any => exact .any _
  | int => exact .int _ _
  | bool => exact .bool _
  | str => exact .str _
  | nilp => exact .nilp
  | ptr h hv => simp [AV.flat] at hf
  | elt h hv => simp [AV.flat] at hf
  | nils => exact .nils
  | sl A c cell hc hlen hb hr h1 ih => simp [AV.flat] at hf
  | row h hv => simp [AV.flat] at hf
  | fn vs hl hr ih => simp only [AV.flat] at hf; exact .fn vs hl (fun i hi => ih i hi (AV.flatL_at hf i hi))
  | nilf => exact .nilf
  | agg vs hl hr h1 ih => simp only [AV.flat] at hf; exact .agg vs hl (fun i hi => ih i hi (AV.flatL_at hf i hi)) h1
  | tup vs hl hr ih => simp only [AV.flat] at hf; exact .tup vs hl (fun i hi => ih i hi (AV.flatL_at hf i hi))
  | ref b off cell hS hb hc hr h1 ih => simp [AV.flat] at hf

section
variable {w : World} {S : Nat → Prop} {γ : Gam} {B : Nat}
/-- A row of the call's own, read. -/
theorem row_sl {S' : Nat → Prop} {ty sz : Nat} {xs : List AV} {d : Option (Option Nat × Value)} (h : EntRep w S γ B d (.row ty sz xs)) (hS : ∀ b, S b → b < w.heap.size → S' b) (hb : ∀ s g, d = some (some g, s) → S' g) (γ' : Gam) : ∃ s, d = some (s.ownBlock, s) ∧ Rep w S' γ' (.sl sz xs) s := by
  obtain ⟨s, vs, hd, h1, hown, hlen, hr, hone⟩ := h
  refine ⟨s, hd, ?_⟩
  have hcell : ∀ k j, ((fun k j => if k < xs.length ∧ j < sz then vs.getD (k * sz + j) undef else Value.bool true) k j).oneCell' = true := fun k j => by
    by_cases h : k < xs.length ∧ j < sz
    · simp only [if_pos h]
      have hlt : k * sz + j < vs.length := by
        rw [hown.1]
        have : (k + 1) * sz ≤ xs.length * sz := Nat.mul_le_mul_right _ h.1
        rw [Nat.succ_mul] at this
        omega
      rw [List.getD_eq_getElem?_getD, List.getElem?_eq_getElem hlt]
      exact hone _ (List.getElem_mem hlt)
    · simp only [if_neg h]; rfl
  have hrr : ∀ k (hk : k < xs.length) j (hj : j < (xs[k]).cells.length), Rep w S' G0 ((xs[k]).cells[j]) ((fun k j => if k < xs.length ∧ j < sz then vs.getD (k * sz + j) undef else Value.bool true) k j) := fun k hk j hj => by
    simp only [if_pos (show k < xs.length ∧ j < sz from ⟨hk, by rw [← hlen k hk]; exact hj⟩)]
    exact (hr k hk j hj).mono (Nat.le_refl _) (fun b hS' hlt => ⟨rfl, hS b hS' hlt⟩)
  have hgc : ∀ g, s.ownBlock = some g → ∀ k j, k < xs.length → j < sz → w.cell? ⟨g, k * sz + j, none⟩ = some ((fun k j => if k < xs.length ∧ j < sz then vs.getD (k * sz + j) undef else Value.bool true) k j) := fun g hg k j hk hj => by
    simp only [if_pos (show k < xs.length ∧ j < sz from ⟨hk, hj⟩)]
    refine row_cells hown hg _ ?_
    have : (k + 1) * sz ≤ xs.length * sz := Nat.mul_le_mul_right _ hk
    rw [Nat.succ_mul] at this
    omega
  rcases hown.2 with ⟨rfl, h0⟩ | ⟨g, cap, cur, rfl, hbg, hh, hn, hm, hs, ht⟩
  · have hx : xs = [] := List.length_eq_zero_iff.1 h0
    subst hx
    exact .sl none 0 _ (Nat.le_refl _) hlen (fun h => absurd h (by simp)) hrr hcell
  · refine .sl _ cap _ hn hlen (fun _ => ⟨g, 0, rfl, hb _ g (by rw [hd]; rfl), (Array.getElem?_eq_some_iff.1 hh).1, fun k j hk hj => ?_⟩) hrr hcell
    rw [Nat.zero_add]
    exact hgc g rfl k j hk hj
end

/-- One layer of names replaced by what they hold. -/
def close1 (σ : AS) : AV → AV
  | .row id => match σ.find id with | some (.row _ sz xs) => .sl sz xs | _ => .any
  | .ptr _ _ => .any
  | .elt _ _ _ _ => .any
  | .agg _ => .any
  | .tup _ => .any
  | .fn f cap => match AV.closedL cap with | true => .fn f cap | false => .any
  | x => x
def close2 (σ : AS) : AV → AV
  | .ptr id off => match σ.find id with | some (.box _ cs) => .ref ((cs.map (close1 σ)).drop off) | _ => .any
  | .agg cs => .agg (cs.map (close1 σ))
  | .fn f cap => .fn f (cap.map fun x => match x with
      | .ptr id off => match σ.find id with | some (.box _ cs) => .ref ((cs.map (close1 σ)).drop off) | _ => .any
      | x => close1 σ x)
  | x => close1 σ x
def ids1 : AV → List Nat
  | .row id => [id]
  | _ => []
def ids2 (σ : AS) : AV → List Nat
  | .ptr id _ => id :: (match σ.find id with | some (.box _ cs) => cs.flatMap ids1 | _ => [])
  | .agg cs => cs.flatMap ids1
  | .fn _ cap => cap.flatMap fun x => match x with
      | .ptr id _ => id :: (match σ.find id with | some (.box _ cs) => cs.flatMap ids1 | _ => [])
      | x => ids1 x
  | x => ids1 x

section
variable {cx : Cx} {σ τ : AS} {γ : Gam} {a : Act} {w : World} {S' : Nat → Prop}
theorem close1_rep (hst : StG cx γ τ a w) (hS' : ∀ b, Sg cx.S0 cx.w0.heap.size γ b ∨ own γ b → S' b) {av : AV} {v : Value} (h : Rep w (Sg cx.S0 cx.w0.heap.size γ) γ av v) (hids : ∀ id ∈ ids1 av, τ.find id = σ.find id) : Rep w S' G0 (close1 σ av) v := by
  have cl : av.closed = true → Rep w S' G0 av v := fun hc => (h.close hc).mono (Nat.le_refl _) (fun b hb _ => ⟨rfl, hS' b (Or.inl hb)⟩)
  cases av with
  | row id =>
    simp only [close1]
    have hf := hids id (by simp [ids1])
    have hme := hst.me id
    cases hq : σ.find id with
    | none => exact .any _
    | some e =>
      cases e with
      | row ty sz xs =>
        rw [hf, hq] at hme
        obtain ⟨d, hd, he⟩ := hme
        obtain ⟨s, hs, hr⟩ := row_sl (S' := S') he (fun b hb _ => hS' b (Or.inl hb)) (fun s g hg => hS' g (Or.inr ⟨id, s, by rw [hd, hg]⟩)) G0
        subst hs
        rw [h.row_inv hd]
        exact hr
      | _ => exact .any _
  | fn f cap =>
    simp only [close1]
    cases hc : AV.closedL cap with
    | true => exact cl (by simp only [AV.closed]; exact hc)
    | false => exact .any _
  | ptr => exact .any _
  | elt => exact .any _
  | agg => exact .any _
  | tup => exact .any _
  | _ => exact cl rfl
theorem close_ptr (hst : StG cx γ τ a w) (hS' : ∀ b, Sg cx.S0 cx.w0.heap.size γ b ∨ own γ b → S' b) {id off : Nat} {v : Value} (h : Rep w (Sg cx.S0 cx.w0.heap.size γ) γ (.ptr id off) v) (hids : ∀ i ∈ (id :: (match σ.find id with | some (.box _ cs) => cs.flatMap ids1 | _ => [])), τ.find i = σ.find i) :
    Rep w S' G0 (match σ.find id with | some (.box _ cs) => .ref ((cs.map (close1 σ)).drop off) | _ => .any) v := by
  have hf := hids id (by simp)
  have hme := hst.me id
  cases hq : σ.find id with
  | none => exact .any _
  | some e =>
    cases e with
    | box ty cs =>
      rw [hf, hq] at hme
      obtain ⟨d, hd, g, vs, hde, hb, hsz, hr, hone⟩ := hme
      subst hde
      rw [h.ptr_inv hd]
      have := rep_ref_drop (w := w) (S := S') (γ := G0) (cs := cs.map (close1 σ)) (b := g) (off := 0) (k := off) (cell := fun j => vs.getD j undef) (hS' g (Or.inr ⟨id, _, hd⟩)) hb.lt (fun j hj => by rw [Nat.zero_add]; exact blk_cells hb j (by simpa [hsz] using hj))
        (fun j hj => by
          have hj' : j < cs.length := by simpa using hj
          simp only [List.getElem_map]
          exact close1_rep hst hS' (hr j hj') (fun i hi => hids i (by simp only [hq]; exact List.mem_cons_of_mem _ (List.mem_flatMap.2 ⟨_, List.getElem_mem hj', hi⟩))))
        (fun j hj => hone j (by simpa [hsz] using hj))
      rw [Nat.zero_add] at this
      exact this
    | _ => exact .any _
theorem close2_rep (hst : StG cx γ τ a w) (hS' : ∀ b, Sg cx.S0 cx.w0.heap.size γ b ∨ own γ b → S' b) {av : AV} {v : Value} (h : Rep w (Sg cx.S0 cx.w0.heap.size γ) γ av v) (hids : ∀ id ∈ ids2 σ av, τ.find id = σ.find id) : Rep w S' G0 (close2 σ av) v := by
  have c1 : (∀ id ∈ ids1 av, τ.find id = σ.find id) → Rep w S' G0 (close1 σ av) v := close1_rep hst hS' h
  cases av with
  | ptr id off => exact close_ptr hst hS' h hids
  | agg cs =>
    obtain ⟨vs, rfl, hl, hr, h1⟩ := h.agg_inv
    simp only [close2]
    refine .agg vs (by simpa using hl) (fun i hi => ?_) h1
    have hi' : i < cs.length := by simpa using hi
    simp only [List.getElem_map]
    exact close1_rep hst hS' (hr i hi') (fun id hid => hids id (List.mem_flatMap.2 ⟨_, List.getElem_mem hi', hid⟩))
  | fn f cap =>
    obtain ⟨vs, rfl, hl, hr⟩ := h.fn_inv
    simp only [close2]
    refine .fn vs (by simpa using hl) (fun i hi => ?_)
    have hi' : i < cap.length := by simpa using hi
    simp only [List.getElem_map]
    have hsub : ∀ id, id ∈ (match cap[i] with | .ptr id _ => id :: (match σ.find id with | some (.box _ cs) => cs.flatMap ids1 | _ => []) | x => ids1 x) → τ.find id = σ.find id := fun id hid => hids id (List.mem_flatMap.2 ⟨_, List.getElem_mem hi', hid⟩)
    have hri := hr i hi'
    generalize cap[i] = x at *
    cases x with
    | ptr id off => exact close_ptr hst hS' hri hsub
    | _ => exact close1_rep hst hS' hri hsub
  | _ => exact c1 hids
end

section
variable {cx : Cx} {o : Oper} {σ : AS}
/-- The arguments as they are: what the operands hold, then what the closure holds. -/
def argsA (σ : AS) (args : Array Operand) (cap : List AV) : List AV := args.toList.map σ.eval ++ cap

theorem args_rep {γ : Gam} {τ : AS} {a : Act} {w : World} {x : Operand} {args : Array Operand} {cap : List AV} {f : FuncId} (hst : StG cx γ τ a w) (hok : args.toList.all opdOk = true) (hxo : opdOk x = true) (h1 : ∀ y ∈ args.toList, τ.eval y = σ.eval y) (h1x : τ.eval x = σ.eval x) (hx : σ.eval x = .fn f cap) :
    ∃ caps : Array Value, a.eval x = .func (.func f) #[] caps ∧ (args.map a.eval ++ caps).size = (argsA σ args cap).length ∧ ∀ i (hi : i < (argsA σ args cap).length), Rep w (Sg cx.S0 cx.w0.heap.size γ) γ (argsA σ args cap)[i] ((args.map a.eval ++ caps).getD i undef) := by
  have hev := hst.ev x hxo
  rw [h1x, hx] at hev
  obtain ⟨caps, hc, hl, hr⟩ := hev.fn_inv
  refine ⟨caps, hc, by simp [argsA, hl], fun i hi => ?_⟩
  unfold argsA at hi ⊢
  rw [Array.getD_eq_getD_getElem?]
  by_cases h : i < args.size
  · rw [List.getElem_append_left (by simpa using h), Array.getElem?_append_left (by simpa using h)]
    simp only [List.all_eq_true] at hok
    have he := hst.ev args[i] (hok _ (by simp))
    rw [h1 args[i] (by simp)] at he
    simpa [h] using he
  · have hi' : i - args.size < cap.length := by simp at hi; omega
    rw [List.getElem_append_right (by simpa using h), Array.getElem?_append_right (by simpa using h)]
    have := hr (i - args.size) hi'
    rw [Array.getD_eq_getD_getElem?] at this
    simpa using this
theorem run_call {P : Program} {x : Operand} {args : Array Operand} {tys : Array TypeId} {f : FuncId} {caps : Array Value} {a : Act} {w : World} (ho : o.op = .call { callee := .value x, args := args, argTypes := tys }) (hx : a.eval x = .func (.func f) #[] caps) (he : ∀ args w, (callFunc f args).run P w = .ok (.enter f args) w) :
    (execOp a.eval o).run P w = .ok (.enter f (args.map a.eval ++ caps)) w := by
  simp only [execOp, ho, resolve, hx, Deferred.ofValue, invoke, Sem.run_bind, Sem.run_pure, Result.andThen_ok, Array.empty_append, he]

theorem r_call {x : Operand} {args : Array Operand} {tys : Array TypeId} {f : FuncId} {cap avs : List AV} {res : AV} {fr : Bool} (ho : o.op = .call { callee := .value x, args := args, argTypes := tys }) (hd : dok cx o = true) (hxo : opdOk x = true) (hok : args.toList.all opdOk = true) (hx : σ.eval x = .fn f cap)
    (ha : argsA σ args cap = avs) (hcl : AV.closedL avs = true) (hc : Con cx.E fr f avs res) : OpRule cx o σ res [] [] := by
  refine ⟨fun id e he => by simp [lkE] at he, fun τ h1 h2 a w Q K ⟨γ, hst⟩ hK => ?_⟩
  have hop : o.op.operands = #[x] ++ args := by simp [ho, Op.operands, Call.operands]
  obtain ⟨caps, hcx, hl, hr⟩ := args_rep hst hok hxo (fun y hy => h1 y (by rw [hop]; simp at hy ⊢; exact Or.inr hy)) (h1 x (by rw [hop]; simp)) hx
  subst ha
  unfold Oper.wp
  rw [run_call ho hcx hc.1]
  show Calls _ _ _ _ _
  refine (hc.2 (Sg cx.S0 cx.w0.heap.size γ) w _ ⟨hl, fun i hi => (hr i hi).close (AV.closedL_at hcl i hi)⟩).mono ?_
  rintro e w' ⟨v, rfl, ⟨hb, hdr⟩, hv⟩
  refine hK _ _ ⟨γ, hst.grow (dok_iff hd) hb hdr ?_⟩
  refine (hv.mono (Nat.le_refl _) (fun b hS _ => ⟨rfl, ?_⟩)).open_
  rcases hS with ⟨_, hS⟩ | hS
  · exact hS
  · exact Or.inr ⟨⟨Nat.le_trans hst.below.size hS, fun h0 => by have := hst.gh _ h0; omega⟩, fun ho' => by have := (hst.ge b ho').2; omega⟩
/-- Arguments that name blocks of the call's own: they are read there. -/
theorem r_call_close {x : Operand} {args : Array Operand} {tys : Array TypeId} {f : FuncId} {cap avs : List AV} {res : AV} {fr : Bool} (ho : o.op = .call { callee := .value x, args := args, argTypes := tys }) (hd : dok cx o = true) (hxo : opdOk x = true) (hok : args.toList.all opdOk = true) (hx : σ.eval x = .fn f cap)
    (ha : (argsA σ args cap).map (close2 σ) = avs) (hc : Con cx.E fr f avs res) (hf : fr = true ∨ res.flat = true) : OpRule cx o σ res ((argsA σ args cap).flatMap (ids2 σ)) [] := by
  refine ⟨fun id e he => by simp [lkE] at he, fun τ h1 h2 a w Q K ⟨γ, hst⟩ hK => ?_⟩
  have hop : o.op.operands = #[x] ++ args := by simp [ho, Op.operands, Call.operands]
  obtain ⟨caps, hcx, hl, hr⟩ := args_rep hst hok hxo (fun y hy => h1 y (by rw [hop]; simp at hy ⊢; exact Or.inr hy)) (h1 x (by rw [hop]; simp)) hx
  subst ha
  unfold Oper.wp
  rw [run_call ho hcx hc.1]
  show Calls _ _ _ _ _
  refine (hc.2 (fun _ => True) w _ ⟨by simpa using hl, fun i hi => ?_⟩).mono ?_
  · have hi' : i < (argsA σ args cap).length := by simpa using hi
    simp only [List.getElem_map]
    exact close2_rep hst (fun _ _ => trivial) (hr i hi') (fun id hid => h2 id (List.mem_flatMap.2 ⟨_, List.getElem_mem hi', hid⟩))
  rintro e w' ⟨v, rfl, ⟨hb, hdr⟩, hv⟩
  refine hK _ _ ⟨γ, hst.grow (dok_iff hd) hb hdr ?_⟩
  rcases hf with hf | hf
  · refine (hv.mono (Nat.le_refl _) (fun b hS _ => ⟨rfl, ?_⟩)).open_
    rcases hS with ⟨hS, _⟩ | hS
    · rw [hf] at hS; cases hS
    · exact Or.inr ⟨⟨Nat.le_trans hst.below.size hS, fun h0 => by have := hst.gh _ h0; omega⟩, fun ho' => by have := (hst.ge b ho').2; omega⟩
  · exact hv.flat hf
/-- The result is a row of the call's own. -/
theorem r_call_row {x : Operand} {args : Array Operand} {tys : Array TypeId} {f d : Nat} {cap avs xs : List AV} {ty sz : Nat} (ho : o.op = .call { callee := .value x, args := args, argTypes := tys }) (hdst : o.dst = some d) (hd : dok cx o = true) (hxo : opdOk x = true) (hok : args.toList.all opdOk = true) (hx : σ.eval x = .fn f cap)
    (ha : argsA σ args cap = avs) (hcl : AV.closedL avs = true) (hn : σ.find d = none) (hc : ConRow cx.E f avs ty sz xs) (hdr0 : cx.E.dr = false) : OpRule cx o σ (.row d) [d] [(d, .row ty sz xs)] := by
  refine ⟨fun id e he => ?_, fun τ h1 h2 a w Q K ⟨γ, hst⟩ hK => ?_⟩
  · simp only [lkE] at he
    cases hb : Nat.beq d id with
    | true => simp [Nat.eq_of_beq_eq_true hb]
    | false => rw [hb] at he; cases he
  have hop : o.op.operands = #[x] ++ args := by simp [ho, Op.operands, Call.operands]
  obtain ⟨caps, hcx, hl, hr⟩ := args_rep hst hok hxo (fun y hy => h1 y (by rw [hop]; simp at hy ⊢; exact Or.inr hy)) (h1 x (by rw [hop]; simp)) hx
  subst ha
  have hγd : γ d = none := by have := hst.me d; rw [h2 d (by simp), hn] at this; exact this
  unfold Oper.wp
  rw [run_call ho hcx hc.1]
  show Calls _ _ _ _ _
  refine (hc.2 (Sg cx.S0 cx.w0.heap.size γ) w _ ⟨hl, fun i hi => (hr i hi).close (AV.closedL_at hcl i hi)⟩).mono ?_
  rintro e w' ⟨v, us, rfl, hb, hown, hlen, hre, hone⟩
  have hsz := hst.below.size
  let γ' : Gam := γ.set d (some (v.ownBlock, v))
  have hvb : ∀ b, v.ownBlock = some b → w.heap.size ≤ b ∧ b < w'.heap.size := fun b hvb => by
    rcases hown.2 with ⟨hv, _⟩ | ⟨g, cap, cur, hv, hbg, hh, _⟩
    · rw [hv] at hvb; simp [Value.ownBlock] at hvb
    · rw [hv] at hvb; simp only [Value.ownBlock, Option.some.injEq] at hvb; subst hvb
      exact ⟨hbg, (Array.getElem?_eq_some_iff.1 hh).1⟩
  have hown' : ∀ b, own γ' b → v.ownBlock = some b ∨ own γ b := fun b ⟨id, s, hi⟩ => by
    by_cases h : id = d
    · subst h; rw [show γ' id = _ from Gam.set_self _ _ _] at hi; injection hi with hi; injection hi with hi; injection hi with hi _; exact Or.inl hi
    · rw [show γ' id = _ from Gam.set_ne _ _ _ h] at hi; exact Or.inr ⟨id, s, hi⟩
  have hold : ∀ i x, γ i = some x → i ≠ d := fun i x hx e => by subst e; rw [hγd] at hx; cases hx
  have hstab : ∀ b, Sg cx.S0 cx.w0.heap.size γ b → b < w.heap.size → Sg cx.S0 cx.w0.heap.size γ' b := fun b hS hlt => by
    rcases hS with hS | ⟨h1, h2⟩
    · exact Or.inl hS
    · refine Or.inr ⟨h1, fun ho' => ?_⟩
      rcases hown' b ho' with h | h
      · have := (hvb b h).1; omega
      · exact h2 h
  refine hK _ _ ⟨γ', ?_⟩
  rw [hdst]
  refine hst.step (γ' := γ') (fun x hx => by injection hx with hx; subst hx; exact dok_iff hd _ hdst) hb.size (fun b hS hlt => ⟨hb.block b hlt, hstab b hS hlt⟩) (fun i x hx => Or.inl (by rw [show γ' i = _ from Gam.set_ne _ _ _ (hold i x hx)]; exact hx)) (fun i hi => ?_) (fun i e' hi => ?_) (fun i j b s1 s2 h1 h2 => ?_) (fun b hbo => ?_) (hst.below.trans (hb.mono hsz)) (.row (Gam.set_self _ _ _) (fun g s e => by injection e with e; injection e with e e2)) (fun b hno hlt => ⟨hb.block b hlt, fun ho' => by
    rcases hown' b ho' with h | h
    · have := (hvb b h).1; omega
    · exact hno h⟩) (fun h => absurd (hdr0.symm.trans h) (by simp))
  · have hid : i ≠ d := fun e => by subst e; simp [lkE] at hi
    exact ⟨Gam.set_ne _ _ _ hid, fun g' s' hg' => hb.block g' (hst.ge g' ⟨i, s', hg'⟩).2⟩
  · have hid : i = d := by
      simp only [lkE] at hi
      cases hbq : Nat.beq d i with
      | true => exact (Nat.eq_of_beq_eq_true hbq).symm
      | false => rw [hbq] at hi; cases hi
    subst hid
    simp only [lkE, Nat.beq_refl, Option.some.injEq] at hi
    subst hi
    refine ⟨_, Gam.set_self _ _ _, v, us, rfl, slice_one hown, ⟨hown.1, hown.2.elim Or.inl (fun ⟨g, cap, cur, hv, hg, r⟩ => Or.inr ⟨g, cap, cur, hv, Nat.le_trans hsz hg, r⟩)⟩, hlen, fun k hk j hj => ?_, hone⟩
    refine (hre k hk j hj).mono (Nat.le_refl _) (fun b hS hlt => ⟨rfl, ?_⟩)
    obtain ⟨hS1, hS2⟩ := hS
    rcases hS1 with hS1 | hS1
    · rcases hS1 with hS1 | ⟨h1, h2⟩
      · exact Or.inl hS1
      · refine Or.inr ⟨h1, fun ho' => ?_⟩
        rcases hown' b ho' with h | h
        · exact hS2 h
        · exact h2 h
    · refine Or.inr ⟨⟨Nat.le_trans hsz hS1, fun h0 => by have := hst.gh _ h0; omega⟩, fun ho' => ?_⟩
      rcases hown' b ho' with h | h
      · exact hS2 h
      · have := (hst.ge b h).2; omega
  · by_cases h1' : i = d
    · by_cases h2' : j = d
      · rw [h1', h2']
      · subst h1'
        rw [show γ' i = _ from Gam.set_self _ _ _] at h1
        rw [show γ' j = _ from Gam.set_ne _ _ _ h2'] at h2
        injection h1 with h1; injection h1 with h1; injection h1 with h1 _
        have := (hst.ge b ⟨j, s2, h2⟩).2
        have := (hvb b h1).1
        omega
    · by_cases h2' : j = d
      · subst h2'
        rw [show γ' j = _ from Gam.set_self _ _ _] at h2
        rw [show γ' i = _ from Gam.set_ne _ _ _ h1'] at h1
        injection h2 with h2; injection h2 with h2; injection h2 with h2 _
        have := (hst.ge b ⟨i, s1, h1⟩).2
        have := (hvb b h2).1
        omega
      · rw [show γ' i = _ from Gam.set_ne _ _ _ h1'] at h1
        rw [show γ' j = _ from Gam.set_ne _ _ _ h2'] at h2
        exact hst.inj i j b s1 s2 h1 h2
  · rcases hown' b hbo with h | h
    · have := hvb b h; exact ⟨⟨Nat.le_trans hsz this.1, fun h0 => by have := hst.gh _ h0; omega⟩, this.2⟩
    · exact ⟨(hst.ge b h).1, Nat.lt_of_lt_of_le (hst.ge b h).2 hb.size⟩
end
end Go.Proofs.Ytdbapaofibgfcaa
