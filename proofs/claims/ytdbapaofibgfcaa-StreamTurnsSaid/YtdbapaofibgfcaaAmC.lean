/- The abstract walk, third part: statements, and what an operation is asked. -/
import Derived.Test.YtdbapaofibgfcaaAmB
set_option linter.unusedVariables false
set_option linter.unusedSimpArgs false
namespace Go.Proofs.Ytdbapaofibgfcaa
open Go.RowKit

/-- σ says at least what τ says. -/
def Le (cx : Cx) (σ τ : AS) : Prop := ∀ a w, St cx σ a w → St cx τ a w
theorem Le.refl (cx : Cx) (σ : AS) : Le cx σ σ := fun _ _ h => h
theorem Le.trans {cx : Cx} {a b c : AS} (h : Le cx a b) (k : Le cx b c) : Le cx a c := fun _ _ s => k _ _ (h _ _ s)

def lift (cx : Cx) (Q : Exit → AS → Prop) : Exit → Act → World → Prop := fun e a w => ∃ σ, Q e σ ∧ St cx σ a w
def WP (cx : Cx) (c : Code) (Q : Exit → AS → Prop) (σ : AS) : Prop := ∀ a w, St cx σ a w → c.wp cx.P (lift cx Q) a w
def thenA (next : AS → Prop) (Q : Exit → AS → Prop) : Exit → AS → Prop
  | .normal, σ => next σ
  | e, σ => Q e σ
def inBlockA (id : Nat) (Q : Exit → AS → Prop) : Exit → AS → Prop
  | .exit id', σ => if id' = id then Q .normal σ else Q (.exit id') σ
  | e, σ => Q e σ

theorem exists_least (p : Nat → Prop) (h : ∃ n, p n) : ∃ n, p n ∧ ∀ m, p m → n ≤ m := by
  obtain ⟨n, hn⟩ := h
  induction n using Nat.strongRecOn with
  | _ n ih =>
    by_cases hm : ∃ m, m < n ∧ p m
    · obtain ⟨m, h1, h2⟩ := hm; exact ih m h1 h2
    · exact ⟨n, hn, fun m h2 => Nat.le_of_not_lt fun h1 => hm ⟨m, h1, h2⟩⟩

section
variable {cx : Cx} {Q : Exit → AS → Prop} {σ τ : AS}
theorem WP.weaken {c : Code} (h : Le cx σ τ) (k : WP cx c Q τ) : WP cx c Q σ := fun a w hs => k a w (h a w hs)
theorem WP.mono {c : Code} {Q' : Exit → AS → Prop} (h : WP cx c Q σ) (k : ∀ e σ, Q e σ → Q' e σ) : WP cx c Q' σ := fun a w hs => wp_mono (h a w hs) (fun e a w ⟨σ, h1, h2⟩ => ⟨σ, k e σ h1, h2⟩)
theorem WP.skip (h : Q .normal σ) : WP cx .skip Q σ := fun a w hs => wp_skip ⟨σ, h, hs⟩
theorem WP.ret (h : Q .ret σ) : WP cx .ret Q σ := fun a w hs => wp_ret ⟨σ, h, hs⟩
theorem WP.exit {id : Nat} (h : Q (.exit id) σ) : WP cx (.exit id) Q σ := fun a w hs => wp_exit ⟨σ, h, hs⟩
theorem WP.seq {x y : Code} (h : WP cx x (thenA (WP cx y Q) Q) σ) : WP cx (.seq x y) Q σ := fun a w hs => by
  refine wp_seq (wp_mono (h a w hs) (fun e a w ⟨τ, h1, h2⟩ => ?_))
  cases e with
  | normal => exact h1 a w h2
  | _ => exact ⟨τ, h1, h2⟩
theorem WP.block {id : Nat} {c : Code} (h : WP cx c (inBlockA id Q) σ) : WP cx (.block id c) Q σ := fun a w hs => by
  refine wp_block (wp_mono (h a w hs) (fun e a w ⟨τ, h1, h2⟩ => ?_))
  cases e with
  | exit id' =>
    simp only [inBlockA] at h1
    simp only [Exit.inBlock]
    by_cases hid : id' = id
    · rw [if_pos hid] at h1 ⊢; exact ⟨τ, h1, h2⟩
    · rw [if_neg hid] at h1 ⊢; exact ⟨τ, h1, h2⟩
  | _ => exact ⟨τ, h1, h2⟩
theorem WP.loop {c : Code} (I : Nat → AS → Prop) (n : Nat) (h0 : I n σ) (round : ∀ n σ, I n σ → WP cx c (thenA (fun σ' => ∃ m, m < n ∧ I m σ') Q) σ) : WP cx (.loop c) Q σ := fun a w hs => by
  classical
  let R : Act → World → Nat → Prop := fun a w n => ∃ σ, I n σ ∧ St cx σ a w
  let μ : Act → World → Nat := fun a w => if h : ∃ n, R a w n then Classical.choose (exists_least _ h) else 0
  refine wp_loop (fun a w => ∃ n, R a w n) μ ⟨n, σ, h0, hs⟩ (fun a w hI => ?_)
  have hμ : μ a w = Classical.choose (exists_least _ hI) := dif_pos hI
  obtain ⟨τ, hIτ, hst⟩ := (Classical.choose_spec (exists_least _ hI)).1
  refine wp_mono (round _ τ hIτ a w hst) (fun e a' w' ⟨τ', h1, h2⟩ => ?_)
  cases e with
  | normal =>
    obtain ⟨m, hm, hI'⟩ := h1
    have hex : ∃ n, R a' w' n := ⟨m, τ', hI', h2⟩
    refine ⟨hex, ?_⟩
    have hle : μ a' w' ≤ m := by
      show (if h : ∃ n, R a' w' n then Classical.choose (exists_least _ h) else 0) ≤ m
      rw [dif_pos hex]
      exact (Classical.choose_spec (exists_least _ hex)).2 m ⟨τ', hI', h2⟩
    omega
  | _ => exact ⟨τ', h1, h2⟩
end

/-- What a literal stands for. -/
def AV.ofV : Value → AV
  | .int k n => .int k n
  | .bool b => .bool b
  | .string s => .str s
  | .pointer none => .nilp
  | .slice none 0 0 => .nils
  | .nilFunc => .nilf
  | .tuple cs => if cs.size = 0 then .tup [] else .any
  | _ => .any
def constV : Value → AV
  | .agg cs => .agg (cs.toList.map AV.ofV)
  | v => AV.ofV v
def AS.eval (σ : AS) : Operand → AV
  | .tmp t => σ.get t
  | .const v => constV v
  | .func f => .fn f []
  | .global _ => .any

theorem rep_ofV (w : World) (S : Nat → Prop) (γ : Gam) (v : Value) : Rep w S γ (AV.ofV v) v := by
  unfold AV.ofV
  split
  · exact .int _ _
  · exact .bool _
  · exact .str _
  · exact .nilp
  · exact .nils
  · exact .nilf
  · rename_i cs
    by_cases h : cs.size = 0
    · rw [if_pos h]
      have : cs = #[] := Array.eq_empty_of_size_eq_zero h
      subst this
      exact .tup #[] rfl (fun i hi => by simp at hi)
    · rw [if_neg h]; exact .any _
  · exact .any _

/-- A literal's cells fit one cell each. -/
def aggOk : Value → Bool
  | .agg cs => cs.all (·.oneCell')
  | _ => true
theorem rep_const (w : World) (S : Nat → Prop) (γ : Gam) (v : Value) (h : aggOk v = true) : Rep w S γ (constV v) v := by
  unfold constV
  split
  · rename_i cs
    refine .agg cs (by simp) (fun i hi => ?_) (fun i hi => ?_)
    · have hi' : i < cs.size := by simpa using hi
      simp only [List.getElem_map, Array.getElem_toList]
      have : cs.getD i undef = cs[i] := by simp [Array.getD, hi']
      rw [this]
      exact rep_ofV w S γ _
    · have : cs.getD i undef = cs[i] := by simp [Array.getD, hi]
      rw [this]
      simp only [aggOk, Array.all_eq_true] at h
      exact h i hi
  · exact rep_ofV w S γ _

def opdOk : Operand → Bool
  | .const v => aggOk v
  | _ => true

section
variable {cx : Cx} {γ : Gam} {σ τ : AS} {a : Act} {w : World}
theorem StG.ev (h : StG cx γ σ a w) (x : Operand) (hx : opdOk x = true) : Rep w (Sg cx.S0 cx.w0.heap.size γ) γ (σ.eval x) (a.eval x) := by
  cases x with
  | tmp t => exact h.tm t
  | const v => exact rep_const _ _ _ _ hx
  | global g => exact .any _
  | func f => exact .fn #[] rfl (fun i hi => by simp at hi)

theorem getD_put (a : Act) (d : Option Nat) (v : Value) (t : Nat) (hd : ∀ x, d = some x → x < a.tmps.size) : (a.put d v).tmps.getD t undef = if d = some t then v else a.tmps.getD t undef := by
  cases d with
  | none => simp [Act.put]
  | some d =>
    have hlt := hd d rfl
    simp only [Act.put, Option.some.injEq]
    by_cases h : d = t
    · subst h; simp [hlt]
    · rw [if_neg h]
      simp [Array.getElem?_setIfInBounds_ne h]
theorem put_size (a : Act) (d : Option Nat) (v : Value) : (a.put d v).tmps.size = a.tmps.size := by cases d <;> simp [Act.put]
theorem put_defers (a : Act) (d : Option Nat) (v : Value) : (a.put d v).defers = a.defers := by cases d <;> rfl

theorem EntRep.move {w' : World} {S S' : Nat → Prop} {γ' : Gam} {B : Nat} {d : Option (Option Nat × Value)} {e : Ent} (h : EntRep w S γ B d e) (hz : w.heap.size ≤ w'.heap.size)
    (hk : ∀ b, S b → b < w.heap.size → w'.heap[b]? = w.heap[b]? ∧ S' b) (hγ : ∀ id d, γ id = some d → γ' id = some d ∨ γ' id = some none) (hblk : ∀ g s, d = some (some g, s) → w'.heap[g]? = w.heap[g]?) : EntRep w' S' γ' B d e := by
  cases e with
  | box ty cells =>
    obtain ⟨g, vs, hd, hb, hs, hr, h1⟩ := h
    exact ⟨g, vs, hd, (hblk g _ hd).trans hb, hs, fun i hi => ((hr i hi).mono hz hk).gam hγ, h1⟩
  | row ty sz xs =>
    obtain ⟨s, vs, hd, h1, hown, hc, hr, ho⟩ := h
    refine ⟨s, vs, hd, h1, ⟨hown.1, hown.2.elim Or.inl (fun ⟨g, cap, cur, hv, hg, hh, r⟩ => Or.inr ⟨g, cap, cur, hv, hg, ?_, r⟩)⟩, hc, fun k hk' j hj => (hr k hk' j hj).mono hz hk, ho⟩
    subst hv
    exact (hblk g _ hd).trans hh
  | mp ps =>
    obtain ⟨g, hd, hm⟩ := h
    exact ⟨g, hd, hm.move hz hk (hblk g _ hd)⟩
  | dead => exact h

/-- The one step from state to state. -/
theorem StG.step (h : StG cx γ σ a w) {w' : World} {γ' : Gam} {dst : Option Nat} {av : AV} {v : Value} {wr : List (Nat × Ent)} (hd : ∀ x, dst = some x → x < cx.nt) (hz : w.heap.size ≤ w'.heap.size)
    (hk : ∀ b, Sg cx.S0 cx.w0.heap.size γ b → b < w.heap.size → w'.heap[b]? = w.heap[b]? ∧ Sg cx.S0 cx.w0.heap.size γ' b)
    (hγ : ∀ id d, γ id = some d → γ' id = some d ∨ γ' id = some none)
    (hsame : ∀ id, lkE wr id = none → γ' id = γ id ∧ ∀ g s, γ id = some (some (some g, s)) → w'.heap[g]? = w.heap[g]?)
    (hnew : ∀ id e, lkE wr id = some e → ∃ x, γ' id = some x ∧ EntRep w' (Sg cx.S0 cx.w0.heap.size γ') γ' cx.w0.heap.size x e)
    (hinj : ∀ id id' b s s', γ' id = some (some (some b, s)) → γ' id' = some (some (some b, s')) → id = id')
    (hge : ∀ b, own γ' b → Nw cx.S0 cx.w0.heap.size b ∧ b < w'.heap.size) (hb : Below cx.w0.heap.size cx.w0 w')
    (hv : Rep w' (Sg cx.S0 cx.w0.heap.size γ') γ' av v) (hk0 : ∀ b, ¬ own γ b → b < w.heap.size → w'.heap[b]? = w.heap[b]? ∧ ¬ own γ' b) (hdr : cx.E.dr = true → w.drawn ≤ w'.drawn) : StG cx γ' (σ.upd dst av wr) (a.put dst v) w' := by
  refine ⟨fun t => ?_, fun id => ?_, hinj, hge, hb, by rw [put_size]; exact h.size, by rw [put_defers]; exact h.defers, fun b hb => Nat.lt_of_lt_of_le (h.gh b hb) hz, fun b hb => ?_, fun hd => Nat.le_trans (h.dr hd) (hdr hd)⟩
  rotate_right
  · obtain ⟨f2, f3, f4⟩ := h.fr b hb
    obtain ⟨k1, k2⟩ := hk0 b f2 f3
    exact ⟨k2, Nat.lt_of_lt_of_le f3 hz, k1.trans f4⟩
  · rw [AS.get_upd, getD_put a dst v t (fun x hx => by rw [h.size]; exact hd x hx)]
    by_cases ht : dst = some t
    · rw [if_pos ht, if_pos ht]; exact hv
    · rw [if_neg ht, if_neg ht]; exact ((h.tm t).mono hz hk).gam hγ
  · rw [AS.find_upd]
    cases hw : lkE wr id with
    | some e => exact hnew id e hw
    | none =>
      rw [Option.none_or]
      obtain ⟨h1, h2⟩ := hsame id hw
      rw [h1]
      have := h.me id
      cases hf : σ.find id with
      | none => rw [hf] at this; exact this
      | some e =>
        rw [hf] at this
        obtain ⟨x, hx, he⟩ := this
        exact ⟨x, hx, he.move hz hk hγ (fun g s hxs => h2 g s (by rw [hx, hxs]))⟩

/-- A value, the world as it was. -/
theorem StG.put (h : StG cx γ σ a w) {dst : Option Nat} {av : AV} {v : Value} (hd : ∀ x, dst = some x → x < cx.nt) (hv : Rep w (Sg cx.S0 cx.w0.heap.size γ) γ av v) : StG cx γ (σ.upd dst av []) (a.put dst v) w :=
  h.step hd (Nat.le_refl _) (fun b hb _ => ⟨rfl, hb⟩) (fun id d hd => Or.inl hd) (fun id _ => ⟨rfl, fun _ _ _ => rfl⟩) (fun id e he => by simp [lkE] at he) h.inj h.ge h.below hv (fun b hb _ => ⟨rfl, hb⟩) (fun _ => Nat.le_refl _)
/-- New memory without a name, and draws. -/
theorem StG.grow (h : StG cx γ σ a w) {w' : World} {dst : Option Nat} {av : AV} {v : Value} (hd : ∀ x, dst = some x → x < cx.nt) (hb : Below w.heap.size w w') (hdr : cx.E.dr = true → w.drawn ≤ w'.drawn) (hv : Rep w' (Sg cx.S0 cx.w0.heap.size γ) γ av v) : StG cx γ (σ.upd dst av []) (a.put dst v) w' := by
  refine h.step hd hb.size (fun b hS hlt => ⟨hb.block b hlt, hS⟩) (fun id d hd => Or.inl hd) (fun id _ => ⟨rfl, fun g s hg => hb.block g (h.ge g ⟨id, s, hg⟩).2⟩) (fun id e he => by simp [lkE] at he) h.inj
    (fun b hb' => ⟨(h.ge b hb').1, Nat.lt_of_lt_of_le (h.ge b hb').2 hb.size⟩) (h.below.trans (hb.mono h.below.size)) hv (fun b hno hlt => ⟨hb.block b hlt, hno⟩) hdr

/-- γ, with one name more. -/
def Gam.set (γ : Gam) (id : Nat) (x : Option (Option Nat × Value)) : Gam := fun i => if i = id then some x else γ i
theorem Gam.set_self (γ : Gam) (id : Nat) (x : Option (Option Nat × Value)) : γ.set id x id = some x := by simp [Gam.set]
theorem Gam.set_ne (γ : Gam) (id : Nat) (x : Option (Option Nat × Value)) {i : Nat} (h : i ≠ id) : γ.set id x i = γ i := by simp [Gam.set, h]

/-- A new block with a name. -/
theorem StG.name (h : StG cx γ σ a w) {w' : World} {dst : Option Nat} {av : AV} {v : Value} {id g : Nat} {e : Ent} {s : Value} (hd : ∀ x, dst = some x → x < cx.nt) (hn : σ.find id = none) (hb : Below w.heap.size w w') (hg : w.heap.size ≤ g) (hg' : g < w'.heap.size)
    (he : EntRep w' (Sg cx.S0 cx.w0.heap.size (γ.set id (some (some g, s)))) (γ.set id (some (some g, s))) cx.w0.heap.size (some (some g, s)) e)
    (hv : Rep w' (Sg cx.S0 cx.w0.heap.size (γ.set id (some (some g, s)))) (γ.set id (some (some g, s))) av v) (hdr : cx.E.dr = true → w.drawn ≤ w'.drawn := by exact fun _ => Nat.le_refl _) : StG cx (γ.set id (some (some g, s))) (σ.upd dst av [(id, e)]) (a.put dst v) w' := by
  have hγid : γ id = none := by have := h.me id; rw [hn] at this; exact this
  have hold : ∀ i x, γ i = some x → i ≠ id := fun i x hx e => by subst e; rw [hγid] at hx; cases hx
  refine h.step hd hb.size (fun b hS hlt => ⟨hb.block b hlt, ?_⟩) (fun i x hx => Or.inl ?_) (fun i hi => ?_) (fun i e' hi => ?_) (fun i j b s1 s2 h1 h2 => ?_) (fun b hbo => ?_) (h.below.trans (hb.mono h.below.size)) hv (fun b hno hlt => ⟨hb.block b hlt, fun ⟨i, s', hi⟩ => ?_⟩) hdr
  rotate_right
  · by_cases hid : i = id
    · subst hid; rw [Gam.set_self] at hi; injection hi with hi; injection hi with hi; injection hi with hi _; injection hi with hi; omega
    · rw [Gam.set_ne _ _ _ hid] at hi; exact hno ⟨i, s', hi⟩
  · rcases hS with hS | ⟨h1, h2⟩
    · exact Or.inl hS
    · refine Or.inr ⟨h1, fun ⟨i, s', hi⟩ => ?_⟩
      by_cases hid : i = id
      · subst hid; rw [Gam.set_self] at hi; injection hi with hi; injection hi with hi; injection hi with hi _; injection hi with hi; omega
      · rw [Gam.set_ne _ _ _ hid] at hi; exact h2 ⟨i, s', hi⟩
  · rw [Gam.set_ne _ _ _ (hold i x hx)]; exact hx
  · have hid : i ≠ id := fun e => by subst e; simp [lkE] at hi
    refine ⟨Gam.set_ne _ _ _ hid, fun g' s' hg' => hb.block g' (h.ge g' ⟨i, s', hg'⟩).2⟩
  · have hid : i = id := by
      simp only [lkE] at hi
      cases hbq : Nat.beq id i with
      | true => exact (Nat.eq_of_beq_eq_true hbq).symm
      | false => rw [hbq] at hi; cases hi
    subst hid
    simp only [lkE, Nat.beq_refl, Option.some.injEq] at hi
    subst hi
    exact ⟨_, Gam.set_self _ _ _, he⟩
  · by_cases h1' : i = id
    · by_cases h2' : j = id
      · rw [h1', h2']
      · subst h1'
        rw [Gam.set_self] at h1
        rw [Gam.set_ne _ _ _ h2'] at h2
        injection h1 with h1; injection h1 with h1; injection h1 with h1 _; injection h1 with h1
        have := (h.ge b ⟨j, s2, h2⟩).2
        omega
    · by_cases h2' : j = id
      · subst h2'
        rw [Gam.set_self] at h2
        rw [Gam.set_ne _ _ _ h1'] at h1
        injection h2 with h2; injection h2 with h2; injection h2 with h2 _; injection h2 with h2
        have := (h.ge b ⟨i, s1, h1⟩).2
        omega
      · rw [Gam.set_ne _ _ _ h1'] at h1
        rw [Gam.set_ne _ _ _ h2'] at h2
        exact h.inj i j b s1 s2 h1 h2
  · obtain ⟨i, s', hi⟩ := hbo
    by_cases h1' : i = id
    · subst h1'
      rw [Gam.set_self] at hi
      injection hi with hi; injection hi with hi; injection hi with hi _; injection hi with hi
      have := h.below.size
      subst hi
      exact ⟨⟨by omega, fun h0 => by have := h.gh _ h0; omega⟩, hg'⟩
    · rw [Gam.set_ne _ _ _ h1'] at hi
      have := h.ge b ⟨i, s', hi⟩
      exact ⟨this.1, Nat.lt_of_lt_of_le this.2 hb.size⟩
end

/-- An operation, met in a state that is as σ in its operands and in the blocks named. -/
def OpRule (cx : Cx) (o : Oper) (σ : AS) (av : AV) (ids : List Nat) (wr : List (Nat × Ent)) : Prop :=
  (∀ id e, lkE wr id = some e → id ∈ ids) ∧
  ∀ τ : AS, (∀ x ∈ o.op.operands, τ.eval x = σ.eval x) → (∀ id ∈ ids, τ.find id = σ.find id) → ∀ a w Q K, St cx τ a w → (∀ a' w', St cx (τ.upd o.dst av wr) a' w' → K a' w') → o.wp cx.P a w K Q
def dok (cx : Cx) (o : Oper) : Bool := match o.dst with | some d => Nat.blt d cx.nt | none => true
theorem dok_iff {cx : Cx} {o : Oper} (h : dok cx o = true) : ∀ x, o.dst = some x → x < cx.nt := fun x hx => by
  unfold dok at h; rw [hx] at h; simpa using h

theorem OpRule.step {cx : Cx} {ops : Array Oper} {i : Nat} {o : Oper} {σ : AS} {av : AV} {ids : List Nat} {wr : List (Nat × Ent)} (ho : ops[i]? = some o) (hg : o.guard = none) (h : OpRule cx o σ av ids wr) : Step cx ops i σ ⟨av, ids, wr⟩ := by
  refine ⟨h.1, fun τ h1 h2 a w Q K hst hK => ?_⟩
  have hd : dstOf ops i = o.dst := by simp [dstOf, ho]
  have hl : looks ops i = o.looksAt ops := by simp [looks, ho]
  unfold wpOp
  simp only [ho]
  rw [if_pos (by simp [Region.wanted, hg])]
  refine Or.inl (h.2 τ (fun x hx => ?_) h2 a w Q K hst (by rw [hd] at hK; exact hK))
  cases x with
  | tmp t =>
    refine h1 t ?_
    rw [hl]
    exact List.mem_append_left _ (List.mem_filterMap.2 ⟨.tmp t, by simpa using hx, rfl⟩)
  | _ => rfl
theorem OpRule.step_guard {cx : Cx} {ops : Array Oper} {i g t : Nat} {c want : Bool} {o : Oper} {σ : AS} {av : AV} {ids : List Nat} {wr : List (Nat × Ent)} (ho : ops[i]? = some o) (hg : o.guard = some (g, want)) (ht : dstOf ops g = some t) (hv : σ.get t = .bool c) (hc : c = want)
    (h : OpRule cx o σ av ids wr) : Step cx ops i σ ⟨av, ids, wr⟩ := by
  refine ⟨h.1, fun τ h1 h2 a w Q K hst hK => ?_⟩
  have hd : dstOf ops i = o.dst := by simp [dstOf, ho]
  have hl : looks ops i = o.looksAt ops := by simp [looks, ho]
  have htl : t ∈ looks ops i := by
    rw [hl]
    refine List.mem_append_right _ ?_
    simp only [hg]
    have : (ops[g]?).bind (·.dst) = some t := ht
    simp [this]
  have hval : a.tmps.getD t undef = .bool c := by
    obtain ⟨γ, hs⟩ := hst
    have := hs.tm t
    rw [h1 t htl, hv] at this
    exact this.bool_inv
  unfold wpOp
  simp only [ho]
  have hw : Region.wanted o (yielded ops a.tmps) = true := by
    have ht' : (ops[g]?).bind (·.dst) = some t := ht
    simp only [Region.wanted, hg, yielded]
    rw [ht']
    rw [Array.getD_eq_getD_getElem?] at hval
    cases hq : a.tmps[t]? with
    | none => rw [hq] at hval; simp [undef] at hval
    | some u => rw [hq] at hval; simp at hval; subst hval; simp [hq, hc]
  rw [if_pos hw]
  refine Or.inl (h.2 τ (fun x hx => ?_) h2 a w Q K hst (by rw [hd] at hK; exact hK))
  cases x with
  | tmp t =>
    refine h1 t ?_
    rw [hl]
    exact List.mem_append_left _ (List.mem_filterMap.2 ⟨.tmp t, by simpa using hx, rfl⟩)
  | _ => rfl
/-- The operation is passed over. -/
theorem step_skipped {cx : Cx} {ops : Array Oper} {i g t : Nat} {want : Bool} {o : Oper} {σ : AS} (ho : ops[i]? = some o) (hok : dok cx o = true) (hg : o.guard = some (g, want)) (ht : dstOf ops g = some t) (hv : (∃ c, σ.get t = .bool c ∧ c ≠ want) ∨ σ.get t = .tup []) : Step cx ops i σ ⟨.tup [], [], []⟩ := by
  refine ⟨fun id e he => by simp [lkE] at he, fun τ h1 h2 a w Q K hst hK => ?_⟩
  have hd : dstOf ops i = o.dst := by simp [dstOf, ho]
  have hl : looks ops i = o.looksAt ops := by simp [looks, ho]
  have ht' : (ops[g]?).bind (·.dst) = some t := ht
  have htl : t ∈ looks ops i := by
    rw [hl]
    refine List.mem_append_right _ ?_
    simp only [hg]
    simp [ht']
  obtain ⟨γ, hs⟩ := hst
  have htm := hs.tm t
  rw [h1 t htl] at htm
  unfold wpOp
  simp only [ho]
  have hw : ¬ Region.wanted o (yielded ops a.tmps) = true := by
    simp only [Region.wanted, hg, yielded]
    rw [ht']
    rcases hv with ⟨c, hc, hne⟩ | hc
    · rw [hc] at htm
      have := htm.bool_inv
      rw [Array.getD_eq_getD_getElem?] at this
      cases hq : a.tmps[t]? with
      | none => simp [hq]
      | some u => rw [hq] at this; simp at this; subst this; simp [hq, hne]
    · rw [hc] at htm
      obtain ⟨vs, hvs, _, _⟩ := htm.tup_inv
      rw [Array.getD_eq_getD_getElem?] at hvs
      cases hq : a.tmps[t]? with
      | none => simp [hq]
      | some u => rw [hq] at hvs; simp at hvs; subst hvs; simp [hq]
  rw [if_neg hw]
  refine hK _ _ ⟨γ, ?_⟩
  rw [hd]
  exact hs.put (dok_iff hok) (.tup #[] rfl (fun i hi => by simp at hi))

/-- From operation i on: what Post asks of the traces (in the text's order) and of the last state. -/
def Exec (cx : Cx) (ops : Array Oper) (i : Nat) (σ : AS) (trs : List Tr) (Post : List Tr → AS → Prop) : Prop := ∃ trs' σ', Run cx ops i σ trs' σ' ∧ Post (trs.reverse ++ trs') σ'
section
variable {cx : Cx} {ops : Array Oper} {i : Nat} {σ : AS} {trs : List Tr} {Post : List Tr → AS → Prop}
theorem Exec.done (h : ops.size ≤ i) (hp : Post trs.reverse σ) : Exec cx ops i σ trs Post := ⟨[], σ, .done h (Ext.refl _), by simpa using hp⟩
theorem Exec.cons {tr : Tr} (h : i < ops.size) (hs : Step cx ops i σ tr) (k : Exec cx ops (i + 1) (σ.upd (dstOf ops i) tr.val tr.wr) (tr :: trs) Post) : Exec cx ops i σ trs Post := by
  obtain ⟨trs', σ', hr, hp⟩ := k
  exact ⟨tr :: trs', σ', .step h hs (Ext.refl _) hr, by simpa using hp⟩
theorem Exec.ext {σ' : AS} (h : Ext σ' σ) (k : Exec cx ops i σ' trs Post) : Exec cx ops i σ trs Post := by
  obtain ⟨trs', τ, hr, hp⟩ := k
  have hs : Ext σ σ' := ⟨fun t => (h.1 t).symm, fun i => (h.2 i).symm⟩
  cases hr with
  | done hle hx => exact ⟨[], τ, .done hle (hx.trans h), hp⟩
  | step hlt hst hx hr => exact ⟨_, τ, .step hlt (hst.ext hs) (hx.trans (h.upd _ _ _)) hr, hp⟩
theorem Exec.op {o : Oper} {av : AV} {ids : List Nat} {wr : List (Nat × Ent)} (ho : ops[i]? = some o) (hg : o.guard = none) (h : OpRule cx o σ av ids wr) (k : Exec cx ops (i + 1) (σ.upd o.dst av wr) (⟨av, ids, wr⟩ :: trs) Post) : Exec cx ops i σ trs Post :=
  Exec.cons (Array.getElem?_eq_some_iff.1 ho).1 (OpRule.step ho hg h) (by
    have hd : dstOf ops i = o.dst := by simp [dstOf, ho]
    rw [hd]; exact k)
theorem Exec.guard {g t : Nat} {c want : Bool} {o : Oper} (ho : ops[i]? = some o) (hg : o.guard = some (g, want)) (ht : dstOf ops g = some t) (hv : σ.get t = .bool c) (hok : dok cx o = true)
    (h1 : c = want → ∃ av ids wr, OpRule cx o σ av ids wr ∧ Exec cx ops (i + 1) (σ.upd o.dst av wr) (⟨av, ids, wr⟩ :: trs) Post)
    (h2 : c ≠ want → Exec cx ops (i + 1) (σ.upd o.dst (.tup []) []) (⟨.tup [], [], []⟩ :: trs) Post) : Exec cx ops i σ trs Post := by
  have hd : dstOf ops i = o.dst := by simp [dstOf, ho]
  by_cases hc : c = want
  · obtain ⟨av, ids, wr, hr, k⟩ := h1 hc
    exact Exec.cons (Array.getElem?_eq_some_iff.1 ho).1 (OpRule.step_guard ho hg ht hv hc hr) (by rw [hd]; exact k)
  · exact Exec.cons (Array.getElem?_eq_some_iff.1 ho).1 (step_skipped ho hok hg ht (Or.inl ⟨c, hv, hc⟩)) (by rw [hd]; exact h2 hc)
theorem Exec.passed {g t : Nat} {want : Bool} {o : Oper} (ho : ops[i]? = some o) (hg : o.guard = some (g, want)) (ht : dstOf ops g = some t) (hv : σ.get t = .tup []) (hok : dok cx o = true)
    (k : Exec cx ops (i + 1) (σ.upd o.dst (.tup []) []) (⟨.tup [], [], []⟩ :: trs) Post) : Exec cx ops i σ trs Post := by
  have hd : dstOf ops i = o.dst := by simp [dstOf, ho]
  exact Exec.cons (Array.getElem?_eq_some_iff.1 ho).1 (step_skipped ho hok hg ht (Or.inr hv)) (by rw [hd]; exact k)
end

section
variable {cx : Cx} {Q : Exit → AS → Prop} {σ : AS} {id : Nat} {ops : Array Oper}
theorem WP.region (h : Exec cx ops 0 σ [] (fun _ σ' => Q .normal σ')) : WP cx (.region id ops false) Q σ := fun a w hs => by
  obtain ⟨trs, σ', hr, hp⟩ := h
  refine wp_region ?_
  have := hr.wpOps (Q := lift cx Q) (fun a w hs => ⟨σ', hp, hs⟩) (Nat.zero_le _) a w hs
  rw [List.range_eq_range']
  simpa using this
theorem WP.region_draw (he : edgesOk ops = true) (h : Exec cx ops 0 σ [] (fun trs σ' => cfree ops trs = true ∧ Q .normal σ')) : WP cx (.region id ops true) Q σ := fun a w hs => by
  obtain ⟨trs, σ', hr, hc, hp⟩ := h
  simp only [List.reverse_nil, List.nil_append] at hc hp
  refine wp_region_any cx.E.mixed ?_
  obtain ⟨h1, h2⟩ := hr.steps (σ0 := σ) (tr := fun k => trs.getD k default) (Nat.zero_le _) (fun j _ => by simp) (Ext.refl _)
  refine wpAny_of (fun j hj => h1 j (Nat.zero_le _) hj) (fun i j hij hj hcl => ?_) (fun j o ho e he' hb => ?_) (fun a w hs => ⟨σ', hp, hs.congr h2.1 h2.2⟩) ops.size _ (by simp) (by simp) (fun j o _ hj => by
    simp only [Array.getD_eq_getD_getElem?, Array.getElem?_replicate] at hj
    split at hj <;> simp at hj) a _ ?_
  · simp only [cfree, List.all_eq_true, List.mem_range, Bool.or_eq_true, Bool.not_eq_true'] at hc
    rcases hc j hj i hij with h | h
    · rw [hcl] at h; cases h
    · exact h
  · simp only [edgesOk, List.all_eq_true, List.mem_range] at he
    have := he j (Array.getElem?_eq_some_iff.1 ho).1
    rw [ho] at this
    simp only [Array.all_eq_true_iff_forall_mem, Bool.or_eq_true, Bool.not_eq_true'] at this
    rcases this e he' with h | h
    · rw [hb] at h; cases h
    · simpa using h
  · have hs' : St cx σ a { w with drawn := w.drawn + 1 } := by
      obtain ⟨γ, hs⟩ := hs
      have hbl : Below w.heap.size w { w with drawn := w.drawn + 1 } := ⟨rfl, rfl, rfl, Nat.le_refl _, fun _ _ => rfl⟩
      have := hs.grow (dst := none) (av := .any) (v := undef) (fun x hx => by cases hx) hbl (fun _ => Nat.le_succ _) (.any _)
      exact ⟨γ, this⟩
    refine hs'.congr (fun t => ?_) (fun i => ?_)
    · have : ∀ k, (foldX (dstOf ops) (fun k => trs.getD k default) (fun i => (Array.replicate ops.size false).getD i false) σ k).get t = σ.get t := fun k =>
        getX_later _ _ 0 k t (Nat.zero_le _) (fun j _ _ _ => by simp only [Array.getD_eq_getD_getElem?, Array.getElem?_replicate]; split <;> simp)
      exact this _
    · have : ∀ k, (foldX (dstOf ops) (fun k => trs.getD k default) (fun i => (Array.replicate ops.size false).getD i false) σ k).find i = σ.find i := fun k =>
        findX_later _ _ 0 k i (Nat.zero_le _) (fun j _ _ _ => by simp only [Array.getD_eq_getD_getElem?, Array.getElem?_replicate]; split <;> simp)
      exact this _
theorem WP.cond {c : Operand} {x y : Code} {b : Bool} (hok : opdOk c = true) (hc : σ.eval c = .bool b) (ht : b = true → WP cx x Q σ) (hf : b = false → WP cx y Q σ) : WP cx (.cond c x y) Q σ := fun a w hs => by
  obtain ⟨γ, h⟩ := hs
  have he := h.ev c hok
  rw [hc] at he
  exact wp_cond_split he.bool_inv (fun h' => ht h' a w ⟨γ, h⟩) (fun h' => hf h' a w ⟨γ, h⟩)
end
end Go.Proofs.Ytdbapaofibgfcaa
