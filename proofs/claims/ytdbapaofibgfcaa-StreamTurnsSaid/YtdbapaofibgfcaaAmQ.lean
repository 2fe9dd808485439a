/- The abstract walk, after its evaluator: rows given up everywhere; contracts whose result holds a row. -/
import Derived.Test.YtdbapaofibgfcaaAmN
set_option linter.unusedVariables false
set_option linter.unusedSimpArgs false
namespace Go.Proofs.Ytdbapaofibgfcaa
open Go.RowKit

def Ent.frz (r sz : Nat) (xs : List AV) : Ent → Ent
  | .box ty cs => .box ty (AV.frzL r sz xs cs)
  | e => e
def AS.frzAll (σ : AS) (r sz : Nat) (xs : List AV) : AS := ⟨σ.tm.map fun p => (p.1, p.2.frz r sz xs), (r, .dead) :: σ.me.map fun p => (p.1, p.2.frz r sz xs)⟩
theorem lkV_map (g : AV → AV) (h : g .any = .any) (l : List (Nat × AV)) (t : Nat) : lkV (l.map fun p => (p.1, g p.2)) t = g (lkV l t) := by
  induction l with
  | nil => simp [lkV, h]
  | cons p l ih =>
    obtain ⟨u, x⟩ := p
    simp only [List.map_cons, lkV]
    cases Nat.beq u t <;> simp [ih]
theorem lkE_map (g : Ent → Ent) (l : List (Nat × Ent)) (t : Nat) : lkE (l.map fun p => (p.1, g p.2)) t = (lkE l t).map g := by
  induction l with
  | nil => simp [lkE]
  | cons p l ih =>
    obtain ⟨u, x⟩ := p
    simp only [List.map_cons, lkE]
    cases Nat.beq u t <;> simp [ih]
/-- An own row is no longer written: from here on it is a slice like any other, wherever it is named. -/
theorem LeX.frzAll {E : Env} {nt : Nat} {σ : AS} (r ty sz : Nat) (xs : List AV) (hr : σ.find r = some (.row ty sz xs)) : LeX E nt σ (σ.frzAll r sz xs) := fun cx hE hn a w ⟨γ, h⟩ => by
  have hme := h.me r
  rw [hr] at hme
  obtain ⟨d, hd, he⟩ := hme
  have hown : ∀ b, own (γ.set r none) b → own γ b ∧ ∀ s, γ r ≠ some (some (some b, s)) := fun b ⟨i, s, hi⟩ => by
    by_cases hir : i = r
    · subst hir; rw [Gam.set_self] at hi; cases hi
    · rw [Gam.set_ne _ _ _ hir] at hi
      exact ⟨⟨i, s, hi⟩, fun s' hs' => hir (h.inj _ _ _ _ _ hi hs')⟩
  have hS : ∀ b, Sg cx.S0 cx.w0.heap.size γ b → Sg cx.S0 cx.w0.heap.size (γ.set r none) b := fun b hb => hb.elim Or.inl (fun ⟨h1, h2⟩ => Or.inr ⟨h1, fun ho => h2 (hown b ho).1⟩)
  have hg : ∀ i x, γ i = some x → γ.set r none i = some x ∨ γ.set r none i = some none := fun i x hx => by
    by_cases hir : i = r
    · subst hir; exact Or.inr (Gam.set_self _ _ _)
    · exact Or.inl (by rw [Gam.set_ne _ _ _ hir]; exact hx)
  obtain ⟨s, hs, hrr⟩ := row_sl (S' := Sg cx.S0 cx.w0.heap.size (γ.set r none)) he (fun b hb _ => hS b hb) (fun s g hg => Or.inr ⟨(h.ge g ⟨r, s, by rw [hd, hg]⟩).1, fun ho => (hown g ho).2 s (by rw [hd, hg])⟩) (γ.set r none)
  have mv : ∀ {av v}, Rep w (Sg cx.S0 cx.w0.heap.size γ) γ av v → Rep w (Sg cx.S0 cx.w0.heap.size (γ.set r none)) (γ.set r none) (av.frz r sz xs) v := fun hv =>
    (hv.mono (Nat.le_refl _) (fun b hb _ => ⟨rfl, hS b hb⟩)).frz (fun i x hi hx => by rw [Gam.set_ne _ _ _ hi]; exact hx) hd (Gam.set_self _ _ _) (fun v hv => by rw [hv _ _ hs]; exact hrr)
  refine ⟨γ.set r none, fun u => ?_, fun i => ?_, fun i j b s s' hi hj => ?_, fun b hb => h.ge b (hown b hb).1, h.below, h.size, h.defers, h.gh, fun b hb => by obtain ⟨f2, f3, f4⟩ := h.fr b hb; exact ⟨fun ho => f2 (hown b ho).1, f3, f4⟩, h.dr⟩
  · have e : (σ.frzAll r sz xs).get u = (σ.get u).frz r sz xs := lkV_map _ rfl _ _
    rw [e]
    exact mv (h.tm u)
  · by_cases hi : r = i
    · subst hi
      have e : (σ.frzAll r sz xs).find r = some .dead := by simp [AS.frzAll, AS.find, lkE]
      rw [e]
      exact ⟨none, Gam.set_self _ _ _, rfl⟩
    · have e : (σ.frzAll r sz xs).find i = (σ.find i).map (Ent.frz r sz xs) := by
        unfold AS.frzAll AS.find
        simp only [lkE]
        cases hb : Nat.beq r i with
        | true => exact absurd (Nat.eq_of_beq_eq_true hb) hi
        | false => exact lkE_map _ _ _
      rw [e, Gam.set_ne _ _ _ (Ne.symm hi)]
      have := h.me i
      cases hf : σ.find i with
      | none => rw [hf] at this; exact this
      | some en =>
        rw [hf] at this
        obtain ⟨x, hx, he⟩ := this
        cases en with
        | box ty cs =>
          obtain ⟨g, vs, h1, h2, h3, h4, h5⟩ := he
          exact ⟨x, hx, g, vs, h1, h2, by rw [h3, AV.frzL_length], fun i hi => by
            have hi2 := hi
            rw [AV.frzL_length] at hi2
            rw [AV.frzL_at r sz xs _ i hi2]
            exact mv (h4 i hi2), h5⟩
        | _ => exact ⟨x, hx, he.move (Nat.le_refl _) (fun b hb _ => ⟨rfl, hS b hb⟩) hg (fun _ _ _ => rfl)⟩
  · have hir : i ≠ r := fun e => by subst e; rw [Gam.set_self] at hi; cases hi
    have hjr : j ≠ r := fun e => by subst e; rw [Gam.set_self] at hj; cases hj
    rw [Gam.set_ne _ _ _ hir] at hi
    rw [Gam.set_ne _ _ _ hjr] at hj
    exact h.inj _ _ _ _ _ hi hj

/-! ### Contracts whose result holds a row -/
def closeT0 (σ : AS) (i : Nat) : AV → AV
  | .row j => match Nat.beq j i with
    | true => .row j
    | false => match σ.find j with | some (.row _ sz xs) => .sl sz xs | _ => .any
  | x => match x.closed with | true => x | false => .any
def closeT1 (σ : AS) (i : Nat) : AV → AV
  | .agg cs => .agg (cs.map (closeT0 σ i))
  | x => closeT0 σ i x
def closeT (σ : AS) (i : Nat) : AV → AV
  | .tup cs => .tup (cs.map (closeT1 σ i))
  | x => closeT1 σ i x
section
variable {cx : Cx} {σ : AS} {γ γ' : Gam} {a : Act} {w : World} {S' : Nat → Prop} {i : Nat} {x : Option (Option Nat × Value)}
theorem closeT0_rep (hst : StG cx γ σ a w) (hi : γ i = some x) (hi' : γ' i = some x) (hS : ∀ b, Sg cx.S0 cx.w0.heap.size γ b → S' b) (ho : ∀ j b s, j ≠ i → γ j = some (some (some b, s)) → S' b) {av : AV} {v : Value} (h : Rep w (Sg cx.S0 cx.w0.heap.size γ) γ av v) : Rep w S' γ' (closeT0 σ i av) v := by
  have cl : ∀ av v, Rep w (Sg cx.S0 cx.w0.heap.size γ) γ av v → Rep w S' γ' (match av.closed with | true => av | false => .any) v := fun av v h => by
    cases hc : av.closed with
    | true => exact (h.close hc).mono (Nat.le_refl _) (fun b hb _ => ⟨rfl, hS b hb⟩)
    | false => exact .any _
  cases av with
  | row j =>
    simp only [closeT0]
    cases hb : Nat.beq j i with
    | true =>
      have := Nat.eq_of_beq_eq_true hb
      subst this
      cases h with
      | row h hv => rw [hi] at h; injection h with h; subst h; exact .row hi' hv
    | false =>
      have hji := Nat.ne_of_beq_eq_false hb
      simp only
      have hme := hst.me j
      cases hf : σ.find j with
      | none => exact .any _
      | some e =>
        cases e with
        | row ty sz xs =>
          rw [hf] at hme
          obtain ⟨d, hd, he⟩ := hme
          obtain ⟨s, hs, hrr⟩ := row_sl (S' := S') he (fun b hb _ => hS b hb) (fun s g hg => ho j g s hji (by rw [hd, hg])) γ'
          subst hs
          rw [h.row_inv hd]
          exact hrr
        | _ => exact .any _
  | _ => exact cl _ _ h
theorem closeT1_rep (hst : StG cx γ σ a w) (hi : γ i = some x) (hi' : γ' i = some x) (hS : ∀ b, Sg cx.S0 cx.w0.heap.size γ b → S' b) (ho : ∀ j b s, j ≠ i → γ j = some (some (some b, s)) → S' b) {av : AV} {v : Value} (h : Rep w (Sg cx.S0 cx.w0.heap.size γ) γ av v) : Rep w S' γ' (closeT1 σ i av) v := by
  cases av with
  | agg cs =>
    obtain ⟨vs, rfl, hl, hr, h1⟩ := h.agg_inv
    simp only [closeT1]
    refine .agg vs (by simpa using hl) (fun k hk => ?_) h1
    have hk' : k < cs.length := by simpa using hk
    simp only [List.getElem_map]
    exact closeT0_rep hst hi hi' hS ho (hr k hk')
  | _ => exact closeT0_rep hst hi hi' hS ho h
theorem closeT_rep (hst : StG cx γ σ a w) (hi : γ i = some x) (hi' : γ' i = some x) (hS : ∀ b, Sg cx.S0 cx.w0.heap.size γ b → S' b) (ho : ∀ j b s, j ≠ i → γ j = some (some (some b, s)) → S' b) {av : AV} {v : Value} (h : Rep w (Sg cx.S0 cx.w0.heap.size γ) γ av v) : Rep w S' γ' (closeT σ i av) v := by
  cases av with
  | tup cs =>
    obtain ⟨vs, rfl, hl, hr⟩ := h.tup_inv
    simp only [closeT]
    refine .tup vs (by simpa using hl) (fun k hk => ?_)
    have hk' : k < cs.length := by simpa using hk
    simp only [List.getElem_map]
    exact closeT1_rep hst hi hi' hS ho (hr k hk')
  | _ => exact closeT1_rep hst hi hi' hS ho h
end
/-- The body ends with a row of its own in its result. -/
inductive TX (E : Env) (nt : Nat) (fn : Func) (σ : AS) (ty sz : Nat) (xs : List AV) (res : AV) : Prop
  | mk (τ : AS) (i : Nat) (hl : LeX E nt σ τ) (avs : List AV) (h1 : retA E.tab τ fn.results.toList = some avs) (h2 : τ.find i = some (.row ty sz xs)) (h3 : Sub (closeT τ i (packA avs)) (res.ren fun _ => i))
def EndT (E : Env) (nt : Nat) (fn : Func) (ty sz : Nat) (xs : List AV) (res : AV) : Exit → AS → Prop
  | .normal, σ => TX E nt fn σ ty sz xs res
  | .ret, σ => TX E nt fn σ ty sz xs res
  | _, _ => False
theorem ConT.walk {E : Env} {f : FuncId} {fn : Func} {args xs : List AV} {ty sz : Nat} {res : AV} (c : Code) (hf : E.P.funcs[f]? = some fn) (hb : fn.body = some c) (he : Enters E f) (hn : Nat.ble args.length fn.ntmps = true) (hres : res.inM [0] = true)
    (h : AW E fn.ntmps (EndT E fn.ntmps fn ty sz xs res) [.code c] .normal (start args)) : ConT E f args ty sz xs res := by
  refine ⟨he, hres, fun S w vs ha => calls_of_wp hf hb ?_⟩
  have h0 : WP (Cx.call E S w fn.ntmps) c (EndT E fn.ntmps fn ty sz xs res) (start args) := WP.mono (h.out (Cx.call E S w fn.ntmps) rfl rfl) fun e σ hk => by cases e <;> exact hk
  refine wp_mono (h0 _ _ (start_st ha (Nat.le_of_ble_eq_true hn))) (fun e a w' ⟨σ, hq, hst0⟩ => ?_)
  have key : TX E fn.ntmps fn σ ty sz xs res → bodyPost E.P fn (fun e w' => ∃ u v us, e = .returned u ∧ Below w.heap.size w w' ∧ w'.ownsRow w.heap.size ty sz v xs.length us ∧
    (∀ k (hk : k < xs.length), (xs[k]).cells.length = sz) ∧ (∀ k (hk : k < xs.length) j (hj : j < (xs[k]).cells.length), Rep w' (fun b => (S b ∨ w.heap.size ≤ b) ∧ v.ownBlock ≠ some b) G0 ((xs[k]).cells[j]) (us.getD (k * sz + j) undef)) ∧ (∀ u ∈ us, u.oneCell' = true) ∧
    ∀ γ' : Gam, γ' 0 = some (some (v.ownBlock, v)) → Rep w' (fun b => (S b ∨ w.heap.size ≤ b) ∧ v.ownBlock ≠ some b) γ' res u) .ret a w' := by
    rintro ⟨τ, i, hl, avs, h1, h2, h3⟩
    obtain ⟨γ, hst⟩ := hl (Cx.call E S w fn.ntmps) rfl rfl a w' hst0
    obtain ⟨u, hu, hr⟩ := results_run hst h1
    have hme := hst.me i
    rw [h2] at hme
    obtain ⟨d, hd, s, us, hde, hone, hown, hlen, hrr, hone2⟩ := hme
    subst hde
    have hS : ∀ b, Sg (fun b => S b ∧ b < w.heap.size) w.heap.size γ b → (S b ∨ w.heap.size ≤ b) ∧ s.ownBlock ≠ some b := fun b hb => by
      refine ⟨?_, fun e => ?_⟩
      · rcases hb with ⟨hb, _⟩ | ⟨hb, _⟩
        · exact Or.inl hb.1
        · exact Or.inr hb.1
      · have ho : own γ b := ⟨i, s, by rw [hd, e]⟩
        rcases hb with ⟨_, hb⟩ | ⟨_, hb⟩
        · have := (hst.ge b ho).1.1; exact absurd hb (by show ¬ b < w.heap.size; exact Nat.not_lt.2 this)
        · exact hb ho
    refine ⟨hst.defers, u, hu, u, s, us, rfl, hst.below, hown, hlen, fun k hk j hj => (hrr k hk j hj).mono (Nat.le_refl _) (fun b hb _ => ⟨rfl, hS b hb⟩), hone2, fun γ' hγ' => ?_⟩
    have hc := closeT_rep (S' := fun b => (S b ∨ w.heap.size ≤ b) ∧ s.ownBlock ≠ some b) (γ' := fun j => if j = i then γ i else none) hst hd (by simp [hd]) hS (fun j b s' hj hb => ⟨Or.inr (hst.ge b ⟨j, s', hb⟩).1.1, fun e => hj (hst.inj _ _ _ _ _ hb (by rw [hd, e]))⟩) hr
    exact (hc.sub h3).ren (ids := [0]) (ρ := fun _ => i) (fun id hid => by
      have : id = 0 := by simpa using hid
      subst this
      rw [hγ']
      simp [hd]) res rfl hres
  cases e with
  | normal => exact key hq
  | ret => exact key hq
  | _ => exact hq.elim
end Go.Proofs.Ytdbapaofibgfcaa
