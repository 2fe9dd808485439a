/- The abstract walk, thirteenth part: nil slices adopted as rows; rows given up. -/
import Derived.Test.YtdbapaofibgfcaaAmL
set_option linter.unusedVariables false
set_option linter.unusedSimpArgs false
namespace Go.Proofs.Ytdbapaofibgfcaa
open Go.RowKit

theorem LeX.refl (E : Env) (nt : Nat) (σ : AS) : LeX E nt σ σ := fun _ _ _ => Le.refl _ _
theorem LeX.trans {E : Env} {nt : Nat} {a b c : AS} (h : LeX E nt a b) (k : LeX E nt b c) : LeX E nt a c := fun cx hE hn => (h cx hE hn).trans (k cx hE hn)

/-- A nil slice is an empty row. -/
theorem Le.adopt_aux {cx : Cx} {σ : AS} {γ : Gam} {a : Act} {w : World} (h : StG cx γ σ a w) {r ty sz : Nat} (hr : σ.find r = none) :
    (∀ av v, Rep w (Sg cx.S0 cx.w0.heap.size γ) γ av v → Rep w (Sg cx.S0 cx.w0.heap.size (γ.set r (some (none, .slice none 0 0)))) (γ.set r (some (none, .slice none 0 0))) av v) ∧
    (∀ i x, γ i = some x → i ≠ r) ∧ (∀ b, own (γ.set r (some (none, .slice none 0 0))) b → own γ b) := by
  have hγ : γ r = none := by have := h.me r; rw [hr] at this; exact this
  have hne : ∀ i x, γ i = some x → i ≠ r := fun i x hx e => by subst e; rw [hγ] at hx; cases hx
  have hown : ∀ b, own (γ.set r (some (none, .slice none 0 0))) b → own γ b := fun b ⟨i, s, hi⟩ => by
    by_cases hir : i = r
    · subst hir; rw [Gam.set_self] at hi; injection hi with hi; injection hi with hi; injection hi with hi _; cases hi
    · rw [Gam.set_ne _ _ _ hir] at hi; exact ⟨i, s, hi⟩
  refine ⟨fun av v hv => (hv.mono (Nat.le_refl _) (fun b hb _ => ⟨rfl, ?_⟩)).gam (fun i x hx => Or.inl ?_), hne, hown⟩
  · rcases hb with hb | ⟨h1, h2⟩
    · exact Or.inl hb
    · exact Or.inr ⟨h1, fun ho => h2 (hown b ho)⟩
  · rw [Gam.set_ne _ _ _ (hne i x hx)]; exact hx
theorem nil_row {w : World} {S : Nat → Prop} {γ : Gam} {B ty sz : Nat} : EntRep w S γ B (some (none, .slice none 0 0)) (.row ty sz []) :=
  ⟨.slice none 0 0, [], rfl, rfl, World.ownsRow_nil w _ _ _, fun k hk => absurd hk (by simp), fun k hk => absurd hk (by simp), fun u hu => absurd hu (by simp)⟩

def AS.adopt (σ : AS) (t r ty sz : Nat) : AS := ⟨(t, .row r) :: σ.tm, (r, .row ty sz []) :: σ.me⟩
theorem LeX.adopt {E : Env} {nt : Nat} {σ : AS} (t r ty sz : Nat) (ht : σ.get t = .nils) (hr : σ.find r = none) : LeX E nt σ (σ.adopt t r ty sz) := fun cx hE hn a w ⟨γ, h⟩ => by
  obtain ⟨k1, k2, k3⟩ := Le.adopt_aux (ty := ty) (sz := sz) h hr
  refine ⟨γ.set r (some (none, .slice none 0 0)), fun u => ?_, fun i => ?_, fun i j b s s' hi hj => ?_, fun b hb => h.ge b (k3 b hb), h.below, h.size, h.defers, h.gh, fun b hb => by obtain ⟨f2, f3, f4⟩ := h.fr b hb; exact ⟨fun ho => f2 (k3 b ho), f3, f4⟩, h.dr⟩
  · by_cases hu : t = u
    · subst hu
      have e : (σ.adopt t r ty sz).get t = .row r := by simp [AS.adopt, AS.get, lkV]
      rw [e]
      have := h.tm t
      rw [ht] at this
      rw [this.nils_inv]
      exact .row (Gam.set_self _ _ _) (fun g s e => by injection e with e; injection e with _ e)
    · have e : (σ.adopt t r ty sz).get u = σ.get u := by
        unfold AS.adopt AS.get
        simp only [lkV]
        cases hb : Nat.beq t u with
        | true => exact absurd (Nat.eq_of_beq_eq_true hb) hu
        | false => rfl
      rw [e]
      exact k1 _ _ (h.tm u)
  · by_cases hi : r = i
    · subst hi
      have e : (σ.adopt t r ty sz).find r = some (.row ty sz []) := by simp [AS.adopt, AS.find, lkE]
      rw [e]
      exact ⟨_, Gam.set_self _ _ _, nil_row⟩
    · have e : (σ.adopt t r ty sz).find i = σ.find i := by
        unfold AS.adopt AS.find
        simp only [lkE]
        cases hb : Nat.beq r i with
        | true => exact absurd (Nat.eq_of_beq_eq_true hb) hi
        | false => rfl
      rw [e, Gam.set_ne _ _ _ (Ne.symm hi)]
      have := h.me i
      cases hf : σ.find i with
      | none => rw [hf] at this; exact this
      | some en =>
        rw [hf] at this
        obtain ⟨x, hx, he⟩ := this
        refine ⟨x, hx, he.move (Nat.le_refl _) (fun b hb _ => ⟨rfl, ?_⟩) (fun i x hx => Or.inl (by rw [Gam.set_ne _ _ _ (k2 i x hx)]; exact hx)) (fun _ _ _ => rfl)⟩
        rcases hb with hb | ⟨h1, h2⟩
        · exact Or.inl hb
        · exact Or.inr ⟨h1, fun ho => h2 (k3 b ho)⟩
  · have hir : i ≠ r := fun e => by subst e; rw [Gam.set_self] at hi; injection hi with hi; injection hi with hi; injection hi with hi _; cases hi
    have hjr : j ≠ r := fun e => by subst e; rw [Gam.set_self] at hj; injection hj with hj; injection hj with hj; injection hj with hj _; cases hj
    rw [Gam.set_ne _ _ _ hir] at hi
    rw [Gam.set_ne _ _ _ hjr] at hj
    exact h.inj i j b s s' hi hj

/-- The same, of a cell of a block. -/
def AS.adoptC (σ : AS) (id j r ty sz bt : Nat) (cs : List AV) : AS := ⟨σ.tm, (id, .box bt (cs.set j (.row r))) :: (r, .row ty sz []) :: σ.me⟩
theorem LeX.adoptC {E : Env} {nt : Nat} {σ : AS} (id j r ty sz bt : Nat) (cs : List AV) (hid : σ.find id = some (.box bt cs)) (hj : cs[j]? = some .nils) (hr : σ.find r = none) : LeX E nt σ (σ.adoptC id j r ty sz bt cs) := fun cx hE hn a w ⟨γ, h⟩ => by
  obtain ⟨k1, k2, k3⟩ := Le.adopt_aux (ty := ty) (sz := sz) h hr
  have hne : id ≠ r := fun e => by subst e; rw [hr] at hid; cases hid
  have hS : ∀ b, Sg cx.S0 cx.w0.heap.size γ b → Sg cx.S0 cx.w0.heap.size (γ.set r (some (none, .slice none 0 0))) b := fun b hb => hb.elim Or.inl (fun ⟨h1, h2⟩ => Or.inr ⟨h1, fun ho => h2 (k3 b ho)⟩)
  refine ⟨γ.set r (some (none, .slice none 0 0)), fun u => k1 _ _ (h.tm u), fun i => ?_, fun i j b s s' hi hj => ?_, fun b hb => h.ge b (k3 b hb), h.below, h.size, h.defers, h.gh, fun b hb => by obtain ⟨f2, f3, f4⟩ := h.fr b hb; exact ⟨fun ho => f2 (k3 b ho), f3, f4⟩, h.dr⟩
  · by_cases hi : id = i
    · subst hi
      have e : (σ.adoptC id j r ty sz bt cs).find id = some (.box bt (cs.set j (.row r))) := by simp [AS.adoptC, AS.find, lkE]
      rw [e]
      have hm := h.me id
      rw [hid] at hm
      obtain ⟨x, hx, g, vs, hd, hb, hsz, hrr, hone⟩ := hm
      refine ⟨x, by rw [Gam.set_ne _ _ _ hne]; exact hx, g, vs, hd, hb, by simpa using hsz, fun m hm => ?_, hone⟩
      have hm' : m < cs.length := by simpa using hm
      rw [List.getElem_set]
      by_cases hjm : j = m
      · subst hjm
        rw [if_pos rfl]
        have := hrr j hm'
        rw [(List.getElem?_eq_some_iff.1 hj).2] at this
        rw [this.nils_inv]
        exact .row (Gam.set_self _ _ _) (fun g s e => by injection e with e; injection e with _ e)
      · rw [if_neg hjm]
        exact k1 _ _ (hrr m hm')
    · by_cases hi2 : r = i
      · subst hi2
        have e : (σ.adoptC id j r ty sz bt cs).find r = some (.row ty sz []) := by
          unfold AS.adoptC AS.find
          simp only [lkE]
          cases hb : Nat.beq id r with
          | true => exact absurd (Nat.eq_of_beq_eq_true hb) hi
          | false => simp
        rw [e]
        exact ⟨_, Gam.set_self _ _ _, nil_row⟩
      · have e : (σ.adoptC id j r ty sz bt cs).find i = σ.find i := by
          unfold AS.adoptC AS.find
          simp only [lkE]
          cases hb : Nat.beq id i with
          | true => exact absurd (Nat.eq_of_beq_eq_true hb) hi
          | false =>
            cases hb2 : Nat.beq r i with
            | true => exact absurd (Nat.eq_of_beq_eq_true hb2) hi2
            | false => rfl
        rw [e, Gam.set_ne _ _ _ (Ne.symm hi2)]
        have := h.me i
        cases hf : σ.find i with
        | none => rw [hf] at this; exact this
        | some en =>
          rw [hf] at this
          obtain ⟨x, hx, he⟩ := this
          exact ⟨x, hx, he.move (Nat.le_refl _) (fun b hb _ => ⟨rfl, hS b hb⟩) (fun i x hx => Or.inl (by rw [Gam.set_ne _ _ _ (k2 i x hx)]; exact hx)) (fun _ _ _ => rfl)⟩
  · have hir : i ≠ r := fun e => by subst e; rw [Gam.set_self] at hi; injection hi with hi; injection hi with hi; injection hi with hi _; cases hi
    have hjr : j ≠ r := fun e => by subst e; rw [Gam.set_self] at hj; injection hj with hj; injection hj with hj; injection hj with hj _; cases hj
    rw [Gam.set_ne _ _ _ hir] at hi
    rw [Gam.set_ne _ _ _ hjr] at hj
    exact h.inj i j b s s' hi hj
end Go.Proofs.Ytdbapaofibgfcaa
