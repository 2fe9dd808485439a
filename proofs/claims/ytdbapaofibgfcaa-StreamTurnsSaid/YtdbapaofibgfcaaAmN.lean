/- The abstract walk, fourteenth part: rows frozen; steps counted; weakening between statements. -/
import Derived.Test.YtdbapaofibgfcaaAmM
set_option linter.unusedVariables false
set_option linter.unusedSimpArgs false
namespace Go.Proofs.Ytdbapaofibgfcaa
open Go.RowKit

def AS.freeze (σ : AS) (t r sz : Nat) (xs : List AV) : AS := ⟨(t, .sl sz xs) :: σ.tm, (r, .dead) :: σ.me⟩
/-- An own row is no longer written: from here on it is a slice like any other. -/
theorem LeX.freeze {E : Env} {nt : Nat} {σ : AS} (t r ty sz : Nat) (xs : List AV) (ht : σ.get t = .row r) (hr : σ.find r = some (.row ty sz xs)) : LeX E nt σ (σ.freeze t r sz xs) := fun cx hE hn a w ⟨γ, h⟩ => by
  have hme := h.me r
  rw [hr] at hme
  obtain ⟨d, hd, he⟩ := hme
  have hown : ∀ b, own (γ.set r none) b → own γ b ∧ ∀ s, γ r ≠ some (some (some b, s)) := fun b ⟨i, s, hi⟩ => by
    by_cases hir : i = r
    · subst hir; rw [Gam.set_self] at hi; cases hi
    · rw [Gam.set_ne _ _ _ hir] at hi
      exact ⟨⟨i, s, hi⟩, fun s' hs' => hir (h.inj _ _ _ _ _ hi hs')⟩
  have hS : ∀ b, Sg cx.S0 cx.w0.heap.size γ b → Sg cx.S0 cx.w0.heap.size (γ.set r none) b := fun b hb => hb.elim Or.inl (fun ⟨h1, h2⟩ => Or.inr ⟨h1, fun ho => h2 (hown b ho).1⟩)
  have hg : ∀ i x, γ i = some x → γ.set r none i = some x ∨ γ.set r none i = some none := fun i x hx => by
    by_cases hir : i = r
    · subst hir; exact Or.inr (Gam.set_self _ _ _)
    · exact Or.inl (by rw [Gam.set_ne _ _ _ hir]; exact hx)
  have mv : ∀ {av v}, Rep w (Sg cx.S0 cx.w0.heap.size γ) γ av v → Rep w (Sg cx.S0 cx.w0.heap.size (γ.set r none)) (γ.set r none) av v := fun hv => (hv.mono (Nat.le_refl _) (fun b hb _ => ⟨rfl, hS b hb⟩)).gam hg
  refine ⟨γ.set r none, fun u => ?_, fun i => ?_, fun i j b s s' hi hj => ?_, fun b hb => h.ge b (hown b hb).1, h.below, h.size, h.defers, h.gh, fun b hb => by obtain ⟨f2, f3, f4⟩ := h.fr b hb; exact ⟨fun ho => f2 (hown b ho).1, f3, f4⟩, h.dr⟩
  · by_cases hu : t = u
    · subst hu
      have e : (σ.freeze t r sz xs).get t = .sl sz xs := by simp [AS.freeze, AS.get, lkV]
      rw [e]
      have hv := h.tm t
      rw [ht] at hv
      obtain ⟨s, hs, hrr⟩ := row_sl (S' := Sg cx.S0 cx.w0.heap.size (γ.set r none)) he (fun b hb _ => hS b hb) (fun s g hg => Or.inr ⟨(h.ge g ⟨r, s, by rw [hd, hg]⟩).1, fun ho => (hown g ho).2 s (by rw [hd, hg])⟩) (γ.set r none)
      subst hs
      rw [hv.row_inv hd]
      exact hrr
    · have e : (σ.freeze t r sz xs).get u = σ.get u := by
        unfold AS.freeze AS.get
        simp only [lkV]
        cases hb : Nat.beq t u with
        | true => exact absurd (Nat.eq_of_beq_eq_true hb) hu
        | false => rfl
      rw [e]
      exact mv (h.tm u)
  · by_cases hi : r = i
    · subst hi
      have e : (σ.freeze t r sz xs).find r = some .dead := by simp [AS.freeze, AS.find, lkE]
      rw [e]
      exact ⟨none, Gam.set_self _ _ _, rfl⟩
    · have e : (σ.freeze t r sz xs).find i = σ.find i := by
        unfold AS.freeze AS.find
        simp only [lkE]
        cases hb : Nat.beq r i with
        | true => exact absurd (Nat.eq_of_beq_eq_true hb) hi
        | false => rfl
      rw [e, Gam.set_ne _ _ _ (Ne.symm hi)]
      have := h.me i
      cases hf : σ.find i with
      | none => rw [hf] at this; exact this
      | some en =>
        rw [hf] at this
        obtain ⟨x, hx, he⟩ := this
        exact ⟨x, hx, he.move (Nat.le_refl _) (fun b hb _ => ⟨rfl, hS b hb⟩) hg (fun _ _ _ => rfl)⟩
  · have hir : i ≠ r := fun e => by subst e; rw [Gam.set_self] at hi; cases hi
    have hjr : j ≠ r := fun e => by subst e; rw [Gam.set_self] at hj; cases hj
    rw [Gam.set_ne _ _ _ hir] at hi
    rw [Gam.set_ne _ _ _ hjr] at hj
    exact h.inj _ _ _ _ _ hi hj

section
variable {E : Env} {nt : Nat} {R : Exit → AS → Prop}
theorem AW.stepN (n : Nat) {K : List KItem} {e : Exit} {σ : AS} (h : Asked E nt R (fAS σ fun σ' => go E nt [] n K e σ')) : AW E nt R K e σ := by
  rw [fAS_eq] at h
  exact go_sound _ _ _ _ h
theorem AW.weaken {c : Code} {K : List KItem} {σ τ : AS} (hl : LeX E nt σ τ) (h : AW E nt R (.code c :: K) .normal τ) : AW E nt R (.code c :: K) .normal σ := ⟨fun cx hE hn => WP.weaken (hl cx hE hn) (h.out cx hE hn)⟩
end
end Go.Proofs.Ytdbapaofibgfcaa
