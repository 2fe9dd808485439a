/- Arguments opened: bytes. -/
import Derived.Test.YtdbapaofibgfcaaRowG
set_option linter.unusedVariables false
set_option linter.unusedSimpArgs false
namespace Go.Proofs.Ytdbapaofibgfcaa
open Go.ChangeShapes Go.WideShapes Go.ChangeAt Go.RowKit Go.Joins Go.Deep

section
variable {H : Type} {enc : TypeId × Value → H} {W : World} {base : Nat} {v : Value} {d : DataW H} {p : List MemPlace}
set_option maxRecDepth 100000
theorem u8_open (hv : Value.okWide Try.prog W .any base 5 v) (h : DataW.Trod enc Try.prog W 0 (fun _ => true) true 5 v d p) : ∃ n : Nat, n ≤ 255 ∧ v = .int .u8 n := by
  obtain ⟨n, rfl⟩ := okWide_int Try.underlying5 hv
  obtain ⟨fuel, hf⟩ := h
  obtain ⟨m, e, _, hw⟩ := DataW.trod_int (k := .u8) Try.underlying5 hf
  have e : n = m := by simpa [Value.cells] using e
  subst e
  have h2 : (0 : Int) ≤ n ∧ n ≤ 255 := by
    simp only [Lit.wf, Bool.and_eq_true, decide_eq_true_eq] at hw
    exact hw
  exact ⟨n.toNat, by omega, by rw [Int.toNat_of_nonneg h2.1]⟩
end
end Go.Proofs.Ytdbapaofibgfcaa
