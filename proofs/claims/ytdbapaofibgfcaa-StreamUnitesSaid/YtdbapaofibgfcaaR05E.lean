/- The row of StreamUnites. -/
import Derived.Test.YtdbapaofibgfcaaRowV
import Derived.Test.YtdbapaofibgfcaaRowU
import Derived.Test.YtdbapaofibgfcaaP05L
set_option linter.unusedVariables false
set_option linter.unusedSimpArgs false
namespace Go.Proofs.Ytdbapaofibgfcaa
open Go.ChangeShapes Go.WideShapes Go.ChangeAt Go.RowKit

set_option maxRecDepth 100000 in
theorem unites05_lifted (os : Os) (started : os.Started) (H : Type) (enc : TypeId × Value → H) :
    ReturnsInHanded {} Try.checked os 6 .any (Rows.streamUnitesSpec.pre6 enc Try.prog Try.f6 Rows.streamUnitesRow.domain false) (Rows.streamUnitesSpec.post enc Try.prog Try.f6 false true false false) :=
  law_lifted (fr := true) os started Try.func6 (by kernel_rfl)
    (ChangeSpec.witness6 (enc := enc) (C := Try.checked) false ⟨#[], #[.slice none 0 0, .slice none 0 0, .slice none 0 0], []⟩ 8 (by kernel_rfl) (by kernel_rfl) (by kernel_rfl) (by kernel_rfl))
    rfl (by kernel_rfl) (by kernel_rfl)
    (fun ds h => match ds, h with | [_, _, _], _ => rfl)
    (fun W base args ds p hval h => by
      rw [Try.params6] at h hval
      obtain ⟨v0, v1, v2, d0, d1, d2, p0, p1, p2, rfl, rfl, rfl, h0, h1, h2⟩ := trodAll_three h
      obtain ⟨l0, r0⟩ := evs_open (hval 0 22 v0 rfl rfl) h0
      obtain ⟨l1, r1⟩ := evs_open (hval 1 22 v1 rfl rfl) h1
      obtain ⟨l2, r2⟩ := evs_open (hval 2 22 v2 rfl rfl) h2
      exact ⟨_, args_three r0 r1 r2, unites_con05 l0 l1 l2⟩)

theorem unites05_holds : Rows.StreamUnitesSaid :=
  OpenClaim.holds_of_wide 6 Try.f6 rfl rfl rfl rfl rfl rfl rfl ⟨rfl, rfl, rfl, rfl, rfl⟩ rfl rfl rfl rfl rfl (by kernel_rfl) Try.func6 (by kernel_rfl)
    (of_decide_eq_true (by kernel_rfl)) (by unfold Func.isWrapper; first | (rw [if_pos (by decide +kernel)]; kernel_rfl) | (rw [if_neg (by decide +kernel)]; exact ⟨rfl, rfl⟩))
    (fun os started H enc _ => unites05_lifted os started H enc)
end Go.Proofs.Ytdbapaofibgfcaa
