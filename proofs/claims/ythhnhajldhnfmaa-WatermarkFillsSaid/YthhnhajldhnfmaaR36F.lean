/- The row of WatermarkFills. -/
import Derived.Test.YthhnhajldhnfmaaRowK
import Derived.Test.YthhnhajldhnfmaaP36K
import Derived.Test.YthhnhajldhnfmaaRow2
set_option linter.unusedVariables false
set_option linter.unusedSimpArgs false
namespace Go.Proofs.Ythhnhajldhnfmaa
open Go.ChangeShapes Go.WideShapes Go.ChangeAt Go.RowKit

set_option maxRecDepth 100000 in
theorem fills36_lifted (os : Os) (started : os.Started) (H : Type) (enc : TypeId × Value → H) :
    ReturnsInHanded {} Try.checked os 13 .any (Rows.watermarkFillsSpec.pre6 enc Try.prog Try.f13 Rows.watermarkFillsRow.domain false) (Rows.watermarkFillsSpec.post enc Try.prog Try.f13 false true false false) :=
  law_lifted (fr := true) os started Try.func13 (by kernel_rfl)
    (ChangeSpec.witness6 (enc := enc) (C := Try.checked) false ⟨#[], #[.slice none 0 0], []⟩ 8 (by kernel_rfl) (by kernel_rfl) (by kernel_rfl) (by kernel_rfl))
    rfl (by kernel_rfl) (by kernel_rfl)
    (fun ds h => match ds, h with | [_], _ => rfl)
    (fun W base args ds p hval h => by
      rw [Try.params13] at h hval
      obtain ⟨v0, d0, rfl, rfl, h0⟩ := trodAll_one h
      obtain ⟨l0, r0⟩ := msgs_open (hval 0 77 v0 rfl rfl) h0
      exact ⟨_, args_one r0, fills_con36 l0⟩)

theorem fills36_holds : Rows.WatermarkFillsSaid :=
  OpenClaim.holds_of_wide 13 Try.f13 rfl rfl rfl rfl rfl rfl rfl ⟨rfl, rfl, rfl, rfl, rfl⟩ rfl rfl rfl rfl rfl (by kernel_rfl) Try.func13 (by kernel_rfl)
    (of_decide_eq_true (by kernel_rfl)) (by unfold Func.isWrapper; first | (rw [if_pos (by decide +kernel)]; kernel_rfl) | (rw [if_neg (by decide +kernel)]; exact ⟨rfl, rfl⟩))
    (fun os started H enc _ => fills36_lifted os started H enc)
end Go.Proofs.Ythhnhajldhnfmaa
