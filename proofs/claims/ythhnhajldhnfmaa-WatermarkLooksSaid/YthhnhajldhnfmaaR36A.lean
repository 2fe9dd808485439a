/- The row of WatermarkLooks. -/
import Derived.Test.YthhnhajldhnfmaaRowK
import Derived.Test.YthhnhajldhnfmaaP36K
import Derived.Test.YthhnhajldhnfmaaRow2
set_option linter.unusedVariables false
set_option linter.unusedSimpArgs false
namespace Go.Proofs.Ythhnhajldhnfmaa
open Go.ChangeShapes Go.WideShapes Go.ChangeAt Go.RowKit

set_option maxRecDepth 100000 in
theorem looks36_lifted (os : Os) (started : os.Started) (H : Type) (enc : TypeId × Value → H) :
    ReturnsInHanded {} Try.checked os 9 .any (Rows.watermarkLooksSpec.pre6 enc Try.prog Try.f9 Rows.watermarkLooksRow.domain false) (Rows.watermarkLooksSpec.post enc Try.prog Try.f9 false true false false) :=
  law_lifted (fr := true) os started Try.func9 (by kernel_rfl)
    (ChangeSpec.witness6 (enc := enc) (C := Try.checked) false ⟨#[], #[.slice none 0 0], []⟩ 8 (by kernel_rfl) (by kernel_rfl) (by kernel_rfl) (by kernel_rfl))
    rfl (by kernel_rfl) (by kernel_rfl)
    (fun ds h => match ds, h with | [_], _ => rfl)
    (fun W base args ds p hval h => by
      rw [Try.params9] at h hval
      obtain ⟨v0, d0, rfl, rfl, h0⟩ := trodAll_one h
      obtain ⟨l0, r0⟩ := trks_open (hval 0 50 v0 rfl rfl) h0
      exact ⟨_, args_one r0, looks_con36 l0⟩)

theorem looks36_holds : Rows.WatermarkLooksSaid :=
  OpenClaim.holds_of_wide 9 Try.f9 rfl rfl rfl rfl rfl rfl rfl ⟨rfl, rfl, rfl, rfl, rfl⟩ rfl rfl rfl rfl rfl (by kernel_rfl) Try.func9 (by kernel_rfl)
    (of_decide_eq_true (by kernel_rfl)) (by unfold Func.isWrapper; first | (rw [if_pos (by decide +kernel)]; kernel_rfl) | (rw [if_neg (by decide +kernel)]; exact ⟨rfl, rfl⟩))
    (fun os started H enc _ => looks36_lifted os started H enc)
end Go.Proofs.Ythhnhajldhnfmaa
