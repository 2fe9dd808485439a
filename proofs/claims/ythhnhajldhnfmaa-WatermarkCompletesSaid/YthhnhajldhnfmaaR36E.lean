/- The row of WatermarkCompletes. -/
import Derived.Test.YthhnhajldhnfmaaRowK
import Derived.Test.YthhnhajldhnfmaaP36K
import Derived.Test.YthhnhajldhnfmaaRow2
set_option linter.unusedVariables false
set_option linter.unusedSimpArgs false
namespace Go.Proofs.Ythhnhajldhnfmaa
open Go.ChangeShapes Go.WideShapes Go.ChangeAt Go.RowKit

set_option maxRecDepth 100000 in
theorem completes36_lifted (os : Os) (started : os.Started) (H : Type) (enc : TypeId × Value → H) :
    ReturnsInHanded {} Try.checked os 12 .any (Rows.watermarkCompletesSpec.pre6 enc Try.prog Try.f12 Rows.watermarkCompletesRow.domain false) (Rows.watermarkCompletesSpec.post enc Try.prog Try.f12 false true false false) :=
  law_lifted (fr := true) os started Try.func12 (by kernel_rfl)
    (ChangeSpec.witness6 (enc := enc) (C := Try.checked) false ⟨#[], #[.slice none 0 0, .int .u8 0], []⟩ 8 (by kernel_rfl) (by kernel_rfl) (by kernel_rfl) (by kernel_rfl))
    rfl (by kernel_rfl) (by kernel_rfl)
    (fun ds h => match ds, h with | [_, _], _ => rfl)
    (fun W base args ds p hval h => by
      rw [Try.params12] at h hval
      obtain ⟨v0, v1, d0, d1, p0, p1, rfl, rfl, rfl, h0, h1⟩ := trodAll_two h
      obtain ⟨n1, b1, rfl⟩ := u8_open (hval 1 5 v1 rfl rfl) h1
      obtain ⟨l0, r0⟩ := msgs_open (hval 0 77 v0 rfl rfl) h0
      exact ⟨_, args_two r0 (Rep.int _ _), completes_con36 l0 n1 (by omega)⟩)

theorem completes36_holds : Rows.WatermarkCompletesSaid :=
  OpenClaim.holds_of_wide 12 Try.f12 rfl rfl rfl rfl rfl rfl rfl ⟨rfl, rfl, rfl, rfl, rfl⟩ rfl rfl rfl rfl rfl (by kernel_rfl) Try.func12 (by kernel_rfl)
    (of_decide_eq_true (by kernel_rfl)) (by unfold Func.isWrapper; first | (rw [if_pos (by decide +kernel)]; kernel_rfl) | (rw [if_neg (by decide +kernel)]; exact ⟨rfl, rfl⟩))
    (fun os started H enc _ => completes36_lifted os started H enc)
end Go.Proofs.Ythhnhajldhnfmaa
