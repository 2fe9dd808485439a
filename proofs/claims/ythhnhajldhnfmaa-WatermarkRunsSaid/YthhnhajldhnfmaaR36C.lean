/- The row of WatermarkRuns. -/
import Derived.Test.YthhnhajldhnfmaaRowK
import Derived.Test.YthhnhajldhnfmaaP36K
import Derived.Test.YthhnhajldhnfmaaRow2
set_option linter.unusedVariables false
set_option linter.unusedSimpArgs false
namespace Go.Proofs.Ythhnhajldhnfmaa
open Go.ChangeShapes Go.WideShapes Go.ChangeAt Go.RowKit

set_option maxRecDepth 100000 in
theorem runs36_lifted (os : Os) (started : os.Started) (H : Type) (enc : TypeId × Value → H) :
    ReturnsInHanded {} Try.checked os 10 .any (Rows.watermarkRunsSpec.pre6 enc Try.prog Try.f10 Rows.watermarkRunsRow.domain false) (Rows.watermarkRunsSpec.post enc Try.prog Try.f10 false true false false) :=
  law_lifted (fr := true) os started Try.func10 (by kernel_rfl)
    (ChangeSpec.witness6 (enc := enc) (C := Try.checked) false ⟨#[], #[.int .i64 0, .slice none 0 0], []⟩ 8 (by kernel_rfl) (by kernel_rfl) (by kernel_rfl) (by kernel_rfl))
    rfl (by kernel_rfl) (by kernel_rfl)
    (fun ds h => match ds, h with | [_, _], _ => rfl)
    (fun W base args ds p hval h => by
      rw [Try.params10] at h hval
      obtain ⟨v0, v1, d0, d1, p0, p1, rfl, rfl, rfl, h0, h1⟩ := trodAll_two h
      obtain ⟨n0, rfl⟩ := i64_open (hval 0 3 v0 rfl rfl) h0
      obtain ⟨l1, r1⟩ := msgs_open (hval 1 77 v1 rfl rfl) h1
      exact ⟨_, args_two (Rep.int _ _) r1, runs_con36 n0 l1⟩)

theorem runs36_holds : Rows.WatermarkRunsSaid :=
  OpenClaim.holds_of_wide 10 Try.f10 rfl rfl rfl rfl rfl rfl rfl ⟨rfl, rfl, rfl, rfl, rfl⟩ rfl rfl rfl rfl rfl (by kernel_rfl) Try.func10 (by kernel_rfl)
    (of_decide_eq_true (by kernel_rfl)) (by unfold Func.isWrapper; first | (rw [if_pos (by decide +kernel)]; kernel_rfl) | (rw [if_neg (by decide +kernel)]; exact ⟨rfl, rfl⟩))
    (fun os started H enc _ => runs36_lifted os started H enc)
end Go.Proofs.Ythhnhajldhnfmaa
