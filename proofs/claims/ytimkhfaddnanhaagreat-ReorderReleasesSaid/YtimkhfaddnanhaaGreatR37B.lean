/- The row of ReorderReleases. -/
import Derived.Test.YtimkhfaddnanhaaGreatK11
import Derived.Test.YtimkhfaddnanhaaGreatK16
import Derived.Test.YtimkhfaddnanhaaGreatLR37B
set_option linter.unusedVariables false
set_option linter.unusedSimpArgs false
namespace Go.Proofs.YtimkhfaddnanhaaGreat
open Go.ChangeShapes Go.WideShapes Go.ChangeAt Go.RowKit

set_option maxRecDepth 100000 in
theorem releases37_lifted (os : Os) (started : os.Started) (H : Type) (enc : TypeId × Value → H) :
    ReturnsInHanded {} Tryz.checked os 7 .any (Rows.reorderReleasesSpec.pre6 enc Tryz.prog Tryz.f7 Rows.reorderReleasesRow.domain false) (Rows.reorderReleasesSpec.post enc Tryz.prog Tryz.f7 false true false false) :=
  law_lifted (fr := true) os started Tryz.func7 (by kernel_rfl)
    (ChangeSpec.witness6 (enc := enc) (C := Tryz.checked) false ⟨#[], #[.slice none 0 0, .slice none 0 0], []⟩ 8 (by kernel_rfl) (by kernel_rfl) (by kernel_rfl) (by kernel_rfl))
    rfl (by kernel_rfl) (by kernel_rfl)
    (fun ds h => match ds, h with | [_, _], _ => rfl)
    (fun W base args ds p hval h => by
      rw [Tryz.params7] at h hval
      obtain ⟨v0, v1, d0, d1, p0, p1, rfl, rfl, rfl, h0, h1⟩ := trodAll_two h
      obtain ⟨m0, r0⟩ := Trackers_arg (hval 0 22 v0 rfl rfl) h0
      obtain ⟨m1, r1⟩ := Events_arg (hval 1 23 v1 rfl rfl) h1
      exact ⟨_, args_two r0 r1, releases_con37 m0 m1⟩)

theorem releases37_holds : Rows.ReorderReleasesSaid :=
  OpenClaim.holds_of_wide 7 Tryz.f7 rfl rfl rfl rfl rfl rfl rfl ⟨rfl, rfl, rfl, rfl, rfl⟩ rfl rfl rfl rfl rfl (by kernel_rfl) Tryz.func7 (by kernel_rfl)
    (of_decide_eq_true (by kernel_rfl)) (by unfold Func.isWrapper; first | (rw [if_pos (by decide +kernel)]; kernel_rfl) | (rw [if_neg (by decide +kernel)]; exact ⟨rfl, rfl⟩))
    (fun os started H enc _ => releases37_lifted os started H enc)
end Go.Proofs.YtimkhfaddnanhaaGreat
