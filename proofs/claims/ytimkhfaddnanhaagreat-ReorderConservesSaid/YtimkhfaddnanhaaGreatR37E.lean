/- The row of ReorderConserves. -/
import Derived.Test.YtimkhfaddnanhaaGreatK11
import Derived.Test.YtimkhfaddnanhaaGreatK16
import Derived.Test.YtimkhfaddnanhaaGreatLR37E
set_option linter.unusedVariables false
set_option linter.unusedSimpArgs false
namespace Go.Proofs.YtimkhfaddnanhaaGreat
open Go.ChangeShapes Go.WideShapes Go.ChangeAt Go.RowKit

set_option maxRecDepth 100000 in
theorem conserves37_lifted (os : Os) (started : os.Started) (H : Type) (enc : TypeId × Value → H) :
    ReturnsInHanded {} Tryz.checked os 8 .any (Rows.reorderConservesSpec.pre6 enc Tryz.prog Tryz.f8 Rows.reorderConservesRow.domain false) (Rows.reorderConservesSpec.post enc Tryz.prog Tryz.f8 false true false false) :=
  law_lifted (fr := true) os started Tryz.func8 (by kernel_rfl)
    (ChangeSpec.witness6 (enc := enc) (C := Tryz.checked) false ⟨#[], #[.int .u8 0, .slice none 0 0], []⟩ 8 (by kernel_rfl) (by kernel_rfl) (by kernel_rfl) (by kernel_rfl))
    rfl (by kernel_rfl) (by kernel_rfl)
    (fun ds h => match ds, h with | [_, _], _ => rfl)
    (fun W base args ds p hval h => by
      rw [Tryz.params8] at h hval
      obtain ⟨v0, v1, d0, d1, p0, p1, rfl, rfl, rfl, h0, h1⟩ := trodAll_two h
      obtain ⟨n0, b0, rfl⟩ := u8_open (hval 0 5 v0 rfl rfl) h0
      obtain ⟨m1, r1⟩ := Messages_arg (hval 1 32 v1 rfl rfl) h1
      exact ⟨_, args_two (Rep.int _ _) r1, conserves_con37 n0 b0 m1⟩)

theorem conserves37_holds : Rows.ReorderConservesSaid :=
  OpenClaim.holds_of_wide 8 Tryz.f8 rfl rfl rfl rfl rfl rfl rfl ⟨rfl, rfl, rfl, rfl, rfl⟩ rfl rfl rfl rfl rfl (by kernel_rfl) Tryz.func8 (by kernel_rfl)
    (of_decide_eq_true (by kernel_rfl)) (by unfold Func.isWrapper; first | (rw [if_pos (by decide +kernel)]; kernel_rfl) | (rw [if_neg (by decide +kernel)]; exact ⟨rfl, rfl⟩))
    (fun os started H enc _ => conserves37_lifted os started H enc)
end Go.Proofs.YtimkhfaddnanhaaGreat
