/- The row of ReorderEnds. -/
import Derived.Test.YtimkhfaddnanhaaGreatK11
import Derived.Test.YtimkhfaddnanhaaGreatK16
import Derived.Test.YtimkhfaddnanhaaGreatLR37F
set_option linter.unusedVariables false
set_option linter.unusedSimpArgs false
namespace Go.Proofs.YtimkhfaddnanhaaGreat
open Go.ChangeShapes Go.WideShapes Go.ChangeAt Go.RowKit

set_option maxRecDepth 100000 in
theorem ends37_lifted (os : Os) (started : os.Started) (H : Type) (enc : TypeId × Value → H) :
    ReturnsInHanded {} Tryz.checked os 6 .any (Rows.reorderEndsSpec.pre6 enc Tryz.prog Tryz.f6 Rows.reorderEndsRow.domain false) (Rows.reorderEndsSpec.post enc Tryz.prog Tryz.f6 false true false false) :=
  law_lifted (fr := true) os started Tryz.func6 (by kernel_rfl)
    (ChangeSpec.witness6 (enc := enc) (C := Tryz.checked) false ⟨#[], #[.int .u8 0, .slice none 0 0], []⟩ 8 (by kernel_rfl) (by kernel_rfl) (by kernel_rfl) (by kernel_rfl))
    rfl (by kernel_rfl) (by kernel_rfl)
    (fun ds h => match ds, h with | [_, _], _ => rfl)
    (fun W base args ds p hval h => by
      rw [Tryz.params6] at h hval
      obtain ⟨v0, v1, d0, d1, p0, p1, rfl, rfl, rfl, h0, h1⟩ := trodAll_two h
      obtain ⟨n0, b0, rfl⟩ := u8_open (hval 0 5 v0 rfl rfl) h0
      obtain ⟨m1, r1⟩ := Messages_arg (hval 1 32 v1 rfl rfl) h1
      exact ⟨_, args_two (Rep.int _ _) r1, ends_con37 n0 b0 m1⟩)

theorem ends37_holds : Rows.ReorderEndsSaid :=
  OpenClaim.holds_of_wide 6 Tryz.f6 rfl rfl rfl rfl rfl rfl rfl ⟨rfl, rfl, rfl, rfl, rfl⟩ rfl rfl rfl rfl rfl (by kernel_rfl) Tryz.func6 (by kernel_rfl)
    (of_decide_eq_true (by kernel_rfl)) (by unfold Func.isWrapper; first | (rw [if_pos (by decide +kernel)]; kernel_rfl) | (rw [if_neg (by decide +kernel)]; exact ⟨rfl, rfl⟩))
    (fun os started H enc _ => ends37_lifted os started H enc)
end Go.Proofs.YtimkhfaddnanhaaGreat
