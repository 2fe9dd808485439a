/- The row of ReorderSettles. -/
import Derived.Test.YtimkhfaddnanhaaGreatK11
import Derived.Test.YtimkhfaddnanhaaGreatK16
import Derived.Test.YtimkhfaddnanhaaGreatLR37G
set_option linter.unusedVariables false
set_option linter.unusedSimpArgs false
namespace Go.Proofs.YtimkhfaddnanhaaGreat
open Go.ChangeShapes Go.WideShapes Go.ChangeAt Go.RowKit

set_option maxRecDepth 100000 in
theorem settles37_lifted (os : Os) (started : os.Started) (H : Type) (enc : TypeId × Value → H) :
    ReturnsInHanded {} Tryz.checked os 5 .any (Rows.reorderSettlesSpec.pre6 enc Tryz.prog Tryz.f5 Rows.reorderSettlesRow.domain false) (Rows.reorderSettlesSpec.post enc Tryz.prog Tryz.f5 false true false false) :=
  law_lifted (fr := true) os started Tryz.func5 (by kernel_rfl)
    (ChangeSpec.witness6 (enc := enc) (C := Tryz.checked) false ⟨#[], #[.int .u8 0, .slice none 0 0, .int .u8 0], []⟩ 8 (by kernel_rfl) (by kernel_rfl) (by kernel_rfl) (by kernel_rfl))
    rfl (by kernel_rfl) (by kernel_rfl)
    (fun ds h => match ds, h with | [_, _, _], _ => rfl)
    (fun W base args ds p hval h => by
      rw [Tryz.params5] at h hval
      obtain ⟨v0, v1, v2, d0, d1, d2, p0, p1, p2, rfl, rfl, rfl, h0, h1, h2⟩ := trodAll_three h
      obtain ⟨n0, b0, rfl⟩ := u8_open (hval 0 5 v0 rfl rfl) h0
      obtain ⟨n2, b2, rfl⟩ := u8_open (hval 2 5 v2 rfl rfl) h2
      obtain ⟨m1, r1⟩ := Messages_arg (hval 1 32 v1 rfl rfl) h1
      exact ⟨_, args_three (Rep.int _ _) r1 (Rep.int _ _), settles_con37 n0 b0 m1 n2 b2⟩)

theorem settles37_holds : Rows.ReorderSettlesSaid :=
  OpenClaim.holds_of_wide 5 Tryz.f5 rfl rfl rfl rfl rfl rfl rfl ⟨rfl, rfl, rfl, rfl, rfl⟩ rfl rfl rfl rfl rfl (by kernel_rfl) Tryz.func5 (by kernel_rfl)
    (of_decide_eq_true (by kernel_rfl)) (by unfold Func.isWrapper; first | (rw [if_pos (by decide +kernel)]; kernel_rfl) | (rw [if_neg (by decide +kernel)]; exact ⟨rfl, rfl⟩))
    (fun os started H enc _ => settles37_lifted os started H enc)
end Go.Proofs.YtimkhfaddnanhaaGreat
