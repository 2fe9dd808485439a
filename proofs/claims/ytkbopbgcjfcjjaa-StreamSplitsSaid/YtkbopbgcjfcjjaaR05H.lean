/- The row of StreamSplits. -/
import Derived.Test.YtkbopbgcjfcjjaaK08
import Derived.Test.YtkbopbgcjfcjjaaK11
import Derived.Test.YtkbopbgcjfcjjaaLR05H
set_option linter.unusedVariables false
set_option linter.unusedSimpArgs false
namespace Go.Proofs.Ytkbopbgcjfcjjaa
open Go.ChangeShapes Go.WideShapes Go.ChangeAt Go.RowKit

set_option maxRecDepth 100000 in
theorem splits05_lifted (os : Os) (started : os.Started) (H : Type) (enc : TypeId × Value → H) :
    ReturnsInHanded {} Try.checked os 3 .any (Rows.streamSplitsSpec.pre6 enc Try.prog Try.f3 Rows.streamSplitsRow.domain false) (Rows.streamSplitsSpec.post enc Try.prog Try.f3 false true false false) :=
  law_lifted (fr := true) os started Try.func3 (by kernel_rfl)
    (ChangeSpec.witness6 (enc := enc) (C := Try.checked) false ⟨#[], #[.slice none 0 0, .slice none 0 0], []⟩ 8 (by kernel_rfl) (by kernel_rfl) (by kernel_rfl) (by kernel_rfl))
    rfl (by kernel_rfl) (by kernel_rfl)
    (fun ds h => match ds, h with | [_, _], _ => rfl)
    (fun W base args ds p hval h => by
      rw [Try.params3] at h hval
      obtain ⟨v0, v1, d0, d1, p0, p1, rfl, rfl, rfl, h0, h1⟩ := trodAll_two h
      obtain ⟨l0, r0⟩ := evs_open (hval 0 22 v0 rfl rfl) h0
      obtain ⟨l1, r1⟩ := ints_open (hval 1 23 v1 rfl rfl) h1
      exact ⟨_, args_two r0 r1, splits_con05 l0 l1⟩)

theorem splits05_holds : Rows.StreamSplitsSaid :=
  OpenClaim.holds_of_wide 3 Try.f3 rfl rfl rfl rfl rfl rfl rfl ⟨rfl, rfl, rfl, rfl, rfl⟩ rfl rfl rfl rfl rfl (by kernel_rfl) Try.func3 (by kernel_rfl)
    (of_decide_eq_true (by kernel_rfl)) (by unfold Func.isWrapper; first | (rw [if_pos (by decide +kernel)]; kernel_rfl) | (rw [if_neg (by decide +kernel)]; exact ⟨rfl, rfl⟩))
    (fun os started H enc _ => splits05_lifted os started H enc)
end Go.Proofs.Ytkbopbgcjfcjjaa
