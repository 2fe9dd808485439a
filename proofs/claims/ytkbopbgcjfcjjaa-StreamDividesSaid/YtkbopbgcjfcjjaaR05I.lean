/- The row of StreamDivides. -/
import Derived.Test.YtkbopbgcjfcjjaaK08
import Derived.Test.YtkbopbgcjfcjjaaK11
import Derived.Test.YtkbopbgcjfcjjaaLR05I
set_option linter.unusedVariables false
set_option linter.unusedSimpArgs false
namespace Go.Proofs.Ytkbopbgcjfcjjaa
open Go.ChangeShapes Go.WideShapes Go.ChangeAt Go.RowKit

set_option maxRecDepth 100000 in
theorem divides05_lifted (os : Os) (started : os.Started) (H : Type) (enc : TypeId × Value → H) :
    ReturnsInHanded {} Try.checked os 4 .any (Rows.streamDividesSpec.pre6 enc Try.prog Try.f4 Rows.streamDividesRow.domain false) (Rows.streamDividesSpec.post enc Try.prog Try.f4 false true false false) :=
  law_lifted (fr := true) os started Try.func4 (by kernel_rfl)
    (ChangeSpec.witness6 (enc := enc) (C := Try.checked) false ⟨#[], #[.slice none 0 0, .slice none 0 0, .int .i64 0], []⟩ 8 (by kernel_rfl) (by kernel_rfl) (by kernel_rfl) (by kernel_rfl))
    rfl (by kernel_rfl) (by kernel_rfl)
    (fun ds h => match ds, h with | [_, _, _], _ => rfl)
    (fun W base args ds p hval h => by
      rw [Try.params4] at h hval
      obtain ⟨v0, v1, v2, d0, d1, d2, p0, p1, p2, rfl, rfl, rfl, h0, h1, h2⟩ := trodAll_three h
      obtain ⟨n2, rfl⟩ := i64_open (hval 2 3 v2 rfl rfl) h2
      obtain ⟨l0, r0⟩ := evs_open (hval 0 22 v0 rfl rfl) h0
      obtain ⟨l1, r1⟩ := ints_open (hval 1 23 v1 rfl rfl) h1
      exact ⟨_, args_three r0 r1 (Rep.int _ _), divides_con05 l0 l1 n2⟩)

theorem divides05_holds : Rows.StreamDividesSaid :=
  OpenClaim.holds_of_wide 4 Try.f4 rfl rfl rfl rfl rfl rfl rfl ⟨rfl, rfl, rfl, rfl, rfl⟩ rfl rfl rfl rfl rfl (by kernel_rfl) Try.func4 (by kernel_rfl)
    (of_decide_eq_true (by kernel_rfl)) (by unfold Func.isWrapper; first | (rw [if_pos (by decide +kernel)]; kernel_rfl) | (rw [if_neg (by decide +kernel)]; exact ⟨rfl, rfl⟩))
    (fun os started H enc _ => divides05_lifted os started H enc)
end Go.Proofs.Ytkbopbgcjfcjjaa
