/- The row of ReaderPromises. -/
import Derived.Test.YtcbdhigllelmcaaGreatK11
import Derived.Test.YtcbdhigllelmcaaGreatK16
import Derived.Test.YtcbdhigllelmcaaGreatLR47E
set_option linter.unusedVariables false
set_option linter.unusedSimpArgs false
namespace Go.Proofs.YtcbdhigllelmcaaGreat
open Go.ChangeShapes Go.WideShapes Go.ChangeAt Go.RowKit

set_option maxRecDepth 100000 in
theorem promises47_lifted (os : Os) (started : os.Started) (H : Type) (enc : TypeId × Value → H) :
    ReturnsInHanded {} Tryz.checked os 5 .any (Rows.readerPromisesSpec.pre6 enc Tryz.prog Tryz.f5 Rows.readerPromisesRow.domain false) (Rows.readerPromisesSpec.post enc Tryz.prog Tryz.f5 false true false false) :=
  law_lifted (fr := true) os started Tryz.func5 (by kernel_rfl)
    (ChangeSpec.witness6 (enc := enc) (C := Tryz.checked) false ⟨#[], #[.slice none 0 0, .slice none 0 0], []⟩ 8 (by kernel_rfl) (by kernel_rfl) (by kernel_rfl) (by kernel_rfl))
    rfl (by kernel_rfl) (by kernel_rfl)
    (fun ds h => match ds, h with | [_, _], _ => rfl)
    (fun W base args ds p hval h => by
      rw [Tryz.params5] at h hval
      obtain ⟨v0, v1, d0, d1, p0, p1, rfl, rfl, rfl, h0, h1⟩ := trodAll_two h
      obtain ⟨m0, r0⟩ := Schemas_arg (hval 0 22 v0 rfl rfl) h0
      have b0 : m0.length ≤ 9223372036854775807 := by have b := sl_max Tryz.underlying22 r0 h0; rwa [List.length_map] at b
      obtain ⟨m1, r1⟩ := Messages_arg (hval 1 29 v1 rfl rfl) h1
      exact ⟨_, args_two r0 r1, promises_con47 m0 b0 m1⟩)

theorem promises47_holds : Rows.ReaderPromisesSaid :=
  OpenClaim.holds_of_wide 5 Tryz.f5 rfl rfl rfl rfl rfl rfl rfl ⟨rfl, rfl, rfl, rfl, rfl⟩ rfl rfl rfl rfl rfl (by kernel_rfl) Tryz.func5 (by kernel_rfl)
    (of_decide_eq_true (by kernel_rfl)) (by unfold Func.isWrapper; first | (rw [if_pos (by decide +kernel)]; kernel_rfl) | (rw [if_neg (by decide +kernel)]; exact ⟨rfl, rfl⟩))
    (fun os started H enc _ => promises47_lifted os started H enc)
end Go.Proofs.YtcbdhigllelmcaaGreat
