/- The row of ReaderDivides. -/
import Derived.Test.YtcbdhigllelmcaaGreatK11
import Derived.Test.YtcbdhigllelmcaaGreatK16
import Derived.Test.YtcbdhigllelmcaaGreatLR47D
set_option linter.unusedVariables false
set_option linter.unusedSimpArgs false
namespace Go.Proofs.YtcbdhigllelmcaaGreat
open Go.ChangeShapes Go.WideShapes Go.ChangeAt Go.RowKit

set_option maxRecDepth 100000 in
theorem divides47_lifted (os : Os) (started : os.Started) (H : Type) (enc : TypeId × Value → H) :
    ReturnsInHanded {} Tryz.checked os 7 .any (Rows.readerDividesSpec.pre6 enc Tryz.prog Tryz.f7 Rows.readerDividesRow.domain false) (Rows.readerDividesSpec.post enc Tryz.prog Tryz.f7 false true false false) :=
  law_lifted (fr := true) os started Tryz.func7 (by kernel_rfl)
    (ChangeSpec.witness6 (enc := enc) (C := Tryz.checked) false ⟨#[], #[.slice none 0 0, .slice none 0 0, .int .u8 0], []⟩ 8 (by kernel_rfl) (by kernel_rfl) (by kernel_rfl) (by kernel_rfl))
    rfl (by kernel_rfl) (by kernel_rfl)
    (fun ds h => match ds, h with | [_, _, _], _ => rfl)
    (fun W base args ds p hval h => by
      rw [Tryz.params7] at h hval
      obtain ⟨v0, v1, v2, d0, d1, d2, p0, p1, p2, rfl, rfl, rfl, h0, h1, h2⟩ := trodAll_three h
      obtain ⟨n2, b2, rfl⟩ := u8_open (hval 2 5 v2 rfl rfl) h2
      obtain ⟨m0, r0⟩ := Schemas_arg (hval 0 22 v0 rfl rfl) h0
      have b0 : m0.length ≤ 9223372036854775807 := by have b := sl_max Tryz.underlying22 r0 h0; rwa [List.length_map] at b
      obtain ⟨m1, r1⟩ := Messages_arg (hval 1 29 v1 rfl rfl) h1
      exact ⟨_, args_three r0 r1 (Rep.int _ _), divides_con47 m0 b0 m1 n2 b2⟩)

theorem divides47_holds : Rows.ReaderDividesSaid :=
  OpenClaim.holds_of_wide 7 Tryz.f7 rfl rfl rfl rfl rfl rfl rfl ⟨rfl, rfl, rfl, rfl, rfl⟩ rfl rfl rfl rfl rfl (by kernel_rfl) Tryz.func7 (by kernel_rfl)
    (of_decide_eq_true (by kernel_rfl)) (by unfold Func.isWrapper; first | (rw [if_pos (by decide +kernel)]; kernel_rfl) | (rw [if_neg (by decide +kernel)]; exact ⟨rfl, rfl⟩))
    (fun os started H enc _ => divides47_lifted os started H enc)
end Go.Proofs.YtcbdhigllelmcaaGreat
