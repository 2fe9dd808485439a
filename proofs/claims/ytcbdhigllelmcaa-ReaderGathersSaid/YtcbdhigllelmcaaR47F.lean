/- The row of ReaderGathers. -/
import Derived.Test.YtcbdhigllelmcaaK10
import Derived.Test.YtcbdhigllelmcaaK13
set_option linter.unusedVariables false
set_option linter.unusedSimpArgs false
namespace Go.Proofs.Ytcbdhigllelmcaa
open Go.ChangeShapes Go.WideShapes Go.ChangeAt Go.RowKit

set_option maxRecDepth 100000 in
theorem gathers47_lifted (os : Os) (started : os.Started) (H : Type) (enc : TypeId × Value → H) :
    ReturnsInHanded {} Try.checked os 3 .any (Rows.readerGathersSpec.pre6 enc Try.prog Try.f3 Rows.readerGathersRow.domain false) (Rows.readerGathersSpec.post enc Try.prog Try.f3 false true false false) :=
  law_lifted (fr := true) os started Try.func3 (by kernel_rfl)
    (ChangeSpec.witness6 (enc := enc) (C := Try.checked) false ⟨#[], #[.agg #[.int .i64 0, .int .i64 0, .int .i64 0, .int .i64 0, .slice none 0 0], .agg #[.int .i64 0, .int .i64 0, .int .i64 0, .int .i64 0, .slice none 0 0], .agg #[.slice none 0 0, .int .i64 0]], []⟩ 8 (by kernel_rfl) (by kernel_rfl) (by kernel_rfl) (by kernel_rfl))
    rfl (by kernel_rfl) (by kernel_rfl)
    (fun ds h => match ds, h with | [_, _, _], _ => rfl)
    (fun W base args ds p hval h => by
      rw [Try.params3] at h hval
      obtain ⟨v0, v1, v2, d0, d1, d2, p0, p1, p2, rfl, rfl, rfl, h0, h1, h2⟩ := trodAll_three h
      obtain ⟨m0, r0⟩ := Event_arg (hval 0 24 v0 rfl rfl) h0
      obtain ⟨m1, r1⟩ := Event_arg (hval 1 24 v1 rfl rfl) h1
      obtain ⟨m2, r2⟩ := tidegatelaw47_Routing_arg (hval 2 27 v2 rfl rfl) h2
      exact ⟨_, args_three r0 r1 r2, gathers_con47 m0 m1 m2⟩)

theorem gathers47_holds : Rows.ReaderGathersSaid :=
  OpenClaim.holds_of_wide 3 Try.f3 rfl rfl rfl rfl rfl rfl rfl ⟨rfl, rfl, rfl, rfl, rfl⟩ rfl rfl rfl rfl rfl (by kernel_rfl) Try.func3 (by kernel_rfl)
    (of_decide_eq_true (by kernel_rfl)) (by unfold Func.isWrapper; first | (rw [if_pos (by decide +kernel)]; kernel_rfl) | (rw [if_neg (by decide +kernel)]; exact ⟨rfl, rfl⟩))
    (fun os started H enc _ => gathers47_lifted os started H enc)
end Go.Proofs.Ytcbdhigllelmcaa
