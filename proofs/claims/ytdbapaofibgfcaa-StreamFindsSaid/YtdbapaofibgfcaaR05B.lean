/- The row of StreamFinds. -/
import Derived.Test.YtdbapaofibgfcaaRowV
import Derived.Test.YtdbapaofibgfcaaRowU
import Derived.Test.YtdbapaofibgfcaaP05K
set_option linter.unusedVariables false
set_option linter.unusedSimpArgs false
namespace Go.Proofs.Ytdbapaofibgfcaa
open Go.ChangeShapes Go.WideShapes Go.ChangeAt Go.RowKit

set_option maxRecDepth 100000 in
theorem finds05_lifted (os : Os) (started : os.Started) (H : Type) (enc : TypeId × Value → H) :
    ReturnsInHanded {} Try.checked os 4 .any (Rows.streamFindsSpec.pre6 enc Try.prog Try.f4 Rows.streamFindsRow.domain false) (Rows.streamFindsSpec.post enc Try.prog Try.f4 false true false false) :=
  law_lifted (fr := true) os started Try.func4 (by kernel_rfl)
    (ChangeSpec.witness6 (enc := enc) (C := Try.checked) false ⟨#[], #[.slice none 0 0, .agg #[.int .i64 0, .int .i64 0, .int .i64 0]], []⟩ 8 (by kernel_rfl) (by kernel_rfl) (by kernel_rfl) (by kernel_rfl))
    rfl (by kernel_rfl) (by kernel_rfl)
    (fun ds h => match ds, h with | [_, _], _ => rfl)
    (fun W base args ds p hval h => by
      rw [Try.params4] at h hval
      obtain ⟨v0, v1, d0, d1, p0, p1, rfl, rfl, rfl, h0, h1⟩ := trodAll_two h
      obtain ⟨l0, r0⟩ := evs_open (hval 0 22 v0 rfl rfl) h0
      obtain ⟨m1, r1⟩ := ref_open (hval 1 34 v1 rfl rfl) h1
      exact ⟨_, args_two r0 r1, finds_con05 l0 m1⟩)

theorem finds05_holds : Rows.StreamFindsSaid :=
  OpenClaim.holds_of_wide 4 Try.f4 rfl rfl rfl rfl rfl rfl rfl ⟨rfl, rfl, rfl, rfl, rfl⟩ rfl rfl rfl rfl rfl (by kernel_rfl) Try.func4 (by kernel_rfl)
    (of_decide_eq_true (by kernel_rfl)) (by unfold Func.isWrapper; first | (rw [if_pos (by decide +kernel)]; kernel_rfl) | (rw [if_neg (by decide +kernel)]; exact ⟨rfl, rfl⟩))
    (fun os started H enc _ => finds05_lifted os started H enc)
end Go.Proofs.Ytdbapaofibgfcaa
