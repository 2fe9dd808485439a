/- The row of StreamTurns. -/
import Derived.Test.YtdbapaofibgfcaaRowV
import Derived.Test.YtdbapaofibgfcaaRowU
import Derived.Test.YtdbapaofibgfcaaP05G
set_option linter.unusedVariables false
set_option linter.unusedSimpArgs false
namespace Go.Proofs.Ytdbapaofibgfcaa
open Go.ChangeShapes Go.WideShapes Go.ChangeAt Go.RowKit

set_option maxRecDepth 100000 in
theorem turns05_lifted (os : Os) (started : os.Started) (H : Type) (enc : TypeId × Value → H) :
    ReturnsInHanded {} Try.checked os 9 .any (Rows.streamTurnsSpec.pre6 enc Try.prog Try.f9 Rows.streamTurnsRow.domain false) (Rows.streamTurnsSpec.post enc Try.prog Try.f9 false true false false) :=
  law_lifted (fr := true) os started Try.func9 (by kernel_rfl)
    (ChangeSpec.witness6 (enc := enc) (C := Try.checked) false ⟨#[], #[.slice none 0 0, .int .u8 0], []⟩ 8 (by kernel_rfl) (by kernel_rfl) (by kernel_rfl) (by kernel_rfl))
    rfl (by kernel_rfl) (by kernel_rfl)
    (fun ds h => match ds, h with | [_, _], _ => rfl)
    (fun W base args ds p hval h => by
      rw [Try.params9] at h hval
      obtain ⟨v0, v1, d0, d1, p0, p1, rfl, rfl, rfl, h0, h1⟩ := trodAll_two h
      obtain ⟨n1, b1, rfl⟩ := u8_open (hval 1 5 v1 rfl rfl) h1
      obtain ⟨l0, r0⟩ := evs_open (hval 0 22 v0 rfl rfl) h0
      exact ⟨_, args_two r0 (Rep.int _ _), turns_con05 l0 n1 b1⟩)

theorem turns05_holds : Rows.StreamTurnsSaid :=
  OpenClaim.holds_of_wide 9 Try.f9 rfl rfl rfl rfl rfl rfl rfl ⟨rfl, rfl, rfl, rfl, rfl⟩ rfl rfl rfl rfl rfl (by kernel_rfl) Try.func9 (by kernel_rfl)
    (of_decide_eq_true (by kernel_rfl)) (by unfold Func.isWrapper; first | (rw [if_pos (by decide +kernel)]; kernel_rfl) | (rw [if_neg (by decide +kernel)]; exact ⟨rfl, rfl⟩))
    (fun os started H enc _ => turns05_lifted os started H enc)
end Go.Proofs.Ytdbapaofibgfcaa
