/- The row of PunctuationCommutes. -/
import Derived.Test.YthhnhajldhnfmaaRowK
import Derived.Test.YthhnhajldhnfmaaAm6
import Derived.Test.YthhnhajldhnfmaaRow1
set_option linter.unusedVariables false
set_option linter.unusedSimpArgs false
namespace Go.Proofs.Ythhnhajldhnfmaa
open Go.ChangeShapes Go.WideShapes Go.ChangeAt Go.RowKit

set_option maxRecDepth 100000 in
theorem commutes_lifted (os : Os) (started : os.Started) (H : Type) (enc : TypeId × Value → H) :
    ReturnsInHanded {} Try.checked os 5 .any (Rows.punctuationCommutesSpec.pre6 enc Try.prog Try.f5 Rows.punctuationCommutesRow.domain false) (Rows.punctuationCommutesSpec.post enc Try.prog Try.f5 false true false false) :=
  law_lifted (fr := true) os started Try.func5 (by kernel_rfl)
    (ChangeSpec.witness6 (enc := enc) (C := Try.checked) false ⟨#[], #[.agg #[.int .i64 0, .slice none 0 0, .slice none 0 0, .int .i64 0], .slice none 0 0, .int .u8 0], []⟩ 8 (by kernel_rfl) (by kernel_rfl) (by kernel_rfl) (by kernel_rfl))
    rfl (by kernel_rfl) (by kernel_rfl)
    (fun ds h => match ds, h with | [_, _, _], _ => rfl)
    (fun W base args ds p hval h => by
      rw [Try.params5] at h hval
      obtain ⟨v0, v1, v2, d0, d1, d2, p0, p1, p2, rfl, rfl, rfl, h0, h1, h2⟩ := trodAll_three h
      obtain ⟨t0, r0⟩ := trk_open (hval 0 25 v0 rfl rfl) h0
      obtain ⟨l1, r1⟩ := ptsArg_open (hval 1 23 v1 rfl rfl) h1
      obtain ⟨n2, b2, rfl⟩ := u8_open (hval 2 5 v2 rfl rfl) h2
      exact ⟨_, args_three (rep_trk.2 r0) (rep_pts.2 r1) (Rep.int _ _), commutes_con t0 l1 n2 b2⟩)

theorem commutes_holds : Rows.PunctuationCommutesSaid :=
  OpenClaim.holds_of_wide 5 Try.f5 rfl rfl rfl rfl rfl rfl rfl ⟨rfl, rfl, rfl, rfl, rfl⟩ rfl rfl rfl rfl rfl (by kernel_rfl) Try.func5 (by kernel_rfl)
    (of_decide_eq_true (by kernel_rfl)) (by unfold Func.isWrapper; first | (rw [if_pos (by decide +kernel)]; kernel_rfl) | (rw [if_neg (by decide +kernel)]; exact ⟨rfl, rfl⟩))
    (fun os started H enc _ => commutes_lifted os started H enc)
end Go.Proofs.Ythhnhajldhnfmaa
