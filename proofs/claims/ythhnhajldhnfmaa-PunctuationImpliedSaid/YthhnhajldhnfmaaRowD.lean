/- The row of PunctuationImplied. -/
import Derived.Test.YthhnhajldhnfmaaRowK
import Derived.Test.YthhnhajldhnfmaaAm5
set_option linter.unusedVariables false
set_option linter.unusedSimpArgs false
namespace Go.Proofs.Ythhnhajldhnfmaa
open Go.ChangeShapes Go.WideShapes Go.ChangeAt Go.RowKit

set_option maxRecDepth 100000 in
theorem implied_lifted (os : Os) (started : os.Started) (H : Type) (enc : TypeId × Value → H) :
    ReturnsInHanded {} Try.checked os 7 .any (Rows.punctuationImpliedSpec.pre6 enc Try.prog Try.f7 Rows.punctuationImpliedRow.domain false) (Rows.punctuationImpliedSpec.post enc Try.prog Try.f7 false true false false) :=
  law_lifted (fr := true) os started Try.func7 (by kernel_rfl)
    (ChangeSpec.witness6 (enc := enc) (C := Try.checked) false ⟨#[], #[.agg #[.int .i64 0, .slice none 0 0, .slice none 0 0, .int .i64 0], .agg #[.int .i64 0, .int .i64 0], .agg #[.int .i64 0, .int .i64 0]], []⟩ 8 (by kernel_rfl) (by kernel_rfl) (by kernel_rfl) (by kernel_rfl))
    rfl (by kernel_rfl) (by kernel_rfl)
    (fun ds h => match ds, h with | [_, _, _], _ => rfl)
    (fun W base args ds p hval h => by
      rw [Try.params7] at h hval
      obtain ⟨v0, v1, v2, d0, d1, d2, p0, p1, p2, rfl, rfl, rfl, h0, h1, h2⟩ := trodAll_three h
      obtain ⟨t0, r0⟩ := trk_open (hval 0 25 v0 rfl rfl) h0
      obtain ⟨s1, u1, rfl⟩ := pt_open (hval 1 27 v1 rfl rfl) h1
      obtain ⟨s2, u2, rfl⟩ := pt_open (hval 2 27 v2 rfl rfl) h2
      exact ⟨_, args_three (rep_trk.2 r0) (rep_pt_mk s1 u1) (rep_pt_mk s2 u2), implied_con t0 ⟨s1, u1⟩ ⟨s2, u2⟩⟩)

theorem implied_holds : Rows.PunctuationImpliedSaid :=
  OpenClaim.holds_of_wide 7 Try.f7 rfl rfl rfl rfl rfl rfl rfl ⟨rfl, rfl, rfl, rfl, rfl⟩ rfl rfl rfl rfl rfl (by kernel_rfl) Try.func7 (by kernel_rfl)
    (of_decide_eq_true (by kernel_rfl)) (by unfold Func.isWrapper; first | (rw [if_pos (by decide +kernel)]; kernel_rfl) | (rw [if_neg (by decide +kernel)]; exact ⟨rfl, rfl⟩))
    (fun os started H enc _ => implied_lifted os started H enc)
end Go.Proofs.Ythhnhajldhnfmaa
