/- The row of PunctuationAdds. -/
import Derived.Test.YthhnhajldhnfmaaRowK
import Derived.Test.YthhnhajldhnfmaaAm4
set_option linter.unusedVariables false
set_option linter.unusedSimpArgs false
namespace Go.Proofs.Ythhnhajldhnfmaa
open Go.ChangeShapes Go.WideShapes Go.ChangeAt Go.RowKit

theorem rep_pt_mk {w : World} {S : Nat → Prop} {γ : Gam} (s t : Int) : Rep w S γ (aPt ⟨s, t⟩) (.agg #[.int .i64 s, .int .i64 t]) :=
  .agg _ rfl (fun i hi => by
    have hi' : i < 2 := hi
    rcases i with _ | _ | i
    · exact .int _ _
    · exact .int _ _
    · omega) (fun i hi => by
    have hi' : i < 2 := hi
    rcases i with _ | _ | i
    · rfl
    · rfl
    · omega)
theorem args_two {w : World} {S : Nat → Prop} {a b : AV} {x y : Value} (ha : Rep w S G0 a x) (hb : Rep w S G0 b y) : Args w S [a, b] #[x, y] :=
  ⟨rfl, fun i hi => by
    have hi' : i < 2 := hi
    rcases i with _ | _ | i
    · exact ha
    · exact hb
    · omega⟩

set_option maxRecDepth 100000 in
theorem adds_lifted (os : Os) (started : os.Started) (H : Type) (enc : TypeId × Value → H) :
    ReturnsInHanded {} Try.checked os 4 .any (Rows.punctuationAddsSpec.pre6 enc Try.prog Try.f4 Rows.punctuationAddsRow.domain false) (Rows.punctuationAddsSpec.post enc Try.prog Try.f4 false true false false) :=
  law_lifted (fr := true) os started Try.func4 (by kernel_rfl)
    (ChangeSpec.witness6 (enc := enc) (C := Try.checked) false ⟨#[], #[.agg #[.int .i64 0, .slice none 0 0, .slice none 0 0, .int .i64 0], .agg #[.int .i64 0, .int .i64 0]], []⟩ 8 (by kernel_rfl) (by kernel_rfl) (by kernel_rfl) (by kernel_rfl))
    rfl (by kernel_rfl) (by kernel_rfl)
    (fun ds h => match ds, h with | [_, _], _ => rfl)
    (fun W base args ds p hval h => by
      rw [Try.params4] at h hval
      obtain ⟨v0, v1, d0, d1, p0, p1, rfl, rfl, rfl, h0, h1⟩ := trodAll_two h
      obtain ⟨t, ht⟩ := trk_open (hval 0 25 v0 rfl rfl) h0
      obtain ⟨s0, s1, rfl⟩ := pt_open (hval 1 27 v1 rfl rfl) h1
      exact ⟨_, args_two (rep_trk.2 ht) (rep_pt_mk s0 s1), adds_con t ⟨s0, s1⟩⟩)

theorem adds_holds : Rows.PunctuationAddsSaid :=
  OpenClaim.holds_of_wide 4 Try.f4 rfl rfl rfl rfl rfl rfl rfl ⟨rfl, rfl, rfl, rfl, rfl⟩ rfl rfl rfl rfl rfl (by kernel_rfl) Try.func4 (by kernel_rfl)
    (of_decide_eq_true (by kernel_rfl)) (by unfold Func.isWrapper; first | (rw [if_pos (by decide +kernel)]; kernel_rfl) | (rw [if_neg (by decide +kernel)]; exact ⟨rfl, rfl⟩))
    (fun os started H enc _ => adds_lifted os started H enc)
end Go.Proofs.Ythhnhajldhnfmaa
