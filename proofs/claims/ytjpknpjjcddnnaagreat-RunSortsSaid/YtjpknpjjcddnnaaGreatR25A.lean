/- The row of RunSorts. -/
import Derived.Test.YtjpknpjjcddnnaaGreatK14
import Derived.Test.YtjpknpjjcddnnaaGreatK18
set_option linter.unusedVariables false
set_option linter.unusedSimpArgs false
namespace Go.Proofs.YtjpknpjjcddnnaaGreat
open Go.ChangeShapes Go.WideShapes Go.ChangeAt Go.RowKit
set_option maxRecDepth 100000 in
theorem sorts25_lifted (os : Os) (started : os.Started) (H : Type) (enc : TypeId × Value → H) :
  ReturnsInHanded {} Tryz.checked os 5 .any (Rows.runSortsSpec.pre6 enc Tryz.prog Tryz.f5 Rows.runSortsRow.domain false) (Rows.runSortsSpec.post enc Tryz.prog Tryz.f5 false true false false) :=
 law_lifted (fr := true) os started Tryz.func5 (by kernel_rfl)
  (ChangeSpec.witness6 (enc := enc) (C := Tryz.checked) false ⟨#[], #[.slice none 0 0], []⟩ 8 (by kernel_rfl) (by kernel_rfl) (by kernel_rfl) (by kernel_rfl))
  rfl (by kernel_rfl) (by kernel_rfl)
  (fun ds h => match ds, h with | [_], _ => rfl)
  (fun W base args ds p hval h => by
    rw [Tryz.params5] at h hval
    obtain ⟨v0, d0, rfl, rfl, h0⟩ := trodAll_one h
    obtain ⟨m0, r0⟩ := Configs_arg (hval 0 29 v0 rfl rfl) h0
    exact ⟨_, args_one r0, sorts_con25 m0⟩)
theorem sorts25_holds : Rows.RunSortsSaid :=
 OpenClaim.holds_of_wide 5 Tryz.f5 rfl rfl rfl rfl rfl rfl rfl ⟨rfl, rfl, rfl, rfl, rfl⟩ rfl rfl rfl rfl rfl (by kernel_rfl) Tryz.func5 (by kernel_rfl)
  (of_decide_eq_true (by kernel_rfl)) (by unfold Func.isWrapper; first | (rw [if_pos (by decide +kernel)]; kernel_rfl) | (rw [if_neg (by decide +kernel)]; exact ⟨rfl, rfl⟩))
  (fun os started H enc _ => sorts25_lifted os started H enc)
end Go.Proofs.YtjpknpjjcddnnaaGreat
