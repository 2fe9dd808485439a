/- The row of PunctuationChecks. -/
import Derived.Test.YthhnhajldhnfmaaRows
import Derived.Test.YthhnhajldhnfmaaPunM
import Derived.ProofKit
import Derived.Lib.SmallJoins
import Derived.Carry
import Derived.Below
import Derived.Test.YthhnhajldhnfmaaRow0
set_option linter.unusedVariables false
namespace Go.Proofs.Ythhnhajldhnfmaa
open Go.ChangeShapes Go.WideShapes Go.ChangeAt Go.RowKit

theorem Try.own : ownKnob Try.prog.godebug = none := by kernel_rfl
theorem Try.laidOut : laidOutB Try.prog = true := by kernel_rfl

set_option maxRecDepth 100000 in
theorem checks_lifted (os : Os) (started : os.Started) (H : Type) (enc : TypeId × Value → H) :
    ReturnsInHanded {} Try.checked os 3 .any (Rows.punctuationChecksSpec.pre6 enc Try.prog Try.f3 Rows.punctuationChecksRow.domain false) (Rows.punctuationChecksSpec.post enc Try.prog Try.f3 false true false false) := by
  refine returnsInHanded_of_change (C := Try.checked) Try.own started (by kernel_rfl) Try.func3
    (ChangeSpec.witness6 (enc := enc) (C := Try.checked) false ⟨#[], #[.agg #[.int .i64 0, .slice none 0 0, .slice none 0 0, .int .i64 0], .agg #[.int .i64 0, .int .i64 0, .int .i64 0, .int .i64 0], .agg #[.int .i64 0, .int .i64 0]], []⟩ 8 (by kernel_rfl) (by kernel_rfl) (by kernel_rfl) (by kernel_rfl)) ?_
  intro W base args ds gs before hval0 hW hcnd _
  have hval : ∀ (j : Nat) t v, Try.f3.params[j]? = some t → args[j]? = some v → Value.okWide Try.prog W .any base t v := hval0
  have hW' := hW
  obtain ⟨p, q, hA0, hV, rfl, hfz, hnd⟩ := hW
  have hA : DataW.TrodAll enc Try.prog W 0 (fun _ => true) true Try.f3.params.toList args.toList ds p := hA0
  rw [Try.params3] at hA hval
  obtain ⟨v0, v1, v2, d0, d1, d2, p0, p1, p2, rfl, rfl, rfl, h0, h1, h2⟩ := trodAll_three hA
  obtain ⟨rfl, rfl⟩ := trodVars_none hV
  have w0 := hval 0 25 v0 rfl rfl
  have w1 := hval 1 28 v1 rfl rfl
  have w2 := hval 2 27 v2 rfl rfl
  obtain ⟨t, ht⟩ := trk_open w0 h0
  obtain ⟨a0, a1, b0, b1, rfl⟩ := arr_open w1 h1
  obtain ⟨s0, s1, rfl⟩ := pt_open w2 h2
  clear hA0 hval0 w0 w1 w2 hval hA
  have hlt : ∀ p ∈ p0 ++ p1 ++ p2 ++ [], p.block < W.heap.size := fun p hp => DataW.Whole.lt hW' p hp
  refine (checks_any t a0 a1 b0 b1 s0 s1 _ v0 W ht).mono fun e W' ⟨he, hb⟩ => ?_
  subst he
  have k0 := Below.trod Try.laidOut (by kernel_rfl) (by decide +kernel) h0 hb (fun x hx => hlt x (by simp [hx]))
  have k1 := Below.trod Try.laidOut (by kernel_rfl) (by decide +kernel) h1 hb (fun x hx => hlt x (by simp [hx]))
  have k2 := Below.trod Try.laidOut (by kernel_rfl) (by decide +kernel) h2 hb (fun x hx => hlt x (by simp [hx]))
  refine ⟨_, rfl, [d0, d1, d2], [], _, [], p0 ++ p1 ++ p2, [], hW', trodAll_mk1 (shut_bool Try.underlying4 true), ?_, ?_, World.keptBut_mono (fun p hp => ⟨hp, ?_⟩) (hb.frame (· ∈ p0 ++ p1 ++ p2 ++ [])), fun h => ?_⟩
  · rw [List.append_assoc]
    exact trodAll_mk3 k0 k1 k2
  · exact rfl
  · exact Or.inr (by simpa using hp)
  · refine ⟨?_, [.lit (.bool true), d0, d1, d2], [], p0 ++ p1 ++ p2, ⟨p0 ++ p1 ++ p2, [], ?_, rfl, by simp, ?_, fun h => by simp at h⟩, ?_⟩
    · exact ok_one (by kernel_rfl) rfl (okWide_bool_mk Try.underlying4 true)
    · have g0 := WideElems.Trod_stays (sp' := fun _ => true) Try.laidOut (by kernel_rfl) (by decide +kernel) h0 (fun x hx => hb.same (hlt x (by simp [hx]))) (fun x hx => rfl)
      have g1 := WideElems.Trod_stays (sp' := fun _ => true) Try.laidOut (by kernel_rfl) (by decide +kernel) h1 (fun x hx => hb.same (hlt x (by simp [hx]))) (fun x hx => rfl)
      have g2 := WideElems.Trod_stays (sp' := fun _ => true) Try.laidOut (by kernel_rfl) (by decide +kernel) h2 (fun x hx => hb.same (hlt x (by simp [hx]))) (fun x hx => rfl)
      rw [List.append_assoc]
      exact trodAll_append (trodAll_mk3 g0 g1 g2) (trodAll_mk1 (shut_bool Try.underlying4 true))
    · intro b off hp
      have hin : MemPlace.cell b off ∈ p0 ++ p1 ++ p2 ++ [] := by simpa using hp
      rw [hb.frozen (hlt _ hin)]
      exact hfz b off hin
    · intro p hp _
      simpa using hp

theorem checks_holds : Rows.PunctuationChecksSaid :=
  OpenClaim.holds_of_wide 3 Try.f3 rfl rfl rfl rfl rfl rfl rfl ⟨rfl, rfl, rfl, rfl, rfl⟩ rfl rfl rfl rfl rfl (by kernel_rfl) Try.func3 (by kernel_rfl)
    (of_decide_eq_true (by kernel_rfl)) (by unfold Func.isWrapper; first | (rw [if_pos (by decide +kernel)]; kernel_rfl) | (rw [if_neg (by decide +kernel)]; exact ⟨rfl, rfl⟩))
    (fun os started H enc _ => checks_lifted os started H enc)
end Go.Proofs.Ythhnhajldhnfmaa
