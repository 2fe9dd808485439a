/- Maps: look-up and update. -/
import Derived.Test.YtdbapaofibgfcaaMapC
set_option linter.unusedVariables false
set_option linter.unusedSimpArgs false
namespace Go.Proofs.Ytdbapaofibgfcaa
open Go.RowKit
section
variable {P : Program} {w : World} {S : Nat → Prop}
theorem lookup_run {T kt et : TypeId} {k zA : AV} {vk z : Value} {g : Nat} {ps : List (AV × AV)} {r : Option Nat} (ok : Bool) (hT : P.underlying T = some (.map kt et)) (ht : keyFl P kt k = true) (hk : Rep w S G0 k vk) (hm : MapIs w S g ps)
    (hz : (zeroValue et).run P w = .ok z w) (hzR : Rep w S G0 zA z) (hf : findK k (ps.map (·.1)) 0 = some r) :
    ∃ v, Rep w S G0 (match r with | some j => (ps.getD j default).2 | none => zA) v ∧ (Instr.lookup T (.map (some g)) vk ok).run P w = .ok (if ok then .tuple #[v, .bool r.isSome] else v) w := by
  obtain ⟨es, clock, hb, hl, he⟩ := hm
  obtain ⟨f1, f2⟩ := findKey_run ht hk es.toList ps r (by simpa using hl) he hf
  cases r with
  | none =>
    refine ⟨z, hzR, ?_⟩
    cases ok <;> simp [Instr.lookup, run_underlying hT, MapKept.run_getObj_map hb, checkK _ ht hk, f1, hz, Result.andThen]
  | some j =>
    have hj := f2 j rfl
    have hj' : j < ps.length := by simp at hj; omega
    have := (he j hj hj').2
    refine ⟨(es.toList.getD j default).val, ?_, ?_⟩
    · simp only [List.getD_eq_getElem?_getD, List.getElem?_eq_getElem hj', List.getElem?_eq_getElem hj, Option.getD_some]
      exact this
    · cases ok <;> simp [Instr.lookup, run_underlying hT, MapKept.run_getObj_map hb, checkK _ ht hk, f1, Result.andThen]
end
end Go.Proofs.Ytdbapaofibgfcaa
