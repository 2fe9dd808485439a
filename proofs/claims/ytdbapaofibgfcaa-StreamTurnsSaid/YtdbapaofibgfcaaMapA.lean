/- Maps: a key of one cell, or a struct of such, is found. -/
import Derived.Test.YtdbapaofibgfcaaAmP
set_option linter.unusedVariables false
set_option linter.unusedSimpArgs false
namespace Go.Proofs.Ytdbapaofibgfcaa
open Go.RowKit

def eqK : AV → AV → Option Bool
  | .agg cs, .agg ds => eqL cs ds
  | a, b => eq1 a b
/-- Where a key stands among others; none: it is not told. -/
def findK (k : AV) : List AV → Nat → Option (Option Nat)
  | [], _ => some none
  | a :: r, i => match eqK k a with
    | some true => some (some i)
    | some false => findK k r (i + 1)
    | none => none
def keyFl (P : Program) (t : TypeId) (a : AV) : Bool := match a with
  | .agg cs => !P.stoodInHeld t && (match P.underlying t with | some (.struct fs) => flatFs P 0 cs fs.toList | _ => false)
  | a => fkT (fkA a) (P.underlying t)
section
variable {P : Program} {w : World} {S : Nat → Prop}
theorem eqK_run {t : TypeId} {a b : AV} {va vb : Value} {c : Bool} (ht : keyFl P t a = true) (he : eqK a b = some c) (ha : Rep w S G0 a va) (hb : Rep w S G0 b vb) : (Op.equal t va vb).run P w = .ok c w := by
  unfold Op.equal
  rw [show Op.maxDepth = 9999 + 1 from rfl]
  cases a with
  | agg cs =>
    cases b with
    | agg ds =>
      obtain ⟨vs, ev, hl, hr, _⟩ := ha.agg_inv
      obtain ⟨us, eu, hl', hr', _⟩ := hb.agg_inv
      simp only [keyFl, Bool.and_eq_true, Bool.not_eq_true'] at ht
      obtain ⟨g1, g3⟩ := ht
      cases hu : P.underlying t with
      | none => rw [hu] at g3; cases g3
      | some dd =>
        rw [hu] at g3
        cases dd <;> simp only [Bool.false_eq_true] at g3
        rename_i fs
        have hfs : P.fieldsOf t = fs := by simp [Program.fieldsOf, hu]
        rw [ev, eu, run_equalIn_agg w 9999 t vs us (by rw [hfs]; exact hu) g1, hfs]
        exact eqFields_run (w0 := w) 9998 vs us fs.toList cs ds 0 c g3 he (by omega) (by omega) (fun i hi => by simpa using hr i hi) (fun i hi => by simpa using hr' i hi)
    | _ => simp [eqK, eq1] at he
  | int k n => exact eq1_run 9999 (by simpa [keyFl] using ht) (by cases b <;> simpa [eqK] using he) ha hb
  | bool x => exact eq1_run 9999 (by simpa [keyFl] using ht) (by cases b <;> simpa [eqK] using he) ha hb
  | str x => exact eq1_run 9999 (by simpa [keyFl] using ht) (by cases b <;> simpa [eqK] using he) ha hb
  | _ => simp [keyFl, fkA, fkT] at ht
theorem findAsking_run {t : TypeId} {k : AV} {vk : Value} (ht : keyFl P t k = true) (hk : Rep w S G0 k vk) : ∀ (es : List MapEntry) (ps : List (AV × AV)) (i : Nat) (r : Option Nat), es.length = ps.length → (∀ j (h : j < es.length) (h' : j < ps.length), EnRep w S es[j] ps[j]) →
    findK k (ps.map (·.1)) i = some r → (Instr.findAsking t vk es i).run P w = .ok (r.map fun j => (j, (es.getD (j - i) default).val)) w ∧ ∀ j, r = some j → i ≤ j ∧ j - i < es.length
  | [], [], i, r, hl, he, h => by
    simp only [List.map_nil, findK, Option.some.injEq] at h
    subst h
    exact ⟨by simp [Instr.findAsking], fun j h => by cases h⟩
  | e :: es, p :: ps, i, r, hl, he, h => by
    have h0 : EnRep w S e p := he 0 (by simp) (by simp)
    simp only [List.map_cons, findK] at h
    cases hc : eqK k p.1 with
    | none => rw [hc] at h; cases h
    | some c =>
      have hr := eqK_run ht hc hk h0.1
      rw [hc] at h
      cases c with
      | true =>
        simp only [Option.some.injEq] at h
        subst h
        refine ⟨?_, fun j h => by cases h; exact ⟨Nat.le_refl _, by simp⟩⟩
        unfold Instr.findAsking
        rw [Sem.run_bind, hr, Result.andThen_ok]
        simp
      | false =>
        obtain ⟨i1, i2⟩ := findAsking_run ht hk es ps (i + 1) r (by simpa using hl) (fun j h h' => he (j + 1) (by simpa using h) (by simpa using h')) h
        refine ⟨?_, fun j hj => by obtain ⟨a, b⟩ := i2 j hj; exact ⟨by omega, by simp; omega⟩⟩
        unfold Instr.findAsking
        rw [Sem.run_bind, hr, Result.andThen_ok]
        simp only [Bool.false_eq_true, if_false]
        rw [i1]
        cases r with
        | none => rfl
        | some j =>
          obtain ⟨a, b⟩ := i2 j rfl
          simp only [Option.map_some]
          rw [show j - i = (j - (i + 1)) + 1 by omega, List.getD_cons_succ]
end
end Go.Proofs.Ytdbapaofibgfcaa
