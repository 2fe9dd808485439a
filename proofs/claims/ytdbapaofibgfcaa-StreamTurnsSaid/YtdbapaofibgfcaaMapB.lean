/- Maps: flat keys are hashable and stay. -/
import Derived.Test.YtdbapaofibgfcaaMapA
set_option linter.unusedVariables false
set_option linter.unusedSimpArgs false
namespace Go.Proofs.Ytdbapaofibgfcaa
open Go.RowKit
section
variable {P : Program} {w : World} {S : Nat → Prop}
theorem check1 {t : TypeId} {a : AV} {v : Value} (n : Nat) (em : Bool) (ht : fkT (fkA a) (P.underlying t) = true) (ha : Rep w S G0 a v) : (Instr.checkKey em (n + 1) t v).run P w = .ok () w := by
  obtain ⟨d, hu, hd⟩ := fkT_und ht
  rcases hd with ⟨_, _, _, rfl, rfl⟩ | ⟨_, rfl, rfl⟩ | ⟨_, rfl, rfl⟩
  · rw [ha.int_inv]; simp [Instr.checkKey, run_underlying hu]
  · rw [ha.bool_inv]; simp [Instr.checkKey, run_underlying hu]
  · rw [ha.str_inv]; simp [Instr.checkKey, run_underlying hu]
theorem check_fields (n : Nat) (em : Bool) (xs : Array Value) : ∀ (fs : List Field) (cs : List AV) (k : Nat), flatFs P k cs fs = true → k + cs.length ≤ xs.size → (∀ i (hi : i < cs.length), Rep w S G0 cs[i] (xs.getD (k + i) undef)) →
    (forIn fs PUnit.unit (fun f _ => if f.name ≠ "_" then do
        let l ← part f.type xs f.offset
        Instr.checkKey em (n + 1) f.type l
        pure (ForInStep.yield PUnit.unit) else pure (ForInStep.yield PUnit.unit) : Field → PUnit → Sem (ForInStep PUnit))).run P w = .ok PUnit.unit w
  | [], cs, k, hf, _, _ => by simp
  | f :: fs, [], k, hf, _, _ => by simp [flatFs] at hf
  | f :: fs, a :: cs, k, hf, h3, hx => by
    simp only [flatFs, Bool.and_eq_true, decide_eq_true_eq] at hf
    obtain ⟨f1, f2, f3, f4⟩ := hf
    have f2 := Nat.eq_of_beq_eq_true f2
    simp only [List.length_cons] at h3
    have ha : Rep w S G0 a (xs.getD k undef) := hx 0 (by simp)
    have ih := check_fields n em xs fs cs (k + 1) f4 (by omega) (fun i hi => by have := hx (i + 1) (by simpa using hi); rw [show k + 1 + i = k + (i + 1) by omega]; simpa using this)
    have hp : f.name ≠ "_" := by simpa using f1
    rw [List.forIn_cons]
    simp only [if_pos hp, f2, Sem.run_bind, run_part_flat f3 (show k < xs.size by omega), Result.andThen_ok, check1 n em f3 ha, Sem.run_pure]
    exact ih
theorem stay1 {a : AV} {v : Value} (n : Nat) (hk : fkA a ≠ .no) (ha : Rep w S G0 a v) : Instr.sameBits n v v = true := by
  cases a <;> simp [fkA] at hk
  · rw [ha.int_inv]; cases n <;> simp [Instr.sameBits]
  · rw [ha.bool_inv]; cases n <;> simp [Instr.sameBits]
  · rename_i s
    have hs : (s == s) = true := by
      cases s
      first | exact beq_self_eq_true _ | (show (_ == _) = true; exact beq_self_eq_true (α := Array UInt8) _) | simp [BEq.beq, instBEqByteArray] | decide
    rw [ha.str_inv]; cases n <;> simp [Instr.sameBits, hs]
theorem keyFl_agg {t : TypeId} {cs : List AV} (ht : keyFl P t (.agg cs) = true) : ∃ fs : Array Field, P.underlying t = some (.struct fs) ∧ flatFs P 0 cs fs.toList = true := by
  simp only [keyFl, Bool.and_eq_true] at ht
  obtain ⟨_, g3⟩ := ht
  cases hu : P.underlying t with
  | none => rw [hu] at g3; cases g3
  | some dd =>
    rw [hu] at g3
    cases dd <;> simp only [Bool.false_eq_true] at g3
    exact ⟨_, rfl, g3⟩
theorem checkK {t : TypeId} {a : AV} {v : Value} (em : Bool) (ht : keyFl P t a = true) (ha : Rep w S G0 a v) : (Instr.checkKey em 10000 t v).run P w = .ok () w := by
  cases a with
  | agg cs =>
    obtain ⟨fs, hu, hf⟩ := keyFl_agg ht
    obtain ⟨vs, ev, hl, hr, _⟩ := ha.agg_inv
    have := check_fields (w := w) (S := S) 9998 em vs fs.toList cs 0 hf (by omega) (fun i hi => by simpa using hr i hi)
    rw [ev, show (10000 : Nat) = 9999 + 1 from rfl]
    unfold Instr.checkKey
    rw [Sem.run_bind, run_underlying hu, Result.andThen_ok]
    simp only [← Array.forIn_toList, Sem.run_bind]
    rw [this, Result.andThen_ok]
    simp
  | int k n => exact check1 9999 em (by simpa [keyFl] using ht) ha
  | bool x => exact check1 9999 em (by simpa [keyFl] using ht) ha
  | str x => exact check1 9999 em (by simpa [keyFl] using ht) ha
  | _ => simp [keyFl, fkA, fkT] at ht
theorem flat_fk {fs : List Field} : ∀ {cs : List AV} {k : Nat}, flatFs P k cs fs = true → ∀ i (hi : i < cs.length), fkA cs[i] ≠ .no := by
  induction fs with
  | nil => intro cs k h i hi; cases cs with
    | nil => simp at hi
    | cons => simp [flatFs] at h
  | cons f fs ih =>
    intro cs k h i hi
    cases cs with
    | nil => simp at hi
    | cons a cs =>
      simp only [flatFs, Bool.and_eq_true] at h
      cases i with
      | zero => intro hk; have h3 := h.2.2.1; simp only [List.getElem_cons_zero] at hk; rw [hk] at h3; simp [fkT] at h3
      | succ i => exact ih h.2.2.2 i (by simpa using hi)
theorem stayK {t : TypeId} {a : AV} {v : Value} (ht : keyFl P t a = true) (ha : Rep w S G0 a v) : (Instr.keyThatStays v v).run P w = .ok v w := by
  have : Instr.sameBits 10000 v v = true := by
    cases a with
    | agg cs =>
      obtain ⟨fs, hu, hf⟩ := keyFl_agg ht
      obtain ⟨vs, ev, hl, hr, _⟩ := ha.agg_inv
      rw [ev, show (10000 : Nat) = 9999 + 1 from rfl]
      simp only [Instr.sameBits, beq_self_eq_true, Bool.true_and, List.all_eq_true]
      intro p hp
      obtain ⟨i, hi, rfl⟩ := List.mem_iff_getElem.1 hp
      simp only [List.length_zip, Array.length_toList, Nat.min_self] at hi
      have h1 := stay1 9999 (flat_fk hf i (by omega)) (hr i (by omega))
      simp only [List.getElem_zip]
      simpa [Array.getD, hi] using h1
    | int k n => exact stay1 _ (by simp [fkA]) ha
    | bool x => exact stay1 _ (by simp [fkA]) ha
    | str x => exact stay1 _ (by simp [fkA]) ha
    | _ => simp [keyFl, fkA, fkT] at ht
  simp [Instr.keyThatStays, this]
end
end Go.Proofs.Ytdbapaofibgfcaa
