/- Maps: a key is found; reading and writing. -/
import Derived.Test.YtdbapaofibgfcaaMapB
import Derived.MapKept
set_option linter.unusedVariables false
set_option linter.unusedSimpArgs false
namespace Go.Proofs.Ytdbapaofibgfcaa
open Go.RowKit
section
variable {P : Program} {w : World} {S : Nat → Prop}
theorem bytes_eqb (a b : ByteArray) : (a == b) = (a.toList == b.toList) := by
  simp [beq_toListBytes]
theorem sameNow1 {t : TypeId} {d : TypeDesc} {k a : AV} {vk va : Value} {c : Bool} (hu : P.underlying t = some d) (ht : fkT (fkA k) (P.underlying t) = true) (hk : Rep w S G0 k vk) (ha : Rep w S G0 a va) (he : eqK k a = some c) : Instr.sameNow d vk va = some c := by
  obtain ⟨d', hu', hd⟩ := fkT_und ht
  rw [hu] at hu'
  injection hu' with hu'
  subst hu'
  rcases hd with ⟨q, n, q', rfl, rfl⟩ | ⟨x, rfl, rfl⟩ | ⟨x, rfl, rfl⟩
  · cases a <;> simp only [eqK, eq1, reduceCtorEq] at he
    split at he
    · rename_i hq
      have hq := of_decide_eq_true hq
      subst hq
      rw [hk.int_inv, ha.int_inv, ← he]
      simp [Instr.sameNow]
      rfl
    · cases he
  · cases a <;> simp only [eqK, eq1, reduceCtorEq] at he
    rw [hk.bool_inv, ha.bool_inv, ← he]
    simp [Instr.sameNow]
  · cases a <;> simp only [eqK, eq1, reduceCtorEq] at he
    rw [hk.str_inv, ha.str_inv, ← he]
    simp [Instr.sameNow, bytes_eqb]
theorem findNow1 {t : TypeId} {d : TypeDesc} {k : AV} {vk : Value} (hu : P.underlying t = some d) (ht : fkT (fkA k) (P.underlying t) = true) (hk : Rep w S G0 k vk) : ∀ (es : List MapEntry) (ps : List (AV × AV)) (i : Nat) (r : Option Nat), es.length = ps.length → (∀ j (h : j < es.length) (h' : j < ps.length), EnRep w S es[j] ps[j]) →
    findK k (ps.map (·.1)) i = some r → Instr.findNow d vk es i = some (r.map fun j => (j, (es.getD (j - i) default).val)) ∧ ∀ j, r = some j → i ≤ j ∧ j - i < es.length
  | [], [], i, r, hl, he, h => by
    simp only [List.map_nil, findK, Option.some.injEq] at h
    subst h
    exact ⟨rfl, fun j h => by cases h⟩
  | e :: es, p :: ps, i, r, hl, he, h => by
    have h0 : EnRep w S e p := he 0 (by simp) (by simp)
    simp only [List.map_cons, findK] at h
    cases hc : eqK k p.1 with
    | none => rw [hc] at h; cases h
    | some c =>
      have hr := sameNow1 hu ht hk h0.1 hc
      rw [hc] at h
      unfold Instr.findNow
      rw [hr]
      cases c with
      | true =>
        simp only [Option.some.injEq] at h
        subst h
        exact ⟨by simp, fun j h => by cases h; exact ⟨Nat.le_refl _, by simp⟩⟩
      | false =>
        obtain ⟨i1, i2⟩ := findNow1 hu ht hk es ps (i + 1) r (by simpa using hl) (fun j h h' => he (j + 1) (by simpa using h) (by simpa using h')) h
        refine ⟨?_, fun j hj => by obtain ⟨a, b⟩ := i2 j hj; exact ⟨by omega, by simp; omega⟩⟩
        simp only
        rw [i1]
        cases r with
        | none => rfl
        | some j =>
          obtain ⟨a, b⟩ := i2 j rfl
          simp only [Option.map_some]
          rw [show j - i = (j - (i + 1)) + 1 by omega, List.getD_cons_succ]
theorem findNow_struct {fs : Array Field} {vk : Value} : ∀ es : List MapEntry, ∀ i, Instr.findNow (.struct fs) vk es i = if es = [] then some none else none
  | [], i => rfl
  | e :: es, i => by
    unfold Instr.findNow
    have : Instr.sameNow (.struct fs) vk e.key = none := by unfold Instr.sameNow; rfl
    rw [this]; simp
/-- A key is sought. -/
theorem findKey_run {t : TypeId} {k : AV} {vk : Value} (ht : keyFl P t k = true) (hk : Rep w S G0 k vk) (es : List MapEntry) (ps : List (AV × AV)) (r : Option Nat) (hl : es.length = ps.length) (he : ∀ j (h : j < es.length) (h' : j < ps.length), EnRep w S es[j] ps[j])
    (h : findK k (ps.map (·.1)) 0 = some r) : (Instr.findKey t vk es).run P w = .ok (r.map fun j => (j, (es.getD j default).val)) w ∧ ∀ j, r = some j → j < es.length := by
  have one : fkT (fkA k) (P.underlying t) = true → (Instr.findKey t vk es).run P w = .ok (r.map fun j => (j, (es.getD j default).val)) w ∧ ∀ j, r = some j → j < es.length := fun h1 => by
    obtain ⟨d, hu, _⟩ := fkT_und h1
    obtain ⟨f1, f2⟩ := findNow1 hu h1 hk es ps 0 r hl he h
    exact ⟨MapKept.run_findKey hu (by simpa using f1), fun j hj => by simpa using (f2 j hj).2⟩
  cases k with
  | agg cs =>
    obtain ⟨fs, hu, hf⟩ := keyFl_agg ht
    obtain ⟨f1, f2⟩ := findAsking_run ht hk es ps 0 r hl he h
    refine ⟨?_, fun j hj => by simpa using (f2 j hj).2⟩
    by_cases h0 : es = []
    · subst h0
      cases ps with
      | nil =>
        simp only [List.map_nil, findK, Option.some.injEq] at h
        subst h
        exact MapKept.run_findKey hu rfl
      | cons => simp at hl
    · unfold Instr.findKey
      rw [Sem.run_bind, run_underlying hu, Result.andThen_ok, findNow_struct, if_neg h0]
      simpa using f1
  | int q n => exact one (by simpa [keyFl] using ht)
  | bool x => exact one (by simpa [keyFl] using ht)
  | str x => exact one (by simpa [keyFl] using ht)
  | _ => simp [keyFl, fkA, fkT] at ht
end
end Go.Proofs.Ytdbapaofibgfcaa
