/- Plain functions and plain laws of layer 35: what the program and the reference compute, and that they agree. -/
import Derived.Test.YthhnhajldhnfmaaSpec34
set_option linter.unusedVariables false
set_option linter.unusedSimpArgs false
namespace Go.Proofs.Ythhnhajldhnfmaa
open Go.RowKit

def allowsT (t : Trk) (seq time : Int) : Bool × Int :=
  if puCheck t ≠ 0 then (false, puCheck t) else
  if seq < 0 ∨ 1099511627776 < seq ∨ time < 0 ∨ 1099511627776 < time then (false, 2) else
  if seq < t.next ∨ t.beyond.contains seq = true then (false, 7) else (decide (latest t.mark t.points seq < time), 0)
def hits (l : List Pt) (seq time : Int) : Bool := l.any fun p => decide (p.seq ≤ seq) && decide (time ≤ p.time)
def allowsR (t : Trk) (seq time : Int) : Bool × Int :=
  if puCheck t ≠ 0 then (false, puCheck t) else
  if seq < 0 ∨ 1099511627776 < seq ∨ time < 0 ∨ 1099511627776 < time then (false, 2) else
  if hasB t seq = true then (false, 7) else if time ≤ t.mark then (false, 0) else (!hits t.points seq time, 0)

theorem foldl_max_lt (l : List Pt) (a time : Int) : l.foldl (fun m p => max m p.time) a < time ↔ a < time ∧ ∀ p ∈ l, p.time < time := by
  induction l generalizing a with
  | nil => simp
  | cons x r ih =>
    rw [List.foldl_cons, ih]
    simp only [List.mem_cons, forall_eq_or_imp]
    constructor
    · rintro ⟨h1, h2⟩; exact ⟨by omega, by omega, h2⟩
    · rintro ⟨h1, h2, h3⟩; exact ⟨by omega, h3⟩
theorem latest_lt (mark : Int) (l : List Pt) (seq time : Int) : latest mark l seq < time ↔ mark < time ∧ hits l seq time = false := by
  unfold latest hits
  rw [foldl_max_lt, List.any_eq_false]
  simp only [List.mem_filter, decide_eq_true_eq, Bool.and_eq_true, not_and, Int.not_le]
  constructor
  · rintro ⟨h1, h2⟩; exact ⟨h1, fun p hp hs => h2 p ⟨hp, hs⟩⟩
  · rintro ⟨h1, h2⟩; exact ⟨h1, fun p ⟨hp, hs⟩ => h2 p hp hs⟩
theorem allows_eq (t : Trk) (seq time : Int) : allowsR t seq time = allowsT t seq time := by
  unfold allowsR allowsT
  split
  · rfl
  split
  · rfl
  rename_i h1 h2
  have hs : 0 ≤ seq := by omega
  have hh : hasB t seq = true ↔ seq < t.next ∨ t.beyond.contains seq = true := by
    unfold hasB
    by_cases h : seq < t.next
    · simp [h, hs]
    · simp [h]
  by_cases h3 : hasB t seq = true
  · rw [if_pos h3, if_pos (hh.1 h3)]
  · rw [if_neg h3, if_neg (fun h => h3 (hh.2 h))]
    by_cases h4 : time ≤ t.mark
    · rw [if_pos h4]
      congr 1
      symm
      rw [decide_eq_false_iff_not, latest_lt]
      omega
    · rw [if_neg h4]
      congr 1
      rw [Bool.eq_iff_iff, decide_eq_true_iff, latest_lt]
      simp
      omega

def zeroT : Trk := ⟨0, [], [], 0⟩
def settleT (t : Trk) : Trk × Int :=
  if asc t ⟨-1, -1⟩ ≠ 0 then (zeroT, asc t ⟨-1, -1⟩) else
  (⟨t.next, t.beyond, t.points.filter fun p => decide (t.next < p.seq) && decide (latest t.mark t.points t.next < p.time), latest t.mark t.points t.next⟩, 0)

/-- How many of the points have a lesser number. -/
def below (l : List Pt) (s : Int) : Nat := (l.filter fun p => decide (p.seq < s)).length
def addT (t : Trk) (p : Pt) : Trk × Int :=
  if puCheck t ≠ 0 then (zeroT, puCheck t) else if ptValid p = false then (zeroT, 2) else
  if p.time ≤ t.mark ∨ (t.points.any fun x => implies x p) = true then (t, 0) else
  if p.seq ≤ t.next then (⟨t.next, t.beyond, t.points.filter fun x => !implies p x, p.time⟩, 0) else
  if 256 < ((t.points.filter fun x => !implies p x).length + 1) then (zeroT, 5) else
  (⟨t.next, t.beyond, (t.points.filter fun x => !implies p x).take (below (t.points.filter fun x => !implies p x) p.seq) ++ p :: (t.points.filter fun x => !implies p x).drop (below (t.points.filter fun x => !implies p x) p.seq), t.mark⟩, 0)

/-- The reference's loop: the points that are not implied, p put before the first greater one. -/
def withLoop (p : Pt) : Bool → List Pt → List Pt → Bool × List Pt
  | put, acc, [] => (put, acc)
  | put, acc, x :: r =>
    let put' := put || decide (p.seq < x.seq)
    let acc' := if put = false ∧ p.seq < x.seq then acc ++ [p] else acc
    withLoop p put' (if implies p x = true then acc' else acc' ++ [x]) r
def withR (t : Trk) (p : Pt) : Trk :=
  if p.time ≤ t.mark then t else if (t.points.any fun x => implies x p) = true then t else
  let r := withLoop p (decide (p.seq ≤ t.next)) [] t.points
  ⟨t.next, t.beyond, if r.1 = true then r.2 else r.2 ++ [p], if p.seq ≤ t.next then p.time else t.mark⟩
def addR (t : Trk) (p : Pt) : Trk × Int :=
  if puCheck t ≠ 0 then (zeroT, puCheck t) else if ptValid p = false then (zeroT, 2) else
  if 256 < (withR t p).points.length then (zeroT, 5) else (withR t p, 0)

end Go.Proofs.Ythhnhajldhnfmaa
