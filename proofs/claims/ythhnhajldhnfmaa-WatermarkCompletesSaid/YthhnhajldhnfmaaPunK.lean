/- The walks of layer 35, thirteenth part: the law's allowed and awake. -/
import Derived.Test.YthhnhajldhnfmaaPunJ
import Derived.Test.YthhnhajldhnfmaaPunE
set_option linter.unusedVariables false
set_option linter.unusedSimpArgs false
namespace Go.Proofs.Ythhnhajldhnfmaa
open Go.RowKit

theorem ev1 : withL ⟨2, [], [], -1⟩ [⟨2, 5⟩, ⟨4, 9⟩, ⟨6, 8⟩] = (⟨2, [], [⟨4, 9⟩], 5⟩, true) := by decide
theorem ev2 : allowsT ⟨2, [], [⟨4, 9⟩], 5⟩ 3 6 = (true, 0) := by decide
theorem ev3 : allowsT ⟨2, [], [⟨4, 9⟩], 5⟩ 4 9 = (false, 0) := by decide
theorem ev4 : allowsT ⟨2, [], [⟨4, 9⟩], 5⟩ 3 5 = (false, 0) := by decide
theorem ev5 : settleT ⟨4, [], [⟨4, 9⟩], 5⟩ = (⟨4, [], [], 9⟩, 0) := by decide
theorem ev6 : withL ⟨2, [], [⟨4, 9⟩], 5⟩ [⟨3, 7⟩] = (⟨2, [], [⟨3, 7⟩, ⟨4, 9⟩], 5⟩, true) := by decide
theorem ev7 : withL ⟨2, [], [⟨3, 7⟩, ⟨4, 9⟩], 5⟩ [⟨3, 10⟩] = (⟨2, [], [⟨3, 10⟩], 5⟩, true) := by decide

set_option maxHeartbeats 800000 in
theorem allowed_any (t : Trk) (seq time : Int) (S : Nat → Prop) (v : Value) (w : World) (h : TrkV w S v t) (hl1 : t.beyond.length ≤ 1000000000) (hl2 : t.points.length ≤ 1000000000) :
    Calls Try.prog 48 #[v, .int .i64 seq, .int .i64 time] w fun e w' => e = .returned (.bool ((allowsT t seq time).1 && decide ((allowsT t seq time).2 = 0))) ∧ Below w.heap.size w w' := by
  obtain ⟨vb, vp, rfl, hB, hP⟩ := h
  obtain ⟨A, c, rfl, hc, hcell⟩ := pts_form hP
  obtain ⟨Ab, cb, rfl, _, _⟩ := ints_form hB
  have HB := hide hB
  have HP := hide hP
  clear hcell hB hP
  obtain ⟨next, lb, l, mark⟩ := t
  dsimp only at *
  generalize hres : allowsT ⟨next, lb, l, mark⟩ seq time = res at *
  have Hres := hide hres
  clear hres
  obtain ⟨r1, r2⟩ := res
  dsimp only at *
  go_enter Try.func48, Try.ntmps48
  go_wp2_with fail
  refine (allows_any ⟨next, lb, l, mark⟩ seq time S _ _ ⟨_, _, rfl, HB.out.below (by go_grown), HP.out.below (by go_grown)⟩ hl1 hl2).mono ?_
  rw [Hres.out]
  rintro e w1 ⟨rfl, hb1⟩
  have hw1 : Below w.heap.size w w1 := Below.next (by go_grown) hb1
  cases r1 <;> by_cases h2 : r2 = 0
  all_goals
    go_wp2
    refine bodyPost_ret (v := .bool _) (by simp [results, Try.results48, go_sem]; rfl) rfl ⟨?_, hw1⟩
    simp [h2]
end Go.Proofs.Ythhnhajldhnfmaa
