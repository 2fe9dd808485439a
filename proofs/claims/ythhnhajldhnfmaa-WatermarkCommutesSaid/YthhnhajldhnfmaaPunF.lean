/- The walks of layers 34 and 35, eighth part: equality of trackers. -/
import Derived.Test.YthhnhajldhnfmaaPunB
import Derived.Test.YthhnhajldhnfmaaSpec35
set_option linter.unusedVariables false
set_option linter.unusedSimpArgs false
namespace Go.Proofs.Ythhnhajldhnfmaa
open Go.RowKit

theorem neqPt (a b c d : Int) (w : World) : (binOp .neq 27 (.agg #[.int .i64 a, .int .i64 b]) (.agg #[.int .i64 c, .int .i64 d])).run Try.prog w = .ok (.bool (!decide ((⟨a, b⟩ : Pt) = ⟨c, d⟩))) w := by
  have u3 := Try.underlying3
  have a3 := Try.isAgg3
  have z3 := Try.sizeOf3
  have hS : Try.prog.underlying 27 = some (.struct (Try.prog.fieldsOf 27)) := by kernel_rfl
  have hp : Try.prog.stoodInHeld 27 = false := by kernel_rfl
  simp only [binOp]
  rw [show Op.equal 27 = Op.equalIn (9999+1) 27 from rfl]
  rw [Sem.run_bind, run_equalIn_agg w 9999 27 _ _ hS hp]
  simp only [Program.fieldsOf, Try.underlying27]
  go_simp
  by_cases h1 : a = c <;> by_cases h2 : b = d <;> simp [h1, h2]

theorem eqpts_drop (l m : List Pt) (k : Nat) (h1 : k < l.length) (h2 : k < m.length) : decide (l.drop k = m.drop k) = (decide (l[k] = m[k]) && decide (l.drop (k + 1) = m.drop (k + 1))) := by
  rw [drop_cons l k h1, drop_cons m k h2]; simp only [List.cons.injEq, Bool.decide_and]

set_option maxHeartbeats 800000 in
theorem same_any (t u : Trk) (S S' : Nat → Prop) (v v' : Value) (w : World) (h : TrkV w S v t) (h' : TrkV w S' v' u) (hl1 : t.beyond.length ≤ 1000000000) (hl2 : t.points.length ≤ 1000000000) :
    Calls Try.prog 25 #[v, v'] w fun e w' => e = .returned (.bool (decide (t = u))) ∧ Below w.heap.size w w' := by
  obtain ⟨vb, vp, rfl, hB, hP⟩ := h
  obtain ⟨ub, up, rfl, hB', hP'⟩ := h'
  obtain ⟨A, c, rfl, hc, hcell⟩ := pts_form hP
  obtain ⟨Ab, cb, rfl, _, _⟩ := ints_form hB
  obtain ⟨A', c', rfl, hc', hcell'⟩ := pts_form hP'
  obtain ⟨Ab', cb', rfl, _, _⟩ := ints_form hB'
  have H := hide hcell
  have H' := hide hcell'
  have HB := hide hB
  have HB' := hide hB'
  clear hcell hB hP hcell' hB' hP'
  obtain ⟨n1, lb, l, m1⟩ := t
  obtain ⟨n2, mb, m, m2⟩ := u
  dsimp only at *
  have hgoal : Hid (decide ((⟨n1, lb, l, m1⟩ : Trk) = ⟨n2, mb, m, m2⟩) = (decide (n1 = n2) && (decide (lb = mb) && (decide (l = m) && decide (m1 = m2))))) := by
    unfold Hid; rw [Bool.eq_iff_iff]; simp
  generalize hres : decide ((⟨n1, lb, l, m1⟩ : Trk) = ⟨n2, mb, m, m2⟩) = res at *
  clear hres
  have hpre : ∀ (b : Bool), (n1 != n2) = b → (b = true → res = false) := fun b hb ht => by
    rw [ht] at hb; rw [hgoal.out, decide_eq_false (by simpa using hb)]; rfl
  have hpre2 : ∀ (b : Bool), (m1 != m2) = b → (b = true → res = false) := fun b hb ht => by
    rw [ht] at hb; rw [hgoal.out, decide_eq_false (p := m1 = m2) (by simpa using hb)]; simp
  have hpre3 : ∀ (b : Bool), ((l.length : Int) != (m.length : Int)) = b → (b = true → res = false) := fun b hb ht => by
    rw [ht] at hb; rw [hgoal.out, decide_eq_false (p := l = m) (fun e => by subst e; simp at hb)]; simp
  have H1 := hide hpre
  have H2 := hide hpre2
  have H3 := hide hpre3
  clear hpre hpre2 hpre3
  cases e1 : (n1 != n2)
  · cases e2 : (m1 != m2)
    · cases e3 : ((l.length : Int) != (m.length : Int))
      · have q1 : n1 = n2 := by simpa using e1
        have q2 : m1 = m2 := by simpa using e2
        have q3' : (l.length : Int) = (m.length : Int) := by simpa using e3
        have q3 : l.length = m.length := by omega
        clear q3'
        cases hi : decide (lb = mb)
        all_goals
          have hgo := hgoal.out
          rw [hi, decide_eq_true q1, decide_eq_true q2] at hgo
          simp only [Bool.true_and, Bool.and_true, Bool.false_and] at hgo
          have Hi := hide hi
          have Hgo := hide hgo
          clear hi hgo hgoal
          have q3' := hide q3
          have q4 : l.length ≤ m.length := by omega
          have q5 : m.length ≤ l.length := by omega
          clear q1 q2 q3
          go_enter Try.func25, Try.ntmps25
          go_wp2_with fail
          refine (sameInts_any lb mb S S' _ _ _ (HB.out.below (by go_grown)) (HB'.out.below (by go_grown)) hl1).mono ?_
          rintro e w1 ⟨rfl, hb1⟩
          rw [Hi.out]
          have hw1 : Below w.heap.size w w1 := Below.next (by go_grown) hb1
          have ht2 := cell_later (a := ⟨w.heap.size, 2, none⟩) (v := .slice A l.length c) hb1 (by simp)
          have hu2 := cell_later (a := ⟨w.heap.size + 1, 2, none⟩) (v := .slice A' m.length c') hb1 (by simp)
          clear hb1
          go_wp2
        · go_ret
          exact ⟨ret_bool Hgo.out.symm, hw1⟩
        · clear e1 e2 e3
          go_loopw [5] (fun i wr => ∃ k : Nat, k ≤ l.length ∧ i = .int .i64 k ∧ Hid (decide (l.drop k = m.drop k) = decide (l = m)) ∧ Below w.heap.size w wr ∧ wr.cell? ⟨w.heap.size, 2, none⟩ = some (.slice A l.length c) ∧ wr.cell? ⟨w.heap.size + 1, 2, none⟩ = some (.slice A' m.length c')) (fun i _ => l.length - (intOf i).toNat)
          case atStart => exact ⟨0, Nat.zero_le _, rfl, rfl, hw1, ht2, hu2⟩
          case round =>
            clear ht2 hu2
            obtain ⟨k, hk, rfl, hs, hb, ht2, hu2⟩ := hrel
            by_cases hlt : k < l.length
            · obtain ⟨b, off, rfl, hbl, hx0, hx1⟩ := H.out k hlt
              obtain ⟨b', off', rfl, hbl', hy0, hy1⟩ := H'.out k (by omega)
              have hx0 := cell_later hb hx0
              have hx1 := cell_later hb hx1
              have hy0 := cell_later hb hy0
              have hy1 := cell_later hb hy1
              have hs1 := hide (eqpts_drop l m k hlt (by omega))
              generalize l[k] = x at *
              generalize m[k] = y at *
              obtain ⟨x0, x1⟩ := x
              obtain ⟨y0, y1⟩ := y
              have hkm : (k : Int) < (m.length : Int) := by omega
              have hkl : (k : Int) < (l.length : Int) := by omega
              have hk0 : (0 : Int) ≤ (k : Int) := by omega
              have hneq := fun W => neqPt x0 x1 y0 y1 W
              have hs2 := hs1.out
              generalize hd : decide ((⟨x0, x1⟩ : Pt) = ⟨y0, y1⟩) = d at *
              have Hd := hide hd
              clear hd
              cases d
              · have hs3 := hide hs2
                clear hs2
                simp only [Bool.not_false] at hneq
                go_wp2
                go_quiet (fail)
                have hb2 := below_drewN hb nq
                go_wp2
                go_ret
                exact ⟨ret_bool (by rw [Hgo.out, ← hs.out, hs3.out]; rfl), hb2⟩
              · have hs3 := hide hs2
                clear hs2
                simp only [Bool.not_true] at hneq
                go_wp2
                go_quiet (fail)
                have hb2 := below_drewN hb nq
                have hnx : Hid (decide (l.drop (k + 1) = m.drop (k + 1)) = decide (l = m)) := by
                  unfold Hid; rw [← hs.out, hs3.out]; rfl
                go_wp2
                first
                  | exact ⟨⟨k + 1, by omega, by go_num, hnx, hb2, ht2, hu2⟩, by simp [intOf]; omega⟩
                  | (go_roundw
                     case rel => exact ⟨k + 1, by omega, by go_num, hnx, hb2, ht2, hu2⟩
                     case measure => simp [intOf]; omega)
            · go_wp2
              go_ret
              exact ⟨ret_bool (by rw [Hgo.out, ← hs.out, List.drop_eq_nil_of_le (by omega), List.drop_eq_nil_of_le (by omega)]; rfl), hb⟩
      · have hr := hide (H3.out _ e3 rfl)
        go_enter Try.func25, Try.ntmps25
        go_wp2
        go_ret
        exact ⟨ret_bool hr.out.symm, by go_grown⟩
    · have hr := hide (H2.out _ e2 rfl)
      go_enter Try.func25, Try.ntmps25
      go_wp2
      go_ret
      exact ⟨ret_bool hr.out.symm, by go_grown⟩
  · have hr := hide (H1.out _ e1 rfl)
    go_enter Try.func25, Try.ntmps25
    go_wp2
    go_ret
    exact ⟨ret_bool hr.out.symm, by go_grown⟩

end Go.Proofs.Ythhnhajldhnfmaa
