/- The walks of layers 34 and 35, second part: equality, membership, checks, clones. -/
import Derived.Test.YthhnhajldhnfmaaSeq
set_option linter.unusedVariables false
set_option linter.unusedSimpArgs false
namespace Go.Proofs.Ythhnhajldhnfmaa
open Go.RowKit

theorem eok_int : EOk Try.prog 22 3 1 8 encI := eok_pt Try.underlying22 (by kernel_rfl) (by omega) (fun _ => rfl) (fun x u hu => by simp [encI] at hu; subst hu; rfl)
theorem eok_pts : EOk Try.prog 23 27 2 16 encP := eok_pt Try.underlying23 (by kernel_rfl) (by omega) (fun _ => rfl) (fun x u hu => by simp [encP] at hu; rcases hu with rfl | rfl <;> rfl)

theorem eqlist_drop (l m : List Int) (k : Nat) (h1 : k < l.length) (h2 : k < m.length) : decide (l.drop k = m.drop k) = (decide (l[k] = m[k]) && decide (l.drop (k + 1) = m.drop (k + 1))) := by
  rw [drop_cons l k h1, drop_cons m k h2]; simp only [List.cons.injEq, Bool.decide_and]

set_option maxHeartbeats 400000 in
theorem sameInts_any (l m : List Int) (S S' : Nat → Prop) (v u : Value) (w : World) (h : Ints w S v l) (h' : Ints w S' u m) (hl : l.length ≤ 1000000000) :
    Calls Try.prog 66 #[v, u] w fun e w' => e = .returned (.bool (decide (l = m))) ∧ Below w.heap.size w w' := by
  obtain ⟨A, c, rfl, hc, hcell⟩ := ints_form h
  obtain ⟨A', c', rfl, hc', hcell'⟩ := ints_form h'
  have H := hide hcell; clear hcell h
  have H' := hide hcell'; clear hcell' h'
  by_cases hlen : l.length = m.length
  · have hne : ((l.length : Int) != (m.length : Int)) = false := by simp [hlen]
    have hlm := hide hlen
    have hle1 : l.length ≤ m.length := by omega
    have hle2 : m.length ≤ l.length := by omega
    clear hlen
    go_enter Try.func66, Try.ntmps66
    go_wp2
    clear hne
    go_loopw [5] (fun i wr => ∃ k : Nat, k ≤ l.length ∧ i = .int .i64 k ∧ Hid (decide (l.drop k = m.drop k) = decide (l = m)) ∧ Below w.heap.size w wr) (fun i _ => l.length - (intOf i).toNat)
    case atStart => exact ⟨0, Nat.zero_le _, rfl, by simp [Hid], by go_grown⟩
    case round =>
      obtain ⟨k, hk, rfl, hs, hb⟩ := hrel
      by_cases hlt : k < l.length
      · obtain ⟨b, off, rfl, hbl, hx⟩ := H.out k hlt
        obtain ⟨b', off', rfl, hbl', hx'⟩ := H'.out k (by omega)
        have hx := cell_later hb hx
        have hx' := cell_later hb hx'
        have hs1 := hide (eqlist_drop l m k hlt (by omega))
        generalize l[k] = n at *
        generalize m[k] = n' at *
        have hkm : (k : Int) < (m.length : Int) := by omega
        have hkl : (k : Int) < (l.length : Int) := by omega
        have hk0 : (0 : Int) ≤ (k : Int) := by omega
        go_wp2
        go_quiet (fail)
        have hb2 := below_drewN hb nq
        by_cases hnn : n = n'
        · have hne : (n != n') = false := by simp [hnn]
          have hnn' := hide hnn; clear hnn
          go_wp2
          go_roundw
          case rel => exact ⟨k + 1, by omega, by go_num, by unfold Hid; rw [← hs.out, hs1.out, hnn'.out]; simp, hb2⟩
          case measure => simp [intOf]; omega
        · have hne : (n != n') = true := by simp [hnn]
          have hnn' := hide hnn; clear hnn
          go_wp2
          go_ret
          exact ⟨ret_bool (by rw [← hs.out, hs1.out, decide_eq_false hnn'.out]; rfl), hb2⟩
      · go_wp2
        go_ret
        exact ⟨ret_bool (by rw [← hs.out, List.drop_eq_nil_of_le (by omega), List.drop_eq_nil_of_le (by omega)]; rfl), hb⟩
  · have hne : ((l.length : Int) != (m.length : Int)) = true := by simp; omega
    have hd := hide (decide_eq_false (p := l = m) (fun e => hlen (by rw [e])))
    clear hlen
    go_enter Try.func66, Try.ntmps66
    go_wp2
    go_ret
    exact ⟨ret_bool (by rw [hd.out]), by go_grown⟩

end Go.Proofs.Ythhnhajldhnfmaa
