/- Arguments opened: what any row needs. Arguments opened: cells of any struct, field by field. The walks of layers 34 and 35, second part: equality, membership, checks, clones. The walks of layers 34 and 35, eighth part: equality of trackers. Contracts of layers 34 and 35 that were walked by hand, as contracts of the abstract walk. Contracts that were walked by hand, in the form in which the printed ones call them. What some functions compute, over plain values. Printed by a program of mine (gen_fun.lean). Arguments opened: structs (printed by gen_open.py). Chapter 36, plain: Missing, Begin, Same, SameBools, SameGaps, Few. Chapter 36, plain: the laws that compare, and that the program is awake. Chapter 37, plain: the examples; Adds, Releases, Runs. Chapter 37: the contracts of the seven laws. -/
import Derived.Test.YtimkhfaddnanhaaGreatK07
import Derived.Test.YtimkhfaddnanhaaGreatK08
import Derived.Test.YtimkhfaddnanhaaGreatK09
import Derived.Test.YtimkhfaddnanhaaGreatK10
import Derived.Test.YtimkhfaddnanhaaGreatK11
import Derived.Test.YtimkhfaddnanhaaGreatK13
import Derived.Test.YtimkhfaddnanhaaGreatK14
import Derived.Test.YtimkhfaddnanhaaGreatK16
import Derived.Test.YtimkhfaddnanhaaGreatK15
set_option linter.unusedVariables false
set_option linter.unusedSimpArgs false
set_option maxRecDepth 100000
set_option maxHeartbeats 8000000
namespace Go.Proofs.YtimkhfaddnanhaaGreat
open Go.ChangeShapes Go.WideShapes Go.ChangeAt Go.RowKit Go.Joins Go.Deep

section
variable {H : Type} {enc : TypeId × Value → H} {W : World} {base : Nat} {v : Value} {d : DataW H} {p : List MemPlace}
set_option maxRecDepth 100000
theorem agg_of {α : Type} {a : α → AV} {m : α} {cs : Array Value} {xs : List AV} (hm : a m = .agg xs) (h : CellsOf W a m cs.toList) : Rep W (fun _ => True) G0 (a m) (.agg cs) := by
  obtain ⟨h1, h2⟩ := h
  rw [hm] at h1 h2 ⊢
  have hl : cs.size = xs.length := by simpa [AV.cells] using h1
  have g : ∀ i, cs.toList.getD i undef = cs.getD i undef := fun i => by
    by_cases hi : i < cs.size
    · simp [Array.getD, hi]
    · simp [Array.getD, hi]
  refine .agg _ hl (fun i hi => ?_) (fun i hi => ?_)
  · have := (h2 i hi).1
    rw [g] at this
    exact this
  · have := (h2 i (show i < xs.length by rw [← hl]; exact hi)).2
    rw [g] at this
    exact this
end
end Go.Proofs.YtimkhfaddnanhaaGreat
namespace Go.Proofs.YtimkhfaddnanhaaGreat
open Go.ChangeShapes Go.WideShapes Go.ChangeAt Go.RowKit Go.Joins Go.Deep

section
variable {H : Type} {enc : TypeId × Value → H} {W : World} {base : Nat} {v : Value} {d : DataW H} {p : List MemPlace}
set_option maxRecDepth 100000
theorem arg_struct {t : TypeId} {fs : Array Field} {sz : Nat} {α : Type} {a : α → AV} (ht : Tryz.prog.underlying t = some (.struct fs)) (hsz : Tryz.prog.cellsOf t = sz) (ha : ∀ m, ∃ xs, a m = .agg xs) (each : FO enc W t sz (fun m : α => (a m).cells))
    (hv : Value.okWide Tryz.prog W .any base t v) (h : DataW.Trod enc Tryz.prog W 0 (fun _ => true) true t v d p) : ∃ m : α, Rep W (fun _ => True) G0 (a m) v := by
  obtain ⟨cs, rfl, hz⟩ := okWide_struct ht hv
  obtain ⟨fuel, hf⟩ := h
  obtain ⟨m, hm⟩ := each fuel cs.toList _ (by simpa using hz.trans hsz) hf
  obtain ⟨xs, hx⟩ := ha m
  exact ⟨m, agg_of hx hm⟩
end
end Go.Proofs.YtimkhfaddnanhaaGreat
namespace Go.Proofs.YtimkhfaddnanhaaGreat
open Go.RowKit

theorem eqlist_drop (l m : List Int) (k : Nat) (h1 : k < l.length) (h2 : k < m.length) : decide (l.drop k = m.drop k) = (decide (l[k] = m[k]) && decide (l.drop (k + 1) = m.drop (k + 1))) := by
  rw [drop_cons l k h1, drop_cons m k h2]; simp only [List.cons.injEq, Bool.decide_and]

set_option maxHeartbeats 400000 in
theorem sameInts_any (l m : List Int) (S S' : Nat → Prop) (v u : Value) (w : World) (h : Ints w S v l) (h' : Ints w S' u m) (hl : l.length ≤ 1000000000) :
    Calls Tryz.prog 86 #[v, u] w fun e w' => e = .returned (.bool (decide (l = m))) ∧ Below w.heap.size w w' := by
  obtain ⟨A, c, rfl, hc, hcell⟩ := ints_form h
  obtain ⟨A', c', rfl, hc', hcell'⟩ := ints_form h'
  have H := hide hcell; clear hcell h
  have H' := hide hcell'; clear hcell' h'
  by_cases hlen : l.length = m.length
  · have hne : ((l.length : Int) != (m.length : Int)) = false := by simp [hlen]
    have hlm := hide hlen
    have hle1 : l.length ≤ m.length := by omega
    have hle2 : m.length ≤ l.length := by omega
    clear hlen
    go_enter Tryz.func86, Tryz.ntmps86
    go_wp2
    clear hne
    go_loopw [5] (fun i wr => ∃ k : Nat, k ≤ l.length ∧ i = .int .i64 k ∧ Hid (decide (l.drop k = m.drop k) = decide (l = m)) ∧ Below w.heap.size w wr) (fun i _ => l.length - (intOf i).toNat)
    case atStart => exact ⟨0, Nat.zero_le _, rfl, by simp [Hid], by go_grown⟩
    case round =>
      obtain ⟨k, hk, rfl, hs, hb⟩ := hrel
      by_cases hlt : k < l.length
      · obtain ⟨b, off, rfl, hbl, hx⟩ := H.out k hlt
        obtain ⟨b', off', rfl, hbl', hx'⟩ := H'.out k (by omega)
        have hx := cell_later hb hx
        have hx' := cell_later hb hx'
        have hs1 := hide (eqlist_drop l m k hlt (by omega))
        generalize l[k] = n at *
        generalize m[k] = n' at *
        have hkm : (k : Int) < (m.length : Int) := by omega
        have hkl : (k : Int) < (l.length : Int) := by omega
        have hk0 : (0 : Int) ≤ (k : Int) := by omega
        go_wp2
        go_quiet (fail)
        have hb2 := below_drewN hb nq
        by_cases hnn : n = n'
        · have hne : (n != n') = false := by simp [hnn]
          have hnn' := hide hnn; clear hnn
          go_wp2
          go_roundw
          case rel => exact ⟨k + 1, by omega, by go_num, by unfold Hid; rw [← hs.out, hs1.out, hnn'.out]; simp, hb2⟩
          case measure => simp [intOf]; omega
        · have hne : (n != n') = true := by simp [hnn]
          have hnn' := hide hnn; clear hnn
          go_wp2
          go_ret
          exact ⟨ret_bool (by rw [← hs.out, hs1.out, decide_eq_false hnn'.out]; rfl), hb2⟩
      · go_wp2
        go_ret
        exact ⟨ret_bool (by rw [← hs.out, List.drop_eq_nil_of_le (by omega), List.drop_eq_nil_of_le (by omega)]; rfl), hb⟩
  · have hne : ((l.length : Int) != (m.length : Int)) = true := by simp; omega
    have hd := hide (decide_eq_false (p := l = m) (fun e => hlen (by rw [e])))
    clear hlen
    go_enter Tryz.func86, Tryz.ntmps86
    go_wp2
    go_ret
    exact ⟨ret_bool (by rw [hd.out]), by go_grown⟩

end Go.Proofs.YtimkhfaddnanhaaGreat
namespace Go.Proofs.YtimkhfaddnanhaaGreat
open Go.RowKit

theorem neqPt (a b c d : Int) (w : World) : (binOp .neq 109 (.agg #[.int .i64 a, .int .i64 b]) (.agg #[.int .i64 c, .int .i64 d])).run Tryz.prog w = .ok (.bool (!decide ((⟨a, b⟩ : Pt) = ⟨c, d⟩))) w := by
  have u3 := Tryz.underlying3
  have a3 := Tryz.isAgg3
  have z3 := Tryz.sizeOf3
  have hS : Tryz.prog.underlying 109 = some (.struct (Tryz.prog.fieldsOf 109)) := by kernel_rfl
  have hp : Tryz.prog.stoodInHeld 109 = false := by kernel_rfl
  simp only [binOp]
  rw [show Op.equal 109 = Op.equalIn (9999+1) 109 from rfl]
  rw [Sem.run_bind, run_equalIn_agg w 9999 109 _ _ hS hp]
  simp only [Program.fieldsOf, Tryz.underlying109]
  go_simp
  by_cases h1 : a = c <;> by_cases h2 : b = d <;> simp [h1, h2]

theorem eqpts_drop (l m : List Pt) (k : Nat) (h1 : k < l.length) (h2 : k < m.length) : decide (l.drop k = m.drop k) = (decide (l[k] = m[k]) && decide (l.drop (k + 1) = m.drop (k + 1))) := by
  rw [drop_cons l k h1, drop_cons m k h2]; simp only [List.cons.injEq, Bool.decide_and]

set_option maxHeartbeats 800000 in
theorem same_any (t u : Trk) (S S' : Nat → Prop) (v v' : Value) (w : World) (h : TrkV w S v t) (h' : TrkV w S' v' u) (hl1 : t.beyond.length ≤ 1000000000) (hl2 : t.points.length ≤ 1000000000) :
    Calls Tryz.prog 53 #[v, v'] w fun e w' => e = .returned (.bool (decide (t = u))) ∧ Below w.heap.size w w' := by
  obtain ⟨vb, vp, rfl, hB, hP⟩ := h
  obtain ⟨ub, up, rfl, hB', hP'⟩ := h'
  obtain ⟨A, c, rfl, hc, hcell⟩ := pts_form hP
  obtain ⟨Ab, cb, rfl, _, _⟩ := ints_form hB
  obtain ⟨A', c', rfl, hc', hcell'⟩ := pts_form hP'
  obtain ⟨Ab', cb', rfl, _, _⟩ := ints_form hB'
  have H := hide hcell
  have H' := hide hcell'
  have HB := hide hB
  have HB' := hide hB'
  clear hcell hB hP hcell' hB' hP'
  obtain ⟨n1, lb, l, m1⟩ := t
  obtain ⟨n2, mb, m, m2⟩ := u
  dsimp only at *
  have hgoal : Hid (decide ((⟨n1, lb, l, m1⟩ : Trk) = ⟨n2, mb, m, m2⟩) = (decide (n1 = n2) && (decide (lb = mb) && (decide (l = m) && decide (m1 = m2))))) := by
    unfold Hid; rw [Bool.eq_iff_iff]; simp
  generalize hres : decide ((⟨n1, lb, l, m1⟩ : Trk) = ⟨n2, mb, m, m2⟩) = res at *
  clear hres
  have hpre : ∀ (b : Bool), (n1 != n2) = b → (b = true → res = false) := fun b hb ht => by
    rw [ht] at hb; rw [hgoal.out, decide_eq_false (by simpa using hb)]; rfl
  have hpre2 : ∀ (b : Bool), (m1 != m2) = b → (b = true → res = false) := fun b hb ht => by
    rw [ht] at hb; rw [hgoal.out, decide_eq_false (p := m1 = m2) (by simpa using hb)]; simp
  have hpre3 : ∀ (b : Bool), ((l.length : Int) != (m.length : Int)) = b → (b = true → res = false) := fun b hb ht => by
    rw [ht] at hb; rw [hgoal.out, decide_eq_false (p := l = m) (fun e => by subst e; simp at hb)]; simp
  have H1 := hide hpre
  have H2 := hide hpre2
  have H3 := hide hpre3
  clear hpre hpre2 hpre3
  cases e1 : (n1 != n2)
  · cases e2 : (m1 != m2)
    · cases e3 : ((l.length : Int) != (m.length : Int))
      · have q1 : n1 = n2 := by simpa using e1
        have q2 : m1 = m2 := by simpa using e2
        have q3' : (l.length : Int) = (m.length : Int) := by simpa using e3
        have q3 : l.length = m.length := by omega
        clear q3'
        cases hi : decide (lb = mb)
        all_goals
          have hgo := hgoal.out
          rw [hi, decide_eq_true q1, decide_eq_true q2] at hgo
          simp only [Bool.true_and, Bool.and_true, Bool.false_and] at hgo
          have Hi := hide hi
          have Hgo := hide hgo
          clear hi hgo hgoal
          have q3' := hide q3
          have q4 : l.length ≤ m.length := by omega
          have q5 : m.length ≤ l.length := by omega
          clear q1 q2 q3
          go_enter Tryz.func53, Tryz.ntmps53
          go_wp2_with fail
          refine (sameInts_any lb mb S S' _ _ _ (HB.out.below (by go_grown)) (HB'.out.below (by go_grown)) hl1).mono ?_
          rintro e w1 ⟨rfl, hb1⟩
          rw [Hi.out]
          have hw1 : Below w.heap.size w w1 := Below.next (by go_grown) hb1
          have ht2 := cell_later (a := ⟨w.heap.size, 2, none⟩) (v := .slice A l.length c) hb1 (by simp)
          have hu2 := cell_later (a := ⟨w.heap.size + 1, 2, none⟩) (v := .slice A' m.length c') hb1 (by simp)
          clear hb1
          go_wp2
        · go_ret
          exact ⟨ret_bool Hgo.out.symm, hw1⟩
        · clear e1 e2 e3
          go_loopw [5] (fun i wr => ∃ k : Nat, k ≤ l.length ∧ i = .int .i64 k ∧ Hid (decide (l.drop k = m.drop k) = decide (l = m)) ∧ Below w.heap.size w wr ∧ wr.cell? ⟨w.heap.size, 2, none⟩ = some (.slice A l.length c) ∧ wr.cell? ⟨w.heap.size + 1, 2, none⟩ = some (.slice A' m.length c')) (fun i _ => l.length - (intOf i).toNat)
          case atStart => exact ⟨0, Nat.zero_le _, rfl, rfl, hw1, ht2, hu2⟩
          case round =>
            clear ht2 hu2
            obtain ⟨k, hk, rfl, hs, hb, ht2, hu2⟩ := hrel
            by_cases hlt : k < l.length
            · obtain ⟨b, off, rfl, hbl, hx0, hx1⟩ := H.out k hlt
              obtain ⟨b', off', rfl, hbl', hy0, hy1⟩ := H'.out k (by omega)
              have hx0 := cell_later hb hx0
              have hx1 := cell_later hb hx1
              have hy0 := cell_later hb hy0
              have hy1 := cell_later hb hy1
              have hs1 := hide (eqpts_drop l m k hlt (by omega))
              generalize l[k] = x at *
              generalize m[k] = y at *
              obtain ⟨x0, x1⟩ := x
              obtain ⟨y0, y1⟩ := y
              have hkm : (k : Int) < (m.length : Int) := by omega
              have hkl : (k : Int) < (l.length : Int) := by omega
              have hk0 : (0 : Int) ≤ (k : Int) := by omega
              have hneq := fun W => neqPt x0 x1 y0 y1 W
              have hs2 := hs1.out
              generalize hd : decide ((⟨x0, x1⟩ : Pt) = ⟨y0, y1⟩) = d at *
              have Hd := hide hd
              clear hd
              cases d
              · have hs3 := hide hs2
                clear hs2
                simp only [Bool.not_false] at hneq
                go_wp2
                go_quiet (fail)
                have hb2 := below_drewN hb nq
                go_wp2
                go_ret
                exact ⟨ret_bool (by rw [Hgo.out, ← hs.out, hs3.out]; rfl), hb2⟩
              · have hs3 := hide hs2
                clear hs2
                simp only [Bool.not_true] at hneq
                go_wp2
                go_quiet (fail)
                have hb2 := below_drewN hb nq
                have hnx : Hid (decide (l.drop (k + 1) = m.drop (k + 1)) = decide (l = m)) := by
                  unfold Hid; rw [← hs.out, hs3.out]; rfl
                go_wp2
                first
                  | exact ⟨⟨k + 1, by omega, by go_num, hnx, hb2, ht2, hu2⟩, by simp [intOf]; omega⟩
                  | (go_roundw
                     case rel => exact ⟨k + 1, by omega, by go_num, hnx, hb2, ht2, hu2⟩
                     case measure => simp [intOf]; omega)
            · go_wp2
              go_ret
              exact ⟨ret_bool (by rw [Hgo.out, ← hs.out, List.drop_eq_nil_of_le (by omega), List.drop_eq_nil_of_le (by omega)]; rfl), hb⟩
      · have hr := hide (H3.out _ e3 rfl)
        go_enter Tryz.func53, Tryz.ntmps53
        go_wp2
        go_ret
        exact ⟨ret_bool hr.out.symm, by go_grown⟩
    · have hr := hide (H2.out _ e2 rfl)
      go_enter Tryz.func53, Tryz.ntmps53
      go_wp2
      go_ret
      exact ⟨ret_bool hr.out.symm, by go_grown⟩
  · have hr := hide (H1.out _ e1 rfl)
    go_enter Tryz.func53, Tryz.ntmps53
    go_wp2
    go_ret
    exact ⟨ret_bool hr.out.symm, by go_grown⟩

end Go.Proofs.YtimkhfaddnanhaaGreat
namespace Go.Proofs.YtimkhfaddnanhaaGreat
open Go.RowKit

theorem same_con (t u : Trk) (hl1 : t.beyond.length ≤ 1000000000) (hl2 : t.points.length ≤ 1000000000) : Con E0 true 53 [aTrk t, aTrk u] (.bool (decide (t = u))) :=
  Con.of2 (enters_of Tryz.func53 rfl rfl) fun S w x y hx hy => (same_any t u S S x y w (rep_trk.1 hx) (rep_trk.1 hy) hl1 hl2).mono fun e w' ⟨h1, h2⟩ => ⟨_, h1, h2, .bool _⟩
end Go.Proofs.YtimkhfaddnanhaaGreat
namespace Go.Proofs.YtimkhfaddnanhaaGreat
open Go.RowKit

def F_trkSame (n : Nat) (t u : Trk) : Option Bool := if t.beyond.length ≤ 1000000000 ∧ t.points.length ≤ 1000000000 then some (decide (t = u)) else none
def R_trkSame (r : Bool) : AV := .bool r
theorem con_trkSame {n : Nat} {t u : Trk} {r : Bool} (h : F_trkSame n t u = some r) : Con E0 true 53 [aTrk t, aTrk u] (R_trkSame r) := by
  unfold F_trkSame at h
  split at h
  · rename_i hl; injection h with h; subst h; exact same_con t u hl.1 hl.2
  · cases h
end Go.Proofs.YtimkhfaddnanhaaGreat
namespace Go.Proofs.YtimkhfaddnanhaaGreat
open Go.RowKit
def F_tidegateref36_Same_l1 (n : Nat) (a1 : (List Trk)) (a0 : (List Trk)) (k1_0_0 : Option (Bool)) : Nat → Int → Option (Bool)
  | 0, _ => none
  | mv1_0 + 1, v1_0 =>
    cnd (decide (v1_0 < (((List.map aTrk (a0)).length : Nat) : Int)))
      (idx a0 v1_0 fun x41 =>
      idx a1 v1_0 fun x42 =>
      bnd (F_trkSame n x41 x42) fun x43 =>
      cnd (!(x43))
        (some false)
      <| F_tidegateref36_Same_l1 n a1 a0 k1_0_0 mv1_0 (IntKind.wrap .i64 (v1_0 + 1)))
    <| k1_0_0
def F_tidegateref36_Same (n : Nat) (a0 : (List Trk)) (a1 : (List Trk)) : Option (Bool) :=
  cnd (!decide ((((List.map aTrk (a0)).length : Nat) : Int) = (((List.map aTrk (a1)).length : Nat) : Int)))
    (some false)
  <| F_tidegateref36_Same_l1 n a1 a0
    (some true) n 0
def F_tidegatelaw37_ReorderAdds (n : Nat) (a0 : (List Trk)) (a1 : (List T_api_Event)) (a2 : T_api_Message) : Option (Bool) :=
  bnd (F_tidegateref36_Few n a0) fun x1 =>
  cnd (!(x1))
    (bnd (F_tidegatelaw37_awake n) fun x2 =>
    some x2)
  <| bnd (F_tidegateref05_Few n a1) fun x3 =>
  cnd (!(x3))
    (bnd (F_tidegatelaw37_awake n) fun x4 =>
    some x4)
  <| bnd (F_tidegateref37_Few n [a2]) fun x5 =>
  cnd (!(x5))
    (bnd (F_tidegatelaw37_awake n) fun x6 =>
    some x6)
  <| bnd (F_reorder_Add n a0 a1 a2) fun x7 =>
  bnd (F_tidegateref37_Add n a0 a1 a2) fun x8 =>
  bnd (F_reorder_Begin n (IntKind.wrap .i64 ((((List.map aTrk (a0)).length : Nat) : Int) - 1))) fun x9 =>
  bnd (F_tidegateref37_Begin n (IntKind.wrap .i64 ((((List.map aTrk (a0)).length : Nat) : Int) - 1))) fun x10 =>
  bnd (F_tidegateref36_Same n x7.1 x8.1) fun x11 =>
  cnd (x11)
    (bnd (F_tidegateref05_Same n x7.2.1 x8.2.1) fun x12 =>
    cnd (x12)
      (cnd (decide (x7.2.2 = x8.2.2))
        (bnd (F_tidegateref36_Same n x9.1 x10.1) fun x13 =>
        cnd (x13)
          (cnd (decide (x9.2 = x10.2))
            (bnd (F_tidegatelaw37_awake n) fun x14 =>
            some x14)
          <| some false)
        <| some false)
      <| some false)
    <| some false)
  <| some false
end Go.Proofs.YtimkhfaddnanhaaGreat
namespace Go.Proofs.YtimkhfaddnanhaaGreat
open Go.ChangeShapes Go.WideShapes Go.ChangeAt Go.RowKit Go.Joins Go.Deep

section
variable {H : Type} {enc : TypeId × Value → H} {W : World} {base : Nat} {v : Value} {d : DataW H} {p : List MemPlace}
set_option maxRecDepth 100000
theorem Message_arg (hv : Value.okWide Tryz.prog W .any base 28 v) (h : DataW.Trod enc Tryz.prog W 0 (fun _ => true) true 28 v d p) : ∃ m : T_api_Message, Rep W (fun _ => True) G0 (e_api_Message m) v :=
  arg_struct Tryz.underlying28 (by kernel_rfl) (fun _ => ⟨_, rfl⟩) fo_Message hv h
end
end Go.Proofs.YtimkhfaddnanhaaGreat
namespace Go.Proofs.YtimkhfaddnanhaaGreat
open Go.RowKit

theorem p_same_l1 (n : Nat) (a b : List Trk) (hab : a.length = b.length) (ha : a.length ≤ 1000000) (hf : ∀ t ∈ a, t.beyond.length ≤ 1000000000 ∧ t.points.length ≤ 1000000000) : ∀ (m k : Nat), k ≤ a.length → a.length < m + k → F_tidegateref36_Same_l1 n b a (some true) m (k : Int) = some (decide (a.drop k = b.drop k))
  | 0, k, h1, h3 => by omega
  | m + 1, k, h1, h3 => by
    unfold F_tidegateref36_Same_l1
    simp only [List.length_map, cnd_if, cnd_not]
    by_cases h : k < a.length
    · have hb : k < b.length := by omega
      have hft := hf a[k] (List.getElem_mem h)
      rw [if_pos (by omega), idx_nat h, idx_nat hb]
      unfold F_trkSame
      rw [if_pos hft, bnd_some, cnd_if, wrapS k (by omega), p_same_l1 n a b hab ha hf m (k + 1) (by omega) (by omega), drop_eq a b k h hb]
      by_cases h2 : a[k] = b[k] <;> simp [h2]
    · rw [if_neg (by omega), List.drop_eq_nil_of_le (by omega), List.drop_eq_nil_of_le (by omega)]; simp
theorem p_same (n : Nat) (a b : List Trk) (ha : a.length ≤ 1000000) (hn : a.length < n) (hf : ∀ t ∈ a, t.beyond.length ≤ 1000000000 ∧ t.points.length ≤ 1000000000) : F_tidegateref36_Same n a b = some (decide (a = b)) := by
  unfold F_tidegateref36_Same
  simp only [List.length_map, cnd_if, cnd_not]
  by_cases h : a.length = b.length
  · rw [if_pos (by omega)]
    have := p_same_l1 n a b h ha hf n 0 (by omega) (by omega)
    simpa using this
  · rw [if_neg (by omega)]
    have : a ≠ b := fun e => h (by rw [e])
    simp [this]
end Go.Proofs.YtimkhfaddnanhaaGreat
namespace Go.Proofs.YtimkhfaddnanhaaGreat
open Go.RowKit

theorem few36_len (l : List Trk) (h : few36 l = true) : l.length ≤ 12 ∧ ∀ t ∈ l, t.beyond.length ≤ 300 ∧ t.points.length ≤ 300 := by
  unfold few36 at h
  simp only [Bool.and_eq_true, decide_eq_true_eq, List.all_eq_true] at h
  refine ⟨h.2, fun t ht => ?_⟩
  have := h.1 t (by rw [List.take_of_length_le h.2]; exact ht)
  simpa [fewT] using this
theorem TOk.fits {t : Trk} (h : TOk t) : t.beyond.length ≤ 1000000000 ∧ t.points.length ≤ 1000000000 := by
  have h1 := ((sqCheck_zero _).1 h.sq).2.1
  have h2 := h.len
  omega
theorem p_same_ok (a : List Trk) (ha : a.length ≤ 8) (ht : ∀ t ∈ a, TOk t) : F_tidegateref36_Same 100000 a a = some true := by
  rw [p_same _ a a (by omega) (by omega) (fun t h => (ht t h).fits)]
  simp
theorem begin_fit (k : Int) : (beginT k).1.length ≤ 8 ∧ ∀ t ∈ (beginT k).1, TOk t := by
  unfold beginT
  split
  · simp
  · exact ⟨by simp; omega, fun t ht => by rw [List.eq_of_mem_replicate ht]; exact begin_ok⟩
end Go.Proofs.YtimkhfaddnanhaaGreat
namespace Go.Proofs.YtimkhfaddnanhaaGreat
open Go.RowKit
open S05

theorem joinedS_out (a b : List Ev) : ∀ x ∈ (joinedS a b).1, x ∈ a ++ b := fun x hx => by
  unfold joinedS at hx
  split at hx
  · rename_i hd
    split at hx
    · simp at hx
    · exact (srt_mem hd x).1 hx
  · simp at hx
theorem joinedS_len (a b : List Ev) : (joinedS a b).1.length ≤ a.length + b.length := by
  unfold joinedS
  split
  · rename_i hd
    split
    · simp
    · have := (srt_nodup hd).length_le_of_subset (fun x hx => (srt_mem hd x).1 hx)
      simpa using this
  · simp
theorem insS_out (w : List Ev) (e : Ev) : (∀ x ∈ (insS w e).1, x ∈ w ++ [e]) ∧ (insS w e).1.length ≤ w.length + 1 := by
  unfold insS
  split
  · simp
  · split
    · simp
    · exact ⟨joinedS_out w [e], joinedS_len w [e]⟩
theorem addS_out (l : List Trk) (w : List Ev) (m : T_api_Message) : (addS l w m).1.length ≤ 8 ∧ (∀ t ∈ (addS l w m).1, TOk t) ∧ (∀ x ∈ (addS l w m).2.1, x ∈ w ++ [m.fEvent]) ∧ (addS l w m).2.1.length ≤ w.length + 1 := by
  unfold addS
  by_cases h : wCheck l = 0
  · have hok := (wCheck_zero l).1 h
    rw [if_neg (by simpa using h)]
    split
    · simp
    · split
      · simp
      · rename_i h3
        obtain ⟨a1, a2⟩ := stepT_all l m hok.2 (by simpa using h3)
        split
        · exact ⟨by simp only; omega, a1, fun x hx => by simp [hx], by simp⟩
        · split
          · simp
          · exact ⟨by simp only; omega, a1, (insS_out w _).1, (insS_out w _).2⟩
  · rw [if_pos h]; simp
theorem law_adds37 (l : List Trk) (w : List Ev) (m : T_api_Message) : F_tidegatelaw37_ReorderAdds 100000 l w m = some true := by
  unfold F_tidegatelaw37_ReorderAdds
  rw [p_few _ l (by omega), S05.p_few _ w (by omega), p_few37 _ [m] (by omega), awake37]
  simp only [bnd_some, cnd_not]
  cases h1 : few36 l with
  | false => rw [cnd_f]
  | true =>
    cases h2 : fewE w with
    | false => simp only [cnd_t, cnd_f]
    | true =>
      cases h3 : few37 [m] with
      | false => simp only [cnd_t, cnd_f]
      | true =>
        simp only [cnd_t]
        obtain ⟨f1, _⟩ := few36_len l h1
        obtain ⟨f2, f3⟩ := fewE_out h2
        have f4 : sv m.fEvent := (few37_out h3).2 m (by simp)
        rw [p_add37 _ l w m f3 f4 (by omega) (by omega), p_radd37 _ l w m f3 f4 (by omega) (by omega)]
        unfold F_reorder_Begin F_tidegateref37_Begin
        rw [p_begin _ _ (by omega), p_rbegin _ _ (by omega)]
        simp only [bnd_some]
        obtain ⟨a1, a2, a3, a4⟩ := addS_out l w m
        obtain ⟨b1, b2⟩ := begin_fit (IntKind.wrap .i64 ((((List.map aTrk l).length : Nat) : Int) - 1))
        rw [p_same_ok _ a1 a2, Same_refl (fun x hx => by
          rcases List.mem_append.1 (a3 x hx) with h | h
          · exact f3 x h
          · rw [List.mem_singleton.1 h]; exact f4) (by omega), p_same_ok _ b1 b2]
        simp only [bnd_some, cnd_t, decide_true]
end Go.Proofs.YtimkhfaddnanhaaGreat
namespace Go.Proofs.YtimkhfaddnanhaaGreat
open Go.RowKit
def S_tidegateref36_Same_l1 (a1 : (List Trk)) (a0 : (List Trk)) (v1_0 : Int) : AS := ⟨[(0, .sl 4 (List.map aTrk (a0))), (1, .sl 4 (List.map aTrk (a1))), (5, aI (v1_0))], []⟩
theorem tidegateref36_Same_l1_o {n N : Nat} {a1 : (List Trk)} {a0 : (List Trk)} {k1_0_0 : Option (Bool)} {R : Exit → AS → Prop} {K : List KItem} {c : Code} {σ : AS} {v0 : Int} {r : Bool} (hF : F_tidegateref36_Same_l1 n a1 a0 k1_0_0 N v0 = some r) (hl : LeX E0 27 σ (S_tidegateref36_Same_l1 a1 a0 v0)) (round : ∀ m v, F_tidegateref36_Same_l1 n a1 a0 k1_0_0 (m + 1) v = some r → AW E0 27 (thenA (fun σ' => ∃ v', F_tidegateref36_Same_l1 n a1 a0 k1_0_0 m v' = some r ∧ LeX E0 27 σ' (S_tidegateref36_Same_l1 a1 a0 v')) (AW E0 27 R K)) [.code c] .normal (S_tidegateref36_Same_l1 a1 a0 v)) : LoopX E0 27 (fun next σ' => AW E0 27 (thenA next (AW E0 27 R K)) [.code c] .normal σ') σ :=
  LoopA.o (S := S_tidegateref36_Same_l1 a1 a0) hF (fun _ => rfl) hl round
def R_tidegateref36_Same (r : Bool) : AV := .bool (r)
theorem con_tidegateref36_Same {n : Nat} {a0 : (List Trk)} {a1 : (List Trk)} {r : Bool} (hF : F_tidegateref36_Same n a0 a1 = some r) : Con E0 true 18 [.sl 4 (List.map aTrk (a0)), .sl 4 (List.map aTrk (a1))] (R_tidegateref36_Same r) := by
  unfold F_tidegateref36_Same at hF
  refine Con.walk _ Tryz.func18 rfl (enters_of Tryz.func18 rfl rfl) rfl (Or.inr rfl) ?_
  repeat' first
    | (refine AW.step ?_; conv => whnf)
    | (refine CondX.o hF (fun hF => ?_) (fun hF => ?_))
    | (refine CondX.t ?_)
    | (refine CondX.f ?_)
    | (refine IdxX.o aTrk hF (fun x hF => ?_))
    | (refine CallX.o hF R_trkSame (fun a h => con_trkSame h) (fun a hF => ?_))
    | (exact ⟨_, hF, LeX.of [] rfl ⟨⟨rfl, rfl⟩, ⟨rfl, rfl⟩, ⟨rfl, rfl⟩, trivial⟩ trivial⟩)
    | (refine tidegateref36_Same_l1_o hF (LeX.of [] rfl ⟨⟨rfl, rfl⟩, ⟨rfl, rfl⟩, ⟨rfl, rfl⟩, trivial⟩ trivial) (fun m v hF => ?_); unfold F_tidegateref36_Same_l1 at hF)
    | (refine And.intro ⟨by kernel_rfl, by kernel_rfl⟩ ?_)
    | (refine EqX.mk (by first | rfl | kernel_rfl) ?_)
    | (exact RetX.o hF (by repeat' first | exact Sub.nil _ | exact Sub.refl _ | refine Sub.agg ?_ | refine Sub.tup ?_ | refine Sub.fn ?_ | exact SubL.nil | refine SubL.cons ?_ ?_ | refine Sub.sl _ ?_ | exact SubE.nil | refine SubE.cons ?_ ?_))

end Go.Proofs.YtimkhfaddnanhaaGreat
namespace Go.Proofs.YtimkhfaddnanhaaGreat
open Go.RowKit
def R_tidegatelaw37_ReorderAdds (r : Bool) : AV := .bool (r)
theorem con_tidegatelaw37_ReorderAdds {n : Nat} {a0 : (List Trk)} {a1 : (List T_api_Event)} {a2 : T_api_Message} {r : Bool} (hF : F_tidegatelaw37_ReorderAdds n a0 a1 a2 = some r) : Con E0 true 3 [.sl 4 (List.map aTrk (a0)), .sl 5 (List.map e_api_Event (a1)), .agg [aI (a2.fKind), aI (a2.fEvent.fSource), aI (a2.fEvent.fSeq), aI (a2.fEvent.fType), aI (a2.fEvent.fTime), .sl 3 (List.map e_api_Value (a2.fEvent.fValues)), aI (a2.fSource), aI (a2.fSeq), aI (a2.fTime)]] (R_tidegatelaw37_ReorderAdds r) := by
  unfold F_tidegatelaw37_ReorderAdds at hF
  refine Con.walk _ Tryz.func3 rfl (enters_of Tryz.func3 rfl rfl) rfl (Or.inr rfl) ?_
  repeat' first
    | (refine AW.step ?_; conv => whnf)
    | (refine CondX.o hF (fun hF => ?_) (fun hF => ?_))
    | (refine CondX.t ?_)
    | (refine CondX.f ?_)
    | (refine CallX.o hF R_tidegateref36_Few (fun a h => con_tidegateref36_Few h) (fun a hF => ?_))
    | (refine CallX.o hF R_tidegatelaw37_awake (fun a h => con_tidegatelaw37_awake h) (fun a hF => ?_))
    | (refine CallX.o hF R_tidegateref05_Few (fun a h => con_tidegateref05_Few h) (fun a hF => ?_))
    | (refine CallX.o hF R_tidegateref37_Few (fun a h => con_tidegateref37_Few h) (fun a hF => ?_))
    | (refine CallX.o hF R_reorder_Add (fun a h => con_reorder_Add h) (fun a hF => ?_))
    | (refine CallX.o hF R_tidegateref37_Add (fun a h => con_tidegateref37_Add h) (fun a hF => ?_))
    | (refine CallX.o hF R_reorder_Begin (fun a h => con_reorder_Begin h) (fun a hF => ?_))
    | (refine CallX.o hF R_tidegateref37_Begin (fun a h => con_tidegateref37_Begin h) (fun a hF => ?_))
    | (refine CallX.o hF R_tidegateref36_Same (fun a h => con_tidegateref36_Same h) (fun a hF => ?_))
    | (refine CallX.o hF R_tidegateref05_Same (fun a h => con_tidegateref05_Same h) (fun a hF => ?_))
    | (refine And.intro ⟨by kernel_rfl, by kernel_rfl⟩ ?_)
    | (refine EqX.mk (by first | rfl | kernel_rfl) ?_)
    | (exact RetX.o hF (by repeat' first | exact Sub.nil _ | exact Sub.refl _ | refine Sub.agg ?_ | refine Sub.tup ?_ | refine Sub.fn ?_ | exact SubL.nil | refine SubL.cons ?_ ?_ | refine Sub.sl _ ?_ | exact SubE.nil | refine SubE.cons ?_ ?_))

end Go.Proofs.YtimkhfaddnanhaaGreat
namespace Go.Proofs.YtimkhfaddnanhaaGreat
open Go.RowKit
theorem adds_con37 (l : List Trk) (w : List T_api_Event) (m : T_api_Message) : Con E0 true 3 [.sl 4 (l.map aTrk), .sl 5 (w.map e_api_Event), e_api_Message m] (.bool true) := con_tidegatelaw37_ReorderAdds (law_adds37 l w m)
end Go.Proofs.YtimkhfaddnanhaaGreat
