/- What some functions compute, over plain values. Printed by a program of mine (gen_fun.lean). Arguments opened: bytes. Chapter 47, plain: reading, replaying (both). Chapter 47, plain: the laws Reads, Replays, Routes, Divides, Promises. Chapter 47: the contracts of five laws. -/
import Derived.Test.YtcbdhigllelmcaaGreatK09
import Derived.Test.YtcbdhigllelmcaaGreatK10
import Derived.Test.YtcbdhigllelmcaaGreatK07
import Derived.Test.YtcbdhigllelmcaaGreatK12
import Derived.Test.YtcbdhigllelmcaaGreatK13
import Derived.Test.YtcbdhigllelmcaaGreatK16
import Derived.Test.YtcbdhigllelmcaaGreatK11
set_option linter.unusedVariables false
set_option linter.unusedSimpArgs false
set_option maxRecDepth 100000
set_option maxHeartbeats 8000000
namespace Go.Proofs.YtcbdhigllelmcaaGreat
open Go.RowKit
def F_tidegatelaw47_ReaderDivides_l1 (n : Nat) (a2 : Int) (a1 : (List T_api_Message)) (a0 : (List T_api_Schema)) (x5 : T_api_Reader × (List T_api_Item) × Int) (k1_0_0 : (List T_api_Item) → Int → Int → Int → (List Int) → (List Pt) → Int → Int → Int → Int → (List Int) → (List Pt) → Int → (List T_api_Item) → Option (Bool)) : Nat → Int × Int × Int × Int × (List Int) × (List Pt) × Int × (List T_api_Item) → Option (Bool)
  | 0, _ => none
  | mv1_0 + 1, v1_0 =>
    cnd (decide (v1_0.1 < (((IntKind.wrap .i64 a2)).tmod (IntKind.wrap .i64 ((((List.map e_api_Message (a1)).length : Nat) : Int) + 1)))))
      (bnd (F_reader_Read n a0 (⟨v1_0.2.1, v1_0.2.2.1, ⟨v1_0.2.2.2.1, v1_0.2.2.2.2.1, v1_0.2.2.2.2.2.1, v1_0.2.2.2.2.2.2.1⟩⟩ : T_api_Reader) a1) fun x67 =>
      cnd (!decide (x67.2.2 = 0))
        (some false)
      <| cnd (!decide (x67.1.fOffset = (IntKind.wrap .i64 (v1_0.1 + 1))))
        (some false)
      <| cnd (decide (2 < (((List.map e_api_Item (x67.2.1)).length : Nat) : Int)))
        (some false)
      <| app v1_0.2.2.2.2.2.2.2 x67.2.1 72 fun x68 =>
      F_tidegatelaw47_ReaderDivides_l1 n a2 a1 a0 x5 k1_0_0 mv1_0 ((IntKind.wrap .i64 (v1_0.1 + 1)), x67.1.fSource, x67.1.fOffset, x67.1.fTracker.next, x67.1.fTracker.beyond, x67.1.fTracker.points, x67.1.fTracker.mark, x68))
    <| k1_0_0 x5.2.1 v1_0.2.1 v1_0.2.2.1 v1_0.2.2.2.1 v1_0.2.2.2.2.1 v1_0.2.2.2.2.2.1 v1_0.2.2.2.2.2.2.1 x5.1.fSource x5.1.fOffset x5.1.fTracker.next x5.1.fTracker.beyond x5.1.fTracker.points x5.1.fTracker.mark v1_0.2.2.2.2.2.2.2
def F_tidegatelaw47_ReaderDivides (n : Nat) (a0 : (List T_api_Schema)) (a1 : (List T_api_Message)) (a2 : Int) : Option (Bool) :=
  bnd (F_tidegatelaw47_few n a0 a1) fun x1 =>
  cnd (!(x1))
    (bnd (F_tidegatelaw47_awake n) fun x2 =>
    some x2)
  <| cnd (decide (20 < (((List.map e_api_Message (a1)).length : Nat) : Int)))
    (bnd (F_tidegatelaw47_awake n) fun x3 =>
    some x3)
  <| bnd (F_reader_Begin n 0) fun x4 =>
  bnd (F_reader_Replay n a0 x4.1 a1) fun x5 =>
  cnd (!decide (x4.2 = 0))
    (some false)
  <| cnd (!decide (x5.2.2 = 0))
    (bnd (F_tidegatelaw47_awake n) fun x6 =>
    cnd (x6)
      (some (decide ((((List.map e_api_Item (x5.2.1)).length : Nat) : Int) = 0)))
    <| some false)
  <| nzx ((IntKind.wrap .i64 ((((List.map e_api_Message (a1)).length : Nat) : Int) + 1))) <| F_tidegatelaw47_ReaderDivides_l1 n a2 a1 a0 x5
    (fun k1_0_0y0 k1_0_0y1 k1_0_0y2 k1_0_0y3 k1_0_0y4 k1_0_0y5 k1_0_0y6 k1_0_0y7 k1_0_0y8 k1_0_0y9 k1_0_0y10 k1_0_0y11 k1_0_0y12 k1_0_0y13 => bnd (F_reader_Replay n a0 (⟨k1_0_0y1, k1_0_0y2, ⟨k1_0_0y3, k1_0_0y4, k1_0_0y5, k1_0_0y6⟩⟩ : T_api_Reader) a1) fun x61 =>
  bnd (F_reader_Left n (⟨k1_0_0y1, k1_0_0y2, ⟨k1_0_0y3, k1_0_0y4, k1_0_0y5, k1_0_0y6⟩⟩ : T_api_Reader) a1) fun x62 =>
  app k1_0_0y13 x61.2.1 72 fun x63 =>
  bnd (F_tidegatelaw47_awake n) fun x64 =>
  cnd (x64)
    (cnd (decide (x61.2.2 = 0))
      (cnd (decide (x62.2 = 0))
        (cnd (decide (x62.1 = (IntKind.wrap .i64 ((((List.map e_api_Message (a1)).length : Nat) : Int) - (((IntKind.wrap .i64 a2)).tmod (IntKind.wrap .i64 ((((List.map e_api_Message (a1)).length : Nat) : Int) + 1)))))))
          (bnd (F_tidegateref47_Same n x61.1 (⟨k1_0_0y7, k1_0_0y8, ⟨k1_0_0y9, k1_0_0y10, k1_0_0y11, k1_0_0y12⟩⟩ : T_api_Reader)) fun x65 =>
          cnd (x65)
            (bnd (F_tidegateref46_SameItems n x63 k1_0_0y0) fun x66 =>
            some x66)
          <| some false)
        <| some false)
      <| some false)
    <| some false)
  <| some false) n (0, x4.1.fSource, x4.1.fOffset, x4.1.fTracker.next, x4.1.fTracker.beyond, x4.1.fTracker.points, x4.1.fTracker.mark, [])
end Go.Proofs.YtcbdhigllelmcaaGreat
namespace Go.Proofs.YtcbdhigllelmcaaGreat
open Go.ChangeShapes Go.WideShapes Go.ChangeAt Go.RowKit Go.Joins Go.Deep

section
variable {H : Type} {enc : TypeId × Value → H} {W : World} {base : Nat} {v : Value} {d : DataW H} {p : List MemPlace}
set_option maxRecDepth 100000
theorem u8_open (hv : Value.okWide Tryz.prog W .any base 5 v) (h : DataW.Trod enc Tryz.prog W 0 (fun _ => true) true 5 v d p) : ∃ n : Nat, n ≤ 255 ∧ v = .int .u8 n := by
  obtain ⟨n, rfl⟩ := okWide_int Tryz.underlying5 hv
  obtain ⟨fuel, hf⟩ := h
  obtain ⟨m, e, _, hw⟩ := DataW.trod_int (k := .u8) Tryz.underlying5 hf
  have e : n = m := by simpa [Value.cells] using e
  subst e
  have h2 : (0 : Int) ≤ n ∧ n ≤ 255 := by
    simp only [Lit.wf, Bool.and_eq_true, decide_eq_true_eq] at hw
    exact hw
  exact ⟨n.toNat, by omega, by rw [Int.toNat_of_nonneg h2.1]⟩
end
end Go.Proofs.YtcbdhigllelmcaaGreat
namespace Go.Proofs.YtcbdhigllelmcaaGreat
open Go.RowKit

theorem runR_app (l : List Sch) : ∀ (a b : List Ms) (r : Rd), runR l r (a ++ b) = ((runR l (runR l r a).1 b).1, (runR l r a).2 ++ (runR l (runR l r a).1 b).2)
  | [], b, r => by simp [runR]
  | m :: a, b, r => by rw [List.cons_append, runR, runR_app l a b, runR, List.append_assoc]
end Go.Proofs.YtcbdhigllelmcaaGreat
namespace Go.Proofs.YtcbdhigllelmcaaGreat
open Go.RowKit

theorem replS_err {l : List Sch} {r : Rd} {log : List Ms} (h : (replS l r log).2.2 ≠ 0) : (replS l r log).2.1 = [] := by
  unfold replS at h ⊢
  split
  · rfl
  · rename_i h1
    rw [if_neg h1] at h
    split
    · rfl
    · rename_i h2
      rw [if_neg h2] at h
      exact absurd rfl h
theorem at_k (l : List Sch) (log : List Ms) (k : Nat) (hk : k ≤ log.length) (hl : log.length ≤ 4096) : ROk (runR l r0 (log.take k)).1 ∧ (runR l r0 (log.take k)).1.fOffset = (k : Int) := by
  have h := runR_src l (log.take k) r0
  have e : (runR l r0 (log.take k)).1.fOffset = (k : Int) := by rw [h.2, List.length_take]; simp only [r0]; omega
  refine ⟨⟨by rw [h.1]; decide, by rw [e]; omega, runR_trk l _ r0 t0_ok⟩, e⟩
theorem plErr_ok {r : Rd} {log : List Ms} {more : Int} (hr : ROk r) (hl : log.length ≤ 4096) (hm : r.fOffset + more ≤ log.length) : plErr r log more = 0 := by
  unfold plErr
  rw [if_nne ((rdErr_zero r).2 hr), if_neg (by omega), if_neg (by omega)]
theorem p_divides_l1 (n : Nat) (a : Int) (log : List Ms) (l : List Sch) (q : Rd × List It × Int) (j : Nat) (ha : allErr l = 0) (hl : log.length ≤ 20) (hj : j ≤ log.length) (hja : (IntKind.wrap .i64 a).tmod (IntKind.wrap .i64 ((((List.map e_api_Message log).length : Nat) : Int) + 1)) = (j : Int)) (hv : ∀ m ∈ log, m.fEvent.fValues.length ≤ 12) (hn : 2000 ≤ n)
    (K : List It → Int → Int → Int → List Int → List Pt → Int → Int → Int → Int → List Int → List Pt → Int → List It → Option Bool) : ∀ (f k : Nat), k ≤ j → j < f + k →
    F_tidegatelaw47_ReaderDivides_l1 n a log l q K f ((k : Int), (runR l r0 (log.take k)).1.fSource, (runR l r0 (log.take k)).1.fOffset, (runR l r0 (log.take k)).1.fTracker.next, (runR l r0 (log.take k)).1.fTracker.beyond, (runR l r0 (log.take k)).1.fTracker.points, (runR l r0 (log.take k)).1.fTracker.mark, (runR l r0 (log.take k)).2) =
    (fun (z : Rd × List It) => K q.2.1 z.1.fSource z.1.fOffset z.1.fTracker.next z.1.fTracker.beyond z.1.fTracker.points z.1.fTracker.mark q.1.fSource q.1.fOffset q.1.fTracker.next q.1.fTracker.beyond q.1.fTracker.points q.1.fTracker.mark z.2) (runR l r0 (log.take j))
  | 0, k, h1, h2 => by omega
  | f + 1, k, h1, h2 => by
    rw [F_tidegatelaw47_ReaderDivides_l1]
    rw [hja]
    simp only [cnd_if, cnd_not, List.length_map]
    by_cases h : k < j
    · have hk : k < log.length := by omega
      obtain ⟨o1, o2⟩ := at_k l log k (by omega) (by omega)
      have hrr : ∀ r : Rd, (⟨r.fSource, r.fOffset, ⟨r.fTracker.next, r.fTracker.beyond, r.fTracker.points, r.fTracker.mark⟩⟩ : Rd) = r := fun _ => rfl
      have hlen := runR_len l (log.take k) r0
      rw [List.length_take] at hlen
      have hstep : readS l (runR l r0 (log.take k)).1 log = ((nextS l (runR l r0 (log.take k)).1 log[k]).1, (nextS l (runR l r0 (log.take k)).1 log[k]).2, 0) := by
        unfold readS
        rw [if_nne ha, if_nne (plErr_ok o1 (by omega) (by omega)), o2, Int.toNat_natCast, getD_log hk]
      have hnl := next_len l (runR l r0 (log.take k)).1 log[k]
      have hsucc : runR l r0 (log.take (k + 1)) = ((nextS l (runR l r0 (log.take k)).1 log[k]).1, (runR l r0 (log.take k)).2 ++ (nextS l (runR l r0 (log.take k)).1 log[k]).2) := by
        rw [takeK hk, runR_app]
        simp [runR]
      rw [if_pos (by omega), hrr, p_Read n l _ log hv (by omega), bnd_some, hstep]
      simp only [if_true]
      rw [wrapS k (by omega), (next_src _ _ _).2, o2, if_pos (by omega), if_neg (by omega), app_ok (by omega) (by omega)]
      have ih := p_divides_l1 n a log l q j ha hl hj hja hv hn K f (k + 1) (by omega) (by omega)
      rw [hsucc] at ih
      simp only [(next_src _ _ _).2, o2] at ih
      exact ih
    · have : k = j := by omega
      rw [if_neg (by omega), this]
theorem law_divides47 (l : List Sch) (log : List Ms) (at_ : Nat) (hat : at_ ≤ 255) (hl : l.length ≤ 9223372036854775807) (n : Nat) (hn : 100000 + l.length ≤ n) : F_tidegatelaw47_ReaderDivides n l log at_ = some true := by
  unfold F_tidegatelaw47_ReaderDivides
  obtain ⟨c, c1, c2⟩ := p_few n l log hl (by omega) (by omega)
  have aw := awake47 n (by omega)
  rw [c1, bnd_some]
  cases c with
  | false => simp only [cnd_not, cnd_f, aw, bnd_some]
  | true =>
    obtain ⟨s1, s2⟩ := c2 rfl
    have hb0 : F_reader_Begin n 0 = some (r0, 0) := p_beginR _ 0
    simp only [cnd_not, cnd_t, cnd_if, aw, bnd_some]
    by_cases h20 : (20 : Int) < (((List.map e_api_Message log).length : Nat) : Int)
    · rw [if_pos h20]
    · rw [if_neg h20]
      have hlen : log.length ≤ 20 := by rw [List.length_map] at h20; omega
      rw [hb0, bnd_some, p_Replay _ l r0 log s2 (by omega), bnd_some, if_pos rfl]
      by_cases h1 : (replS l r0 log).2.2 = 0
      · obtain ⟨a1, a2, a3⟩ := replS_ok h1
        obtain ⟨j, hj, hja⟩ : ∃ j : Nat, j ≤ log.length ∧ (IntKind.wrap .i64 (at_ : Int)).tmod (IntKind.wrap .i64 ((((List.map e_api_Message log).length : Nat) : Int) + 1)) = (j : Int) := by
          refine ⟨at_ % (log.length + 1), by have := Nat.mod_lt at_ (show 0 < log.length + 1 by omega); omega, ?_⟩
          rw [wrap_in ((at_ : Nat) : Int) (by omega), wrap_in _ (by rw [List.length_map]; omega), List.length_map, Int.tmod_eq_emod_of_nonneg (by omega)]
          exact_mod_cast rfl
        rw [if_pos h1, nzx_ok (by rw [wrap_in _ (by rw [List.length_map]; omega)]; omega), a3]
        have hloop := p_divides_l1 n at_ log l ((runR l r0 log).1, (runR l r0 log).2, 0) j a1 hlen hj hja s2 (by omega)
        have h0 : runR l r0 (log.take 0) = (r0, []) := rfl
        have := hloop (fun k1_0_0y0 k1_0_0y1 k1_0_0y2 k1_0_0y3 k1_0_0y4 k1_0_0y5 k1_0_0y6 k1_0_0y7 k1_0_0y8 k1_0_0y9 k1_0_0y10 k1_0_0y11 k1_0_0y12 k1_0_0y13 => bnd (F_reader_Replay n l (⟨k1_0_0y1, k1_0_0y2, ⟨k1_0_0y3, k1_0_0y4, k1_0_0y5, k1_0_0y6⟩⟩ : T_api_Reader) log) fun x61 =>
          bnd (F_reader_Left n (⟨k1_0_0y1, k1_0_0y2, ⟨k1_0_0y3, k1_0_0y4, k1_0_0y5, k1_0_0y6⟩⟩ : T_api_Reader) log) fun x62 =>
          app k1_0_0y13 x61.2.1 72 fun x63 =>
          if x61.2.2 = 0 then (if x62.2 = 0 then (if x62.1 = (IntKind.wrap .i64 ((((List.map e_api_Message log).length : Nat) : Int) - ((IntKind.wrap .i64 (at_ : Int)).tmod (IntKind.wrap .i64 ((((List.map e_api_Message log).length : Nat) : Int) + 1))))) then
          (bnd (F_tidegateref47_Same n x61.1 (⟨k1_0_0y7, k1_0_0y8, ⟨k1_0_0y9, k1_0_0y10, k1_0_0y11, k1_0_0y12⟩⟩ : T_api_Reader)) fun x65 => cnd (x65) (bnd (F_tidegateref46_SameItems n x63 k1_0_0y0) fun x66 => some x66) <| some false) else some false) else some false) else some false) n 0 (by omega) (by omega)
        rw [h0] at this
        simp only [Int.natCast_zero] at this
        refine this.trans ?_
        have hrr : ∀ r : Rd, (⟨r.fSource, r.fOffset, ⟨r.fTracker.next, r.fTracker.beyond, r.fTracker.points, r.fTracker.mark⟩⟩ : Rd) = r := fun _ => rfl
        obtain ⟨o1, o2⟩ := at_k l log j hj (by omega)
        have hpl := plErr_ok (r := (runR l r0 (log.take j)).1) (log := log) (more := 0) o1 (by omega) (by omega)
        have hrep : replS l (runR l r0 (log.take j)).1 log = ((runR l (runR l r0 (log.take j)).1 (log.drop j)).1, (runR l (runR l r0 (log.take j)).1 (log.drop j)).2, 0) := by
          unfold replS
          rw [if_nne a1, if_nne hpl, o2, Int.toNat_natCast]
        have hleft : leftS (runR l r0 (log.take j)).1 log = ((log.length : Int) - j, 0) := by
          unfold leftS
          rw [if_nne hpl, o2]
        have hall : runR l r0 log = ((runR l (runR l r0 (log.take j)).1 (log.drop j)).1, (runR l r0 (log.take j)).2 ++ (runR l (runR l r0 (log.take j)).1 (log.drop j)).2) := by
          conv => lhs; rw [← List.take_append_drop j log]
          exact runR_app l (log.take j) (log.drop j) r0
        have hb := (runR_trk l (log.drop j) _ o1.t).b
        have g1 := runR_len l (log.take j) r0
        have g2 := runR_len l (log.drop j) (runR l r0 (log.take j)).1
        rw [List.length_take] at g1
        rw [List.length_drop] at g2
        simp only [hrr]
        rw [p_Replay _ l _ log s2 (by omega), p_Left, hrep, hleft, bnd_some, bnd_some, app_ok (by simp only; omega) (by omega)]
        simp only [if_true]
        rw [hja, if_pos (by rw [List.length_map, wrap_in _ (by omega)]), hall, p_sameR _ _ _ (by omega) (by omega), decide_eq_true rfl, bnd_some, cnd_t]
        rw [p_sameItems _ _ _ (by rw [List.length_append]; omega) (by rw [List.length_append]; omega) (fun x hx => by
          have : x ∈ (runR l r0 log).2 := by rw [hall]; exact hx
          have := runR_val l log r0 s2 x this
          omega) (by omega), decide_eq_true rfl, bnd_some]
      · rw [if_neg h1, replS_err h1]
        simp

end Go.Proofs.YtcbdhigllelmcaaGreat
namespace Go.Proofs.YtcbdhigllelmcaaGreat
open Go.RowKit
def S_tidegatelaw47_ReaderDivides_l1 (a2 : Int) (a1 : (List T_api_Message)) (a0 : (List T_api_Schema)) (x5 : T_api_Reader × (List T_api_Item) × Int) (v1_0 : Int × Int × Int × Int × (List Int) × (List Pt) × Int × (List T_api_Item)) : AS := ⟨[(0, .sl 2 (List.map e_api_Schema (a0))), (1, .sl 9 (List.map e_api_Message (a1))), (7, .ptr 7 0), (9, .ptr 9 0), (10, .sl 7 (List.map e_api_Item (x5.2.1))), (12, aI ((((IntKind.wrap .i64 a2)).tmod (IntKind.wrap .i64 ((((List.map e_api_Message (a1)).length : Nat) : Int) + 1))))), (13, .row 7091), (14, aI (v1_0.1))], [(7, .box 28 [aI (v1_0.2.1), aI (v1_0.2.2.1), aI (v1_0.2.2.2.1), .sl 1 (List.map aI (v1_0.2.2.2.2.1)), .sl 2 (List.map aPt (v1_0.2.2.2.2.2.1)), aI (v1_0.2.2.2.2.2.2.1)]), (9, .box 28 [aI (x5.1.fSource), aI (x5.1.fOffset), aI (x5.1.fTracker.next), .sl 1 (List.map aI (x5.1.fTracker.beyond)), .sl 2 (List.map aPt (x5.1.fTracker.points)), aI (x5.1.fTracker.mark)]), (7091, .row 53 7 (List.map e_api_Item (v1_0.2.2.2.2.2.2.2)))]⟩
theorem tidegatelaw47_ReaderDivides_l1_o {n N : Nat} {a2 : Int} {a1 : (List T_api_Message)} {a0 : (List T_api_Schema)} {x5 : T_api_Reader × (List T_api_Item) × Int} {k1_0_0 : (List T_api_Item) → Int → Int → Int → (List Int) → (List Pt) → Int → Int → Int → Int → (List Int) → (List Pt) → Int → (List T_api_Item) → Option (Bool)} {R : Exit → AS → Prop} {K : List KItem} {c : Code} {σ : AS} {v0 : Int × Int × Int × Int × (List Int) × (List Pt) × Int × (List T_api_Item)} {r : Bool} (hF : F_tidegatelaw47_ReaderDivides_l1 n a2 a1 a0 x5 k1_0_0 N v0 = some r) (hl : LeX E0 136 σ (S_tidegatelaw47_ReaderDivides_l1 a2 a1 a0 x5 v0)) (round : ∀ m v, F_tidegatelaw47_ReaderDivides_l1 n a2 a1 a0 x5 k1_0_0 (m + 1) v = some r → AW E0 136 (thenA (fun σ' => ∃ v', F_tidegatelaw47_ReaderDivides_l1 n a2 a1 a0 x5 k1_0_0 m v' = some r ∧ LeX E0 136 σ' (S_tidegatelaw47_ReaderDivides_l1 a2 a1 a0 x5 v')) (AW E0 136 R K)) [.code c] .normal (S_tidegatelaw47_ReaderDivides_l1 a2 a1 a0 x5 v)) : LoopX E0 136 (fun next σ' => AW E0 136 (thenA next (AW E0 136 R K)) [.code c] .normal σ') σ :=
  LoopA.o (S := S_tidegatelaw47_ReaderDivides_l1 a2 a1 a0 x5) hF (fun _ => rfl) hl round
def R_tidegatelaw47_ReaderDivides (r : Bool) : AV := .bool (r)
theorem con_tidegatelaw47_ReaderDivides {n : Nat} {a0 : (List T_api_Schema)} {a1 : (List T_api_Message)} {a2 : Int} {r : Bool} (hF : F_tidegatelaw47_ReaderDivides n a0 a1 a2 = some r) : Con E0 true 7 [.sl 2 (List.map e_api_Schema (a0)), .sl 9 (List.map e_api_Message (a1)), .int .u8 (a2)] (R_tidegatelaw47_ReaderDivides r) := by
  unfold F_tidegatelaw47_ReaderDivides at hF
  refine Con.walk _ Tryz.func7 rfl (enters_of Tryz.func7 rfl rfl) rfl (Or.inr rfl) ?_
  repeat' first
    | (refine AW.step ?_; conv => whnf)
    | (refine CondX.o hF (fun hF => ?_) (fun hF => ?_))
    | (refine CondX.t ?_)
    | (refine CondX.f ?_)
    | (refine CallX.o hF R_tidegatelaw47_few (fun a h => con_tidegatelaw47_few h) (fun a hF => ?_))
    | (refine CallX.o hF R_tidegatelaw47_awake (fun a h => con_tidegatelaw47_awake h) (fun a hF => ?_))
    | (refine CallX.o hF R_reader_Begin (fun a h => con_reader_Begin h) (fun a hF => ?_))
    | (refine CallX.o hF R_reader_Replay (fun a h => con_reader_Replay h) (fun a hF => ?_))
    | (refine NzX.o hF (fun hF => ?_))
    | (refine CallX.o hF R_reader_Left (fun a h => con_reader_Left h) (fun a hF => ?_))
    | (refine AppX.o e_api_Item hF (by first | exact SubR.refl _ | (repeat' first | exact SubR.nil | refine SubR.cons ?_ ?_ | exact SubL.nil | refine SubL.cons ?_ ?_ | exact Sub.refl _ | exact Sub.nil _)) (fun l hF => ?_))
    | (refine CallX.o hF R_tidegateref47_Same (fun a h => con_tidegateref47_Same h) (fun a hF => ?_))
    | (refine CallC.o hF R_tidegateref46_SameItems (fun a h => con_tidegateref46_SameItems h) (fun _ => Or.inr rfl) (fun a hF => ?_))
    | (refine CallX.o hF R_reader_Read (fun a h => con_reader_Read h) (fun a hF => ?_))
    | (exact ⟨_, hF, LeX.of [(7091, 91)] rfl ⟨⟨rfl, rfl⟩, ⟨rfl, rfl⟩, ⟨rfl, rfl⟩, ⟨rfl, rfl⟩, ⟨rfl, rfl⟩, ⟨rfl, rfl⟩, ⟨rfl, rfl⟩, ⟨rfl, rfl⟩, trivial⟩ ⟨⟨rfl, rfl⟩, ⟨rfl, rfl⟩, ⟨rfl, rfl⟩, trivial⟩⟩)
    | (refine tidegatelaw47_ReaderDivides_l1_o hF (LeX.trans (LeX.adopt 13 7091 53 7 rfl rfl) (LeX.of [] rfl ⟨⟨rfl, rfl⟩, ⟨rfl, rfl⟩, ⟨rfl, rfl⟩, ⟨rfl, rfl⟩, ⟨rfl, rfl⟩, ⟨rfl, rfl⟩, ⟨rfl, rfl⟩, ⟨rfl, rfl⟩, trivial⟩ ⟨⟨rfl, rfl⟩, ⟨rfl, rfl⟩, ⟨rfl, rfl⟩, trivial⟩)) (fun m v hF => ?_); unfold F_tidegatelaw47_ReaderDivides_l1 at hF)
    | (refine And.intro ⟨by kernel_rfl, by kernel_rfl⟩ ?_)
    | (refine EqX.mk (by first | rfl | kernel_rfl) ?_)
    | (exact RetX.o hF (by repeat' first | exact Sub.nil _ | exact Sub.refl _ | refine Sub.agg ?_ | refine Sub.tup ?_ | refine Sub.fn ?_ | exact SubL.nil | refine SubL.cons ?_ ?_ | refine Sub.sl _ ?_ | exact SubE.nil | refine SubE.cons ?_ ?_))

end Go.Proofs.YtcbdhigllelmcaaGreat
namespace Go.Proofs.YtcbdhigllelmcaaGreat
open Go.RowKit
theorem divides_con47 (l : List Sch) (hl : l.length ≤ 9223372036854775807) (log : List Ms) (a : Nat) (h : a ≤ 255) : Con E0 true 7 [.sl 2 (l.map e_api_Schema), .sl 9 (log.map e_api_Message), .int .u8 a] (.bool true) := con_tidegatelaw47_ReaderDivides (law_divides47 l log a h hl _ (Nat.le_refl _))
end Go.Proofs.YtcbdhigllelmcaaGreat
