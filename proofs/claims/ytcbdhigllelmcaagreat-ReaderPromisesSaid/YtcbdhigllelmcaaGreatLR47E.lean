/- From a contract of the abstract walk to a law's row: whatever the arguments, it returns true, and they read as they did. What some functions compute, over plain values. Printed by a program of mine (gen_fun.lean). Chapter 36, plain: what one message does to a tracker; the laws Completes and Fills. Chapter 47, plain: the laws Reads, Replays, Routes, Divides, Promises. Chapter 47: the contracts of five laws. -/
import Derived.Test.YtcbdhigllelmcaaGreatRows
import Derived.Test.YtcbdhigllelmcaaGreatK07
import Derived.ProofKit
import Derived.Lib.SmallJoins
import Derived.Deep.Slices
import Derived.Carry
import Derived.Below
import Derived.Test.YtcbdhigllelmcaaGreatK09
import Derived.Test.YtcbdhigllelmcaaGreatK10
import Derived.Test.YtcbdhigllelmcaaGreatK13
import Derived.Test.YtcbdhigllelmcaaGreatK16
import Derived.Test.YtcbdhigllelmcaaGreatK11
set_option linter.unusedVariables false
set_option linter.unusedSimpArgs false
set_option maxRecDepth 100000
set_option maxHeartbeats 8000000
namespace Go.Proofs.YtcbdhigllelmcaaGreat
open Go.ChangeShapes Go.WideShapes Go.ChangeAt Go.RowKit

theorem args_two {w : World} {S : Nat → Prop} {a b : AV} {x y : Value} (ha : Rep w S G0 a x) (hb : Rep w S G0 b y) : Args w S [a, b] #[x, y] :=
  ⟨rfl, fun i hi => by
    have hi' : i < 2 := hi
    rcases i with _ | _ | i
    · exact ha
    · exact hb
    · omega⟩

section
variable {H : Type} {enc : TypeId × Value → H}
end
end Go.Proofs.YtcbdhigllelmcaaGreat
namespace Go.Proofs.YtcbdhigllelmcaaGreat
open Go.RowKit
def F_tidegatelaw47_ReaderPromises_l2 (n : Nat) (a1 : (List T_api_Message)) (v1_0 : (List T_api_Item) × Int × Int × Int × Int × Int × (List Int) × (List Pt) × Int) (x55 : T_api_Item) (k2_1_0 : Option (Bool)) : Nat → Int → Option (Bool)
  | 0, _ => none
  | mv2_1 + 1, v2_1 =>
    cnd (decide (v2_1 < v1_0.2.2.1))
      (idx v1_0.1 v2_1 fun x96 =>
      cnd (decide (x96.fKind = 0))
        (idx v1_0.1 v2_1 fun x97 =>
        cnd (decide (x97.fEvent.fSeq = x55.fEvent.fSeq))
          (some false)
        <| F_tidegatelaw47_ReaderPromises_l2 n a1 v1_0 x55 k2_1_0 mv2_1 (IntKind.wrap .i64 (v2_1 + 1)))
      <| F_tidegatelaw47_ReaderPromises_l2 n a1 v1_0 x55 k2_1_0 mv2_1 (IntKind.wrap .i64 (v2_1 + 1)))
    <| k2_1_0
def F_tidegatelaw47_ReaderPromises_l1 (n : Nat) (a1 : (List T_api_Message)) (k1_0_0 : Int → Int → Int → Int → (List Int) → (List Pt) → Int → Option (Bool)) : Nat → (List T_api_Item) × Int × Int × Int × Int × Int × (List Int) × (List Pt) × Int → Option (Bool)
  | 0, _ => none
  | mv1_0 + 1, v1_0 =>
    cnd (decide (v1_0.2.2.1 < (((List.map e_api_Item (v1_0.1)).length : Nat) : Int)))
      (idx v1_0.1 v1_0.2.2.1 fun x55 =>
      cnd (decide (x55.fKind = 1))
        (cnd (decide (x55.fNumber ≤ v1_0.2.1))
          (some false)
        <| F_tidegatelaw47_ReaderPromises_l1 n a1 k1_0_0 mv1_0 (v1_0.1, x55.fNumber, (IntKind.wrap .i64 (v1_0.2.2.1 + 1)), v1_0.2.2.2.1, v1_0.2.2.2.2.1, v1_0.2.2.2.2.2.1, v1_0.2.2.2.2.2.2.1, v1_0.2.2.2.2.2.2.2.1, v1_0.2.2.2.2.2.2.2.2))
      <| cnd (!decide (x55.fKind = 0))
        (some false)
      <| cnd (!decide (x55.fEvent.fSource = 0))
        (some false)
      <| cnd (decide (x55.fEvent.fTime ≤ v1_0.2.1))
        (some false)
      <| F_tidegatelaw47_ReaderPromises_l2 n a1 v1_0 x55
        (F_tidegatelaw47_ReaderPromises_l1 n a1 k1_0_0 mv1_0 (v1_0.1, v1_0.2.1, (IntKind.wrap .i64 (v1_0.2.2.1 + 1)), v1_0.2.2.2.1, v1_0.2.2.2.2.1, v1_0.2.2.2.2.2.1, v1_0.2.2.2.2.2.2.1, v1_0.2.2.2.2.2.2.2.1, v1_0.2.2.2.2.2.2.2.2)) n 0)
    <| k1_0_0 v1_0.2.1 v1_0.2.2.2.1 v1_0.2.2.2.2.1 v1_0.2.2.2.2.2.1 v1_0.2.2.2.2.2.2.1 v1_0.2.2.2.2.2.2.2.1 v1_0.2.2.2.2.2.2.2.2
def F_tidegatelaw47_ReaderPromises (n : Nat) (a0 : (List T_api_Schema)) (a1 : (List T_api_Message)) : Option (Bool) :=
  bnd (F_tidegatelaw47_few n a0 a1) fun x1 =>
  cnd (!(x1))
    (bnd (F_tidegatelaw47_awake n) fun x2 =>
    some x2)
  <| cnd (decide (20 < (((List.map e_api_Message (a1)).length : Nat) : Int)))
    (bnd (F_tidegatelaw47_awake n) fun x3 =>
    some x3)
  <| bnd (F_reader_Begin n 0) fun x4 =>
  bnd (F_reader_Replay n a0 x4.1 a1) fun x5 =>
  cnd (!decide (x4.2 = 0))
    (some false)
  <| cnd (!decide (x5.2.2 = 0))
    (bnd (F_tidegatelaw47_awake n) fun x6 =>
    some x6)
  <| F_tidegatelaw47_ReaderPromises_l1 n a1
    (fun k1_0_0y0 k1_0_0y1 k1_0_0y2 k1_0_0y3 k1_0_0y4 k1_0_0y5 k1_0_0y6 => bnd (F_tidegatelaw47_awake n) fun x54 =>
  cnd (x54)
    (cnd (decide (k1_0_0y6 = k1_0_0y0))
      (some (decide (k1_0_0y2 = (((List.map e_api_Message (a1)).length : Nat) : Int))))
    <| some false)
  <| some false) n (x5.2.1, (-1), 0, x5.1.fSource, x5.1.fOffset, x5.1.fTracker.next, x5.1.fTracker.beyond, x5.1.fTracker.points, x5.1.fTracker.mark)
end Go.Proofs.YtcbdhigllelmcaaGreat
namespace Go.Proofs.YtcbdhigllelmcaaGreat
open Go.RowKit

theorem note_new (t : Trk) (m : T_api_Message) (hm : msgCheck m = 0) (h : (noteT t m).2.2 = 0) : (noteT t m).2.1 = true ↔ m.fKind = 0 ∧ ¬ Num t m.fEvent.fSeq := by
  obtain ⟨k1, k2, k3, k4, k5⟩ := msg_ok m hm
  unfold noteT at h ⊢
  by_cases h1 : m.fKind = 1
  · rw [if_pos h1]; simp [h1]
  · have hk : m.fKind = 0 := by omega
    obtain ⟨e1, e2, e3, e4⟩ := k4 hk
    rw [if_neg h1] at h ⊢
    rw [← hasB_iff t _ e1]
    by_cases hb : hasB t m.fEvent.fSeq = true
    · rw [if_pos hb]; simp [hb]
    · rw [if_neg hb] at h ⊢
      by_cases h3 : latest t.mark t.points m.fEvent.fSeq < m.fEvent.fTime
      · rw [if_pos h3] at h ⊢
        by_cases h4 : 256 < (withT t m.fEvent.fSeq).beyond.length
        · rw [if_pos h4] at h; exact absurd h (by simp)
        · rw [if_neg h4]; simp [hb, hk]
      · rw [if_neg h3] at h; exact absurd h (by simp)
end Go.Proofs.YtcbdhigllelmcaaGreat
namespace Go.Proofs.YtcbdhigllelmcaaGreat
open Go.RowKit

def seqs (xs : List It) : List Int := (xs.filter fun x => decide (x.fKind = 0)).map (·.fEvent.fSeq)
theorem seqs_app (a b : List It) : seqs (a ++ b) = seqs a ++ seqs b := by simp [seqs]
theorem next_prom (l : List Sch) (r : Rd) (m : Ms) (hr : TOk r.fTracker) (hs : r.fSource = 0) : Prom r.fTracker.mark (nextS l r m).2 (nextS l r m).1.fTracker.mark ∧
    (seqs (nextS l r m).2).Nodup ∧ (∀ s ∈ seqs (nextS l r m).2, ¬ Num r.fTracker s ∧ Num (nextS l r m).1.fTracker s) ∧ ∀ s, Num r.fTracker s → Num (nextS l r m).1.fTracker s := by
  unfold nextS
  by_cases h : refuse l r m
  · rw [if_pos h]
    exact ⟨.nil _, List.nodup_nil, fun s hs => by simp [seqs] at hs, fun s h => h⟩
  · rw [if_neg h]
    unfold refuse at h
    simp only [not_or, Decidable.not_not] at h
    obtain ⟨h1, h2, h3, h4⟩ := h
    obtain ⟨fw, _, _⟩ := note_fwd r.fTracker m hr h1 h4
    have hnew := note_new r.fTracker m h1 h4
    have hnum : ∀ s, Num r.fTracker s → Num (noteT r.fTracker m).1 s := fun s hs => (fw.num s).2 (Or.inl hs)
    have hmk : Prom r.fTracker.mark (if r.fTracker.mark < (noteT r.fTracker m).1.mark then [⟨1, zeroE, (noteT r.fTracker m).1.mark⟩] else []) (noteT r.fTracker m).1.mark := by
      by_cases h5 : r.fTracker.mark < (noteT r.fTracker m).1.mark
      · rw [if_pos h5]; exact .mark rfl h5 (.nil _)
      · rw [if_neg h5]
        have := fw.mark
        have e : r.fTracker.mark = (noteT r.fTracker m).1.mark := by omega
        rw [e]; exact .nil _
    have hsq : seqs (if r.fTracker.mark < (noteT r.fTracker m).1.mark then [(⟨1, zeroE, (noteT r.fTracker m).1.mark⟩ : It)] else []) = [] := by split <;> rfl
    unfold itemsOf
    cases hb : (noteT r.fTracker m).2.1 with
    | false =>
      rw [if_neg (by decide), List.nil_append, hsq]
      exact ⟨hmk, List.nodup_nil, fun s hs => by simp at hs, hnum⟩
    | true =>
      obtain ⟨hk, hn⟩ := hnew.1 hb
      have hlate := note_late r.fTracker m h1 hb
      have hsrc : m.fEvent.fSource = 0 := by unfold srcOf at h2; rw [if_pos hk] at h2; omega
      rw [if_pos rfl]
      refine ⟨Prom.append (.ev rfl hsrc hlate (.nil _)) hmk, ?_, fun s hs => ?_, hnum⟩
      · rw [seqs_app, hsq]; simp [seqs]
      · rw [seqs_app, hsq] at hs
        have : s = m.fEvent.fSeq := by simpa [seqs] using hs
        subst this
        exact ⟨hn, (fw.num _).2 (Or.inr ⟨hk, rfl⟩)⟩
theorem run_prom (l : List Sch) : ∀ (ms : List Ms) (r : Rd), TOk r.fTracker → r.fSource = 0 → Prom r.fTracker.mark (runR l r ms).2 (runR l r ms).1.fTracker.mark ∧ (seqs (runR l r ms).2).Nodup ∧ (∀ s ∈ seqs (runR l r ms).2, ¬ Num r.fTracker s)
  | [], r, _, _ => ⟨.nil _, List.nodup_nil, fun s hs => by simp [runR, seqs] at hs⟩
  | m :: ms, r, ht, hs => by
    obtain ⟨a1, a2, a3, a4⟩ := next_prom l r m ht hs
    obtain ⟨b1, b2, b3⟩ := run_prom l ms (nextS l r m).1 (next_trk l r m ht) ((next_src l r m).1.trans hs)
    rw [runR]
    refine ⟨a1.append b1, ?_, fun s hs => ?_⟩
    · rw [seqs_app]
      refine List.nodup_append.2 ⟨a2, b2, fun x hx y hy e => ?_⟩
      subst e
      exact b3 x hy (a3 x hx).2
    · rw [seqs_app] at hs
      rcases List.mem_append.1 hs with h | h
      · exact (a3 s h).1
      · exact fun hn => b3 s h (a4 s hn)
theorem p_prom_l2 (n : Nat) (log : List Ms) (v : List It × Int × Int × Int × Int × Int × List Int × List Pt × Int) (x : It) (K : Option Bool) (j : Nat) (hj : v.2.2.1 = (j : Int)) (hjl : j ≤ v.1.length) (hl : v.1.length ≤ 1000000) (hd : x.fEvent.fSeq ∉ seqs (v.1.take j)) : ∀ (f k : Nat), k ≤ j → j < f + k → F_tidegatelaw47_ReaderPromises_l2 n log v x K f (k : Int) = K
  | 0, k, h1, h2 => by omega
  | f + 1, k, h1, h2 => by
    rw [F_tidegatelaw47_ReaderPromises_l2]
    simp only [cnd_if, hj]
    by_cases h : k < j
    · have hk : k < v.1.length := by omega
      rw [if_pos (by omega), idx_nat hk, idx_nat hk, wrapS k (by omega), p_prom_l2 n log v x K j hj hjl hl hd f (k + 1) (by omega) (by omega)]
      by_cases h3 : v.1[k].fKind = 0
      · have h4 : ¬ v.1[k].fEvent.fSeq = x.fEvent.fSeq := fun e => hd (by
          rw [← e]
          unfold seqs
          refine List.mem_map.2 ⟨v.1[k], List.mem_filter.2 ⟨?_, decide_eq_true h3⟩, rfl⟩
          exact List.mem_iff_getElem.2 ⟨k, by rw [List.length_take]; omega, by rw [List.getElem_take]⟩)
        rw [if_pos h3, if_neg h4]
      · rw [if_neg h3]
    · rw [if_neg (by omega)]
theorem seqs_take {xs : List It} (h : (seqs xs).Nodup) {k : Nat} (hk : k < xs.length) (h0 : xs[k].fKind = 0) : xs[k].fEvent.fSeq ∉ seqs (xs.take k) := by
  have e : xs = xs.take k ++ xs[k] :: xs.drop (k + 1) := by rw [← dropK_cons hk, List.take_append_drop]
  rw [e, seqs_app] at h
  intro hm
  have := (List.nodup_append.1 h).2.2 _ hm (xs[k].fEvent.fSeq) (by
    unfold seqs
    rw [List.filter_cons, if_pos (decide_eq_true h0), List.map_cons]
    exact List.mem_cons_self ..)
  exact this rfl
theorem p_prom_l1 (n : Nat) (log : List Ms) (xs : List It) (ν a b c d g : Int) (lb : List Int) (lp : List Pt) (K : Int → Int → Int → Int → List Int → List Pt → Int → Option Bool) (hl : xs.length ≤ 1000000) (hn : xs.length < n) (hd : (seqs xs).Nodup) : ∀ (f k : Nat) (μ : Int), k ≤ xs.length → xs.length < f + k → Prom μ (xs.drop k) ν →
    F_tidegatelaw47_ReaderPromises_l1 n log K f (xs, μ, (k : Int), a, b, c, lb, lp, d) = K ν a b c lb lp d
  | 0, k, μ, h1, h2, h3 => by omega
  | f + 1, k, μ, h1, h2, h3 => by
    rw [F_tidegatelaw47_ReaderPromises_l1]
    simp only [cnd_if, cnd_not, List.length_map]
    by_cases h : k < xs.length
    · rw [dropK_cons h] at h3
      rw [if_pos (by omega), idx_nat h, wrapS k (by omega)]
      cases h3 with
      | mark hk hm hp =>
        rw [if_pos hk, if_neg (by omega)]
        exact p_prom_l1 n log xs ν a b c d g lb lp K hl hn hd f (k + 1) _ (by omega) (by omega) hp
      | ev hk hs ht hp =>
        rw [if_neg (by omega), if_pos hk, if_pos hs, if_neg (by omega)]
        have := p_prom_l2 n log (xs, μ, (k : Int), a, b, c, lb, lp, d) xs[k] (F_tidegatelaw47_ReaderPromises_l1 n log K f (xs, μ, ((k + 1 : Nat) : Int), a, b, c, lb, lp, d)) k rfl (by simp only; omega) hl (seqs_take hd h hk) n 0 (by omega) (by omega)
        simp only [Int.natCast_zero] at this
        rw [this]
        exact p_prom_l1 n log xs ν a b c d g lb lp K hl hn hd f (k + 1) μ (by omega) (by omega) hp
    · rw [if_neg (by omega)]
      rw [List.drop_eq_nil_of_le (by omega)] at h3
      cases h3
      rfl
theorem law_promises47 (l : List Sch) (log : List Ms) (hl : l.length ≤ 9223372036854775807) (n : Nat) (hn : 100000 + l.length ≤ n) : F_tidegatelaw47_ReaderPromises n l log = some true := by
  unfold F_tidegatelaw47_ReaderPromises
  obtain ⟨c, c1, c2⟩ := p_few n l log hl (by omega) (by omega)
  have aw := awake47 n (by omega)
  rw [c1, bnd_some]
  cases c with
  | false => simp only [cnd_not, cnd_f, aw, bnd_some]
  | true =>
    obtain ⟨s1, s2⟩ := c2 rfl
    have hb0 : F_reader_Begin n 0 = some (r0, 0) := p_beginR _ 0
    simp only [cnd_not, cnd_t, cnd_if, aw, bnd_some]
    by_cases h20 : (20 : Int) < (((List.map e_api_Message log).length : Nat) : Int)
    · rw [if_pos h20]
    · rw [if_neg h20]
      have hlen : log.length ≤ 20 := by rw [List.length_map] at h20; omega
      rw [hb0, bnd_some, p_Replay _ l r0 log s2 (by omega), bnd_some, if_pos rfl]
      by_cases h1 : (replS l r0 log).2.2 = 0
      · obtain ⟨a1, a2, a3⟩ := replS_ok h1
        rw [if_pos h1, a3]
        obtain ⟨g1, g2, g3⟩ := run_prom l log r0 t0_ok rfl
        have g4 := runR_len l log r0
        have g5 := (runR_src l log r0).2
        have := p_prom_l1 n log (runR l r0 log).2 (runR l r0 log).1.fTracker.mark (runR l r0 log).1.fSource (runR l r0 log).1.fOffset (runR l r0 log).1.fTracker.next (runR l r0 log).1.fTracker.mark 0 (runR l r0 log).1.fTracker.beyond (runR l r0 log).1.fTracker.points
          (fun k1_0_0y0 k1_0_0y1 k1_0_0y2 k1_0_0y3 k1_0_0y4 k1_0_0y5 k1_0_0y6 => if k1_0_0y6 = k1_0_0y0 then some (decide (k1_0_0y2 = (((List.map e_api_Message log).length : Nat) : Int))) else some false) (by omega) (by omega) g2 n 0 (-1) (by omega) (by omega) (by rw [List.drop_zero]; exact g1)
        simp only [Int.natCast_zero] at this
        refine this.trans ?_
        simp only [if_true]
        rw [g5, List.length_map]
        simp [r0]
      · rw [if_neg h1]
end Go.Proofs.YtcbdhigllelmcaaGreat
namespace Go.Proofs.YtcbdhigllelmcaaGreat
open Go.RowKit
def S_tidegatelaw47_ReaderPromises_l2 (a1 : (List T_api_Message)) (v1_0 : (List T_api_Item) × Int × Int × Int × Int × Int × (List Int) × (List Pt) × Int) (x55 : T_api_Item) (v2_1 : Int) : AS := ⟨[(1, .sl 9 (List.map e_api_Message (a1))), (7, .ptr 7 0), (8, .sl 7 (List.map e_api_Item (v1_0.1))), (10, aI (v1_0.2.1)), (11, aI (v1_0.2.2.1)), (12, .ptr 12 0), (13, aI (v2_1))], [(7, .box 28 [aI (v1_0.2.2.2.1), aI (v1_0.2.2.2.2.1), aI (v1_0.2.2.2.2.2.1), .sl 1 (List.map aI (v1_0.2.2.2.2.2.2.1)), .sl 2 (List.map aPt (v1_0.2.2.2.2.2.2.2.1)), aI (v1_0.2.2.2.2.2.2.2.2)]), (12, .box 53 [aI (x55.fKind), aI (x55.fEvent.fSource), aI (x55.fEvent.fSeq), aI (x55.fEvent.fType), aI (x55.fEvent.fTime), .sl 3 (List.map e_api_Value (x55.fEvent.fValues)), aI (x55.fNumber)])]⟩
theorem tidegatelaw47_ReaderPromises_l2_o {n N : Nat} {a1 : (List T_api_Message)} {v1_0 : (List T_api_Item) × Int × Int × Int × Int × Int × (List Int) × (List Pt) × Int} {x55 : T_api_Item} {k2_1_0 : Option (Bool)} {R : Exit → AS → Prop} {K : List KItem} {c : Code} {σ : AS} {v0 : Int} {r : Bool} (hF : F_tidegatelaw47_ReaderPromises_l2 n a1 v1_0 x55 k2_1_0 N v0 = some r) (hl : LeX E0 114 σ (S_tidegatelaw47_ReaderPromises_l2 a1 v1_0 x55 v0)) (round : ∀ m v, F_tidegatelaw47_ReaderPromises_l2 n a1 v1_0 x55 k2_1_0 (m + 1) v = some r → AW E0 114 (thenA (fun σ' => ∃ v', F_tidegatelaw47_ReaderPromises_l2 n a1 v1_0 x55 k2_1_0 m v' = some r ∧ LeX E0 114 σ' (S_tidegatelaw47_ReaderPromises_l2 a1 v1_0 x55 v')) (AW E0 114 R K)) [.code c] .normal (S_tidegatelaw47_ReaderPromises_l2 a1 v1_0 x55 v)) : LoopX E0 114 (fun next σ' => AW E0 114 (thenA next (AW E0 114 R K)) [.code c] .normal σ') σ :=
  LoopA.o (S := S_tidegatelaw47_ReaderPromises_l2 a1 v1_0 x55) hF (fun _ => rfl) hl round
def S_tidegatelaw47_ReaderPromises_l1 (a1 : (List T_api_Message)) (v1_0 : (List T_api_Item) × Int × Int × Int × Int × Int × (List Int) × (List Pt) × Int) : AS := ⟨[(1, .sl 9 (List.map e_api_Message (a1))), (7, .ptr 7 0), (8, .sl 7 (List.map e_api_Item (v1_0.1))), (10, aI (v1_0.2.1)), (11, aI (v1_0.2.2.1))], [(7, .box 28 [aI (v1_0.2.2.2.1), aI (v1_0.2.2.2.2.1), aI (v1_0.2.2.2.2.2.1), .sl 1 (List.map aI (v1_0.2.2.2.2.2.2.1)), .sl 2 (List.map aPt (v1_0.2.2.2.2.2.2.2.1)), aI (v1_0.2.2.2.2.2.2.2.2)])]⟩
theorem tidegatelaw47_ReaderPromises_l1_o {n N : Nat} {a1 : (List T_api_Message)} {k1_0_0 : Int → Int → Int → Int → (List Int) → (List Pt) → Int → Option (Bool)} {R : Exit → AS → Prop} {K : List KItem} {c : Code} {σ : AS} {v0 : (List T_api_Item) × Int × Int × Int × Int × Int × (List Int) × (List Pt) × Int} {r : Bool} (hF : F_tidegatelaw47_ReaderPromises_l1 n a1 k1_0_0 N v0 = some r) (hl : LeX E0 114 σ (S_tidegatelaw47_ReaderPromises_l1 a1 v0)) (round : ∀ m v, F_tidegatelaw47_ReaderPromises_l1 n a1 k1_0_0 (m + 1) v = some r → AW E0 114 (thenA (fun σ' => ∃ v', F_tidegatelaw47_ReaderPromises_l1 n a1 k1_0_0 m v' = some r ∧ LeX E0 114 σ' (S_tidegatelaw47_ReaderPromises_l1 a1 v')) (AW E0 114 R K)) [.code c] .normal (S_tidegatelaw47_ReaderPromises_l1 a1 v)) : LoopX E0 114 (fun next σ' => AW E0 114 (thenA next (AW E0 114 R K)) [.code c] .normal σ') σ :=
  LoopA.o (S := S_tidegatelaw47_ReaderPromises_l1 a1) hF (fun _ => rfl) hl round
def R_tidegatelaw47_ReaderPromises (r : Bool) : AV := .bool (r)
theorem con_tidegatelaw47_ReaderPromises {n : Nat} {a0 : (List T_api_Schema)} {a1 : (List T_api_Message)} {r : Bool} (hF : F_tidegatelaw47_ReaderPromises n a0 a1 = some r) : Con E0 true 5 [.sl 2 (List.map e_api_Schema (a0)), .sl 9 (List.map e_api_Message (a1))] (R_tidegatelaw47_ReaderPromises r) := by
  unfold F_tidegatelaw47_ReaderPromises at hF
  refine Con.walk _ Tryz.func5 rfl (enters_of Tryz.func5 rfl rfl) rfl (Or.inr rfl) ?_
  repeat' first
    | (refine AW.step ?_; conv => whnf)
    | (refine CondX.o hF (fun hF => ?_) (fun hF => ?_))
    | (refine CondX.t ?_)
    | (refine CondX.f ?_)
    | (refine CallX.o hF R_tidegatelaw47_few (fun a h => con_tidegatelaw47_few h) (fun a hF => ?_))
    | (refine CallX.o hF R_tidegatelaw47_awake (fun a h => con_tidegatelaw47_awake h) (fun a hF => ?_))
    | (refine CallX.o hF R_reader_Begin (fun a h => con_reader_Begin h) (fun a hF => ?_))
    | (refine CallX.o hF R_reader_Replay (fun a h => con_reader_Replay h) (fun a hF => ?_))
    | (refine IdxX.o e_api_Item hF (fun x hF => ?_))
    | (exact ⟨_, hF, LeX.of [] rfl ⟨⟨rfl, rfl⟩, ⟨rfl, rfl⟩, ⟨rfl, rfl⟩, ⟨rfl, rfl⟩, ⟨rfl, rfl⟩, trivial⟩ ⟨⟨rfl, rfl⟩, trivial⟩⟩)
    | (exact ⟨_, hF, LeX.of [] rfl ⟨⟨rfl, rfl⟩, ⟨rfl, rfl⟩, ⟨rfl, rfl⟩, ⟨rfl, rfl⟩, ⟨rfl, rfl⟩, ⟨rfl, rfl⟩, ⟨rfl, rfl⟩, trivial⟩ ⟨⟨rfl, rfl⟩, ⟨rfl, rfl⟩, trivial⟩⟩)
    | (refine tidegatelaw47_ReaderPromises_l2_o hF (LeX.of [] rfl ⟨⟨rfl, rfl⟩, ⟨rfl, rfl⟩, ⟨rfl, rfl⟩, ⟨rfl, rfl⟩, ⟨rfl, rfl⟩, ⟨rfl, rfl⟩, ⟨rfl, rfl⟩, trivial⟩ ⟨⟨rfl, rfl⟩, ⟨rfl, rfl⟩, trivial⟩) (fun m v hF => ?_); unfold F_tidegatelaw47_ReaderPromises_l2 at hF)
    | (refine tidegatelaw47_ReaderPromises_l1_o hF (LeX.of [] rfl ⟨⟨rfl, rfl⟩, ⟨rfl, rfl⟩, ⟨rfl, rfl⟩, ⟨rfl, rfl⟩, ⟨rfl, rfl⟩, trivial⟩ ⟨⟨rfl, rfl⟩, trivial⟩) (fun m v hF => ?_); unfold F_tidegatelaw47_ReaderPromises_l1 at hF)
    | (refine And.intro ⟨by kernel_rfl, by kernel_rfl⟩ ?_)
    | (refine EqX.mk (by first | rfl | kernel_rfl) ?_)
    | (exact RetX.o hF (by repeat' first | exact Sub.nil _ | exact Sub.refl _ | refine Sub.agg ?_ | refine Sub.tup ?_ | refine Sub.fn ?_ | exact SubL.nil | refine SubL.cons ?_ ?_ | refine Sub.sl _ ?_ | exact SubE.nil | refine SubE.cons ?_ ?_))

end Go.Proofs.YtcbdhigllelmcaaGreat
namespace Go.Proofs.YtcbdhigllelmcaaGreat
open Go.RowKit
theorem promises_con47 (l : List Sch) (hl : l.length ≤ 9223372036854775807) (log : List Ms) : Con E0 true 5 [.sl 2 (l.map e_api_Schema), .sl 9 (log.map e_api_Message)] (.bool true) := con_tidegatelaw47_ReaderPromises (law_promises47 l log hl _ (Nat.le_refl _))
end Go.Proofs.YtcbdhigllelmcaaGreat
