/- What some functions compute, over plain values. Printed by a program of mine (gen_fun.lean). Chapter 47, plain: reading, replaying (both). Chapter 47, plain: the laws Reads, Replays, Routes, Divides, Promises. Chapter 47: the contracts of five laws. -/
import Derived.Test.YtcbdhigllelmcaaGreatK09
import Derived.Test.YtcbdhigllelmcaaGreatK10
import Derived.Test.YtcbdhigllelmcaaGreatK12
import Derived.Test.YtcbdhigllelmcaaGreatK13
import Derived.Test.YtcbdhigllelmcaaGreatK16
import Derived.Test.YtcbdhigllelmcaaGreatK11
set_option linter.unusedVariables false
set_option linter.unusedSimpArgs false
set_option maxRecDepth 100000
set_option maxHeartbeats 8000000
namespace Go.Proofs.YtcbdhigllelmcaaGreat
open Go.RowKit
def F_tidegateref34_Begin (n : Nat) : Option (Trk) :=
  some (⟨0, [], [], (-1)⟩)
def F_tidegateref47_Begin (n : Nat) (a0 : Int) : Option (T_api_Reader × Int) :=
  cnd (decide (a0 < 0))
    (some (⟨0, 0, ⟨0, [], [], 0⟩⟩, 32))
  <| cnd (decide (8 ≤ a0))
    (some (⟨0, 0, ⟨0, [], [], 0⟩⟩, 32))
  <| bnd (F_tidegateref34_Begin n) fun x1 =>
  some (⟨a0, 0, x1⟩, 0)
def F_tidegateref47_Replay_l1 (n : Nat) (a2 : (List T_api_Message)) (a0 : (List T_api_Schema)) (k1_0_0 : Int → Int → Int → (List Int) → (List Pt) → Int → (List T_api_Item) → Option (T_api_Reader × (List T_api_Item) × Int)) : Nat → Int × Int × Int × (List Int) × (List Pt) × Int × (List T_api_Item) → Option (T_api_Reader × (List T_api_Item) × Int)
  | 0, _ => none
  | mv1_0 + 1, v1_0 =>
    cnd (decide (v1_0.2.1 < (((List.map e_api_Message (a2)).length : Nat) : Int)))
      (idx a2 v1_0.2.1 fun x50 =>
      bnd (F_tidegateref47_Next n a0 (⟨v1_0.1, v1_0.2.1, ⟨v1_0.2.2.1, v1_0.2.2.2.1, v1_0.2.2.2.2.1, v1_0.2.2.2.2.2.1⟩⟩ : T_api_Reader) x50) fun x51 =>
      app v1_0.2.2.2.2.2.2 x51.2 72 fun x52 =>
      F_tidegateref47_Replay_l1 n a2 a0 k1_0_0 mv1_0 (x51.1.fSource, x51.1.fOffset, x51.1.fTracker.next, x51.1.fTracker.beyond, x51.1.fTracker.points, x51.1.fTracker.mark, x52))
    <| k1_0_0 v1_0.1 v1_0.2.1 v1_0.2.2.1 v1_0.2.2.2.1 v1_0.2.2.2.2.1 v1_0.2.2.2.2.2.1 v1_0.2.2.2.2.2.2
def F_tidegateref47_Replay (n : Nat) (a0 : (List T_api_Schema)) (a1 : T_api_Reader) (a2 : (List T_api_Message)) : Option (T_api_Reader × (List T_api_Item) × Int) :=
  bnd (F_tidegateref03_CheckAll n a0) fun x1 =>
  cnd (!decide (x1 = 0))
    (some (⟨0, 0, ⟨0, [], [], 0⟩⟩, [], x1))
  <| bnd (F_tidegateref47_place n a1 a2 0) fun x2 =>
  cnd (!decide (x2 = 0))
    (some (⟨0, 0, ⟨0, [], [], 0⟩⟩, [], x2))
  <| F_tidegateref47_Replay_l1 n a2 a0
    (fun k1_0_0y0 k1_0_0y1 k1_0_0y2 k1_0_0y3 k1_0_0y4 k1_0_0y5 k1_0_0y6 => some (⟨k1_0_0y0, k1_0_0y1, ⟨k1_0_0y2, k1_0_0y3, k1_0_0y4, k1_0_0y5⟩⟩, k1_0_0y6, 0)) n (a1.fSource, a1.fOffset, a1.fTracker.next, a1.fTracker.beyond, a1.fTracker.points, a1.fTracker.mark, [])
def F_tidegatelaw47_ReaderReplays (n : Nat) (a0 : (List T_api_Schema)) (a1 : T_api_Reader) (a2 : (List T_api_Message)) : Option (Bool) :=
  bnd (F_tidegatelaw47_few n a0 a2) fun x1 =>
  cnd (!(x1))
    (bnd (F_tidegatelaw47_awake n) fun x2 =>
    some x2)
  <| bnd (F_tidegateref34_Few n a1.fTracker) fun x3 =>
  cnd (!(x3))
    (bnd (F_tidegatelaw47_awake n) fun x4 =>
    some x4)
  <| bnd (F_reader_Replay n a0 a1 a2) fun x5 =>
  bnd (F_tidegateref47_Replay n a0 a1 a2) fun x6 =>
  bnd (F_reader_Begin n a1.fSource) fun x7 =>
  bnd (F_tidegateref47_Begin n a1.fSource) fun x8 =>
  bnd (F_tidegatelaw47_awake n) fun x9 =>
  cnd (x9)
    (bnd (F_tidegateref47_Same n x5.1 x6.1) fun x10 =>
    cnd (x10)
      (bnd (F_tidegateref46_SameItems n x5.2.1 x6.2.1) fun x11 =>
      cnd (x11)
        (cnd (decide (x5.2.2 = x6.2.2))
          (bnd (F_tidegateref47_Same n x7.1 x8.1) fun x12 =>
          cnd (x12)
            (some (decide (x7.2 = x8.2)))
          <| some false)
        <| some false)
      <| some false)
    <| some false)
  <| some false
end Go.Proofs.YtcbdhigllelmcaaGreat
namespace Go.Proofs.YtcbdhigllelmcaaGreat
open Go.RowKit

theorem p_rbeginR (n : Nat) (s : Int) : F_tidegateref47_Begin n s = some (beginR s) := by
  unfold F_tidegateref47_Begin F_tidegateref34_Begin beginR
  simp only [cnd_if, bnd_some]
  (repeat' split) <;> first | rfl | (exfalso; omega)

theorem p_rReplay_l1 (n : Nat) (l : List Sch) (log : List Ms) (hv : ∀ m ∈ log, m.fEvent.fValues.length ≤ 12) (hn : 1000 ≤ n) (hl : log.length ≤ 4096)
    (K : Int → Int → Int → (List Int) → (List Pt) → Int → (List T_api_Item) → Option (T_api_Reader × (List T_api_Item) × Int)) : ∀ (f k : Nat) (r : Rd) (out : List It), k ≤ log.length → log.length < f + k → ROk r → r.fOffset = (k : Int) → out.length + 2 * (log.length - k) ≤ 20000 →
    F_tidegateref47_Replay_l1 n log l K f (r.fSource, r.fOffset, r.fTracker.next, r.fTracker.beyond, r.fTracker.points, r.fTracker.mark, out) =
    (fun (q : Rd × List It) => K q.1.fSource q.1.fOffset q.1.fTracker.next q.1.fTracker.beyond q.1.fTracker.points q.1.fTracker.mark (out ++ q.2)) (runR l r (log.drop k))
  | 0, k, r, out, h1, h2, h3, h4, h5 => by omega
  | f + 1, k, r, out, h1, h2, h3, h4, h5 => by
    rw [F_tidegateref47_Replay_l1]
    simp only [List.length_map, cnd_if]
    by_cases h : k < log.length
    · have hrr : (⟨r.fSource, r.fOffset, ⟨r.fTracker.next, r.fTracker.beyond, r.fTracker.points, r.fTracker.mark⟩⟩ : Rd) = r := rfl
      have hlen := next_len l r log[k]
      have hoff := next_src l r log[k]
      rw [hrr, if_pos (by omega), h4, idx_nat h, p_next n l r _ h3 (hv _ (List.getElem_mem h)) hn, bnd_some, app_ok (by omega) (by omega)]
      rw [p_rReplay_l1 n l log hv hn hl K f (k + 1) (nextS l r log[k]).1 (out ++ (nextS l r log[k]).2) (by omega) (by omega) (h3.next (by omega)) (by rw [hoff.2]; omega) (by rw [List.length_append]; omega), dropK_cons h, runR]
      simp only [List.append_assoc]
    · rw [if_neg (by omega), List.drop_eq_nil_of_le (by omega), runR, List.append_nil]
theorem p_rReplay (n : Nat) (l : List Sch) (r : Rd) (log : List Ms) (hv : ∀ m ∈ log, m.fEvent.fValues.length ≤ 12) (hn : 10000 ≤ n) : F_tidegateref47_Replay n l r log = some (replS l r log) := by
  unfold F_tidegateref47_Replay replS
  rw [p_rall n l (by omega), bnd_some, p_place47 n r log 0 (by omega), bnd_some]
  simp only [cnd_not, cnd_if]
  by_cases h1 : allErr l = 0
  · rw [if_pos h1, if_nne h1]
    by_cases h2 : plErr r log 0 = 0
    · obtain ⟨hr, h3, h4⟩ := plErr_zero h2
      have ho := hr.o
      rw [if_pos h2, if_nne h2]
      rw [p_rReplay_l1 n l log hv (by omega) h3 _ n r.fOffset.toNat r [] (by omega) (by omega) hr (by omega) (by simp; omega)]
      rfl
    · rw [if_neg h2, if_pos h2]; rfl
  · rw [if_neg h1, if_pos h1]; rfl
end Go.Proofs.YtcbdhigllelmcaaGreat
namespace Go.Proofs.YtcbdhigllelmcaaGreat
open Go.RowKit

theorem replS_b (l : List Sch) (r : Rd) (log : List Ms) (hv : ∀ m ∈ log, m.fEvent.fValues.length ≤ 12) : ((replS l r log).1.fTracker.beyond.length ≤ 1000 ∧ (replS l r log).1.fTracker.points.length ≤ 256) ∧ (replS l r log).2.1.length ≤ 8192 ∧ ∀ x ∈ (replS l r log).2.1, x.fEvent.fValues.length ≤ 1000 := by
  unfold replS
  split
  · exact ⟨⟨by simp [zeroR], by simp [zeroR]⟩, by simp, by simp⟩
  · split
    · exact ⟨⟨by simp [zeroR], by simp [zeroR]⟩, by simp, by simp⟩
    · rename_i h1 h2
      obtain ⟨hr, h3, h4⟩ := plErr_zero (Decidable.not_not.1 h2)
      refine ⟨(runR_trk l _ r hr.t).b, ?_, fun x hx => by have := runR_val l _ r (fun m hm => hv m (List.mem_of_mem_drop hm)) x hx; omega⟩
      have := runR_len l (log.drop r.fOffset.toNat) r
      rw [List.length_drop] at this
      simp only
      omega
theorem law_replays47 (l : List Sch) (r : Rd) (log : List Ms) (hl : l.length ≤ 9223372036854775807) (n : Nat) (hn : 100000 + l.length ≤ n) : F_tidegatelaw47_ReaderReplays n l r log = some true := by
  unfold F_tidegatelaw47_ReaderReplays
  obtain ⟨c, c1, c2⟩ := p_few n l log hl (by omega) (by omega)
  rw [c1, bnd_some]
  cases c with
  | false => simp only [cnd_not, cnd_f, awake47 _ (by omega : 10000 ≤ n), bnd_some]
  | true =>
    obtain ⟨s1, s2⟩ := c2 rfl
    obtain ⟨⟨b1, b2⟩, b3, b4⟩ := replS_b l r log s2
    have hb : (beginR r.fSource).1.fTracker.beyond.length ≤ 1000 ∧ (beginR r.fSource).1.fTracker.points.length ≤ 1000 := by unfold beginR; split <;> simp [zeroR, t0]
    simp only [cnd_not, cnd_t, p_fewT47, bnd_some]
    rw [awake47 _ (by omega), p_Replay _ l r log s2 (by omega), p_rReplay _ l r log s2 (by omega), p_beginR, p_rbeginR]
    simp only [bnd_some, cnd_t]
    rw [p_sameR _ _ _ (by omega) (by omega), p_sameItems _ _ _ (by omega) (by omega) b4 (by omega), p_sameR _ _ _ (by omega) (by omega)]
    simp only [decide_true, bnd_some, cnd_t, cnd_if, if_true]
    cases fewT r.fTracker <;> simp only [cnd_t, cnd_f]
end Go.Proofs.YtcbdhigllelmcaaGreat
namespace Go.Proofs.YtcbdhigllelmcaaGreat
open Go.RowKit
def R_tidegateref34_Begin (r : Trk) : AV := .agg [aI (r.next), .sl 1 (List.map aI (r.beyond)), .sl 2 (List.map aPt (r.points)), aI (r.mark)]
theorem con_tidegateref34_Begin {n : Nat} {r : Trk} (hF : F_tidegateref34_Begin n = some r) : Con E0 false 38 [] (R_tidegateref34_Begin r) := by
  unfold F_tidegateref34_Begin at hF
  refine Con.walk _ Tryz.func38 rfl (enters_of Tryz.func38 rfl rfl) rfl (Or.inl rfl) ?_
  repeat' first
    | (refine AW.step ?_; conv => whnf)
    | (refine CondX.o hF (fun hF => ?_) (fun hF => ?_))
    | (refine CondX.t ?_)
    | (refine CondX.f ?_)
    | (refine And.intro ⟨by kernel_rfl, by kernel_rfl⟩ ?_)
    | (refine EqX.mk (by first | rfl | kernel_rfl) ?_)
    | (exact RetX.o hF (by repeat' first | exact Sub.nil _ | exact Sub.refl _ | refine Sub.agg ?_ | refine Sub.tup ?_ | refine Sub.fn ?_ | exact SubL.nil | refine SubL.cons ?_ ?_ | refine Sub.sl _ ?_ | exact SubE.nil | refine SubE.cons ?_ ?_))

def R_tidegateref47_Begin (r : T_api_Reader × Int) : AV := .tup [.agg [aI (r.1.fSource), aI (r.1.fOffset), aI (r.1.fTracker.next), .sl 1 (List.map aI (r.1.fTracker.beyond)), .sl 2 (List.map aPt (r.1.fTracker.points)), aI (r.1.fTracker.mark)], aI (r.2)]
theorem con_tidegateref47_Begin {n : Nat} {a0 : Int} {r : T_api_Reader × Int} (hF : F_tidegateref47_Begin n a0 = some r) : Con E0 false 14 [aI (a0)] (R_tidegateref47_Begin r) := by
  unfold F_tidegateref47_Begin at hF
  refine Con.walk _ Tryz.func14 rfl (enters_of Tryz.func14 rfl rfl) rfl (Or.inl rfl) ?_
  repeat' first
    | (refine AW.step ?_; conv => whnf)
    | (refine CondX.o hF (fun hF => ?_) (fun hF => ?_))
    | (refine CondX.t ?_)
    | (refine CondX.f ?_)
    | (refine CallX.o hF R_tidegateref34_Begin (fun a h => con_tidegateref34_Begin h) (fun a hF => ?_))
    | (refine And.intro ⟨by kernel_rfl, by kernel_rfl⟩ ?_)
    | (refine EqX.mk (by first | rfl | kernel_rfl) ?_)
    | (exact RetX.o hF (by repeat' first | exact Sub.nil _ | exact Sub.refl _ | refine Sub.agg ?_ | refine Sub.tup ?_ | refine Sub.fn ?_ | exact SubL.nil | refine SubL.cons ?_ ?_ | refine Sub.sl _ ?_ | exact SubE.nil | refine SubE.cons ?_ ?_))

def S_tidegateref47_Replay_l1 (a2 : (List T_api_Message)) (a0 : (List T_api_Schema)) (v1_0 : Int × Int × Int × (List Int) × (List Pt) × Int × (List T_api_Item)) : AS := ⟨[(0, .sl 2 (List.map e_api_Schema (a0))), (2, .sl 9 (List.map e_api_Message (a2))), (4, .ptr 4 0), (6, .ptr 6 0), (11, .row 7046)], [(4, .box 28 [aI (v1_0.1), aI (v1_0.2.1), aI (v1_0.2.2.1), .sl 1 (List.map aI (v1_0.2.2.2.1)), .sl 2 (List.map aPt (v1_0.2.2.2.2.1)), aI (v1_0.2.2.2.2.2.1)]), (6, .box 28 [aI (0), aI (0), aI (0), .nils, .nils, aI (0)]), (7046, .row 53 7 (List.map e_api_Item (v1_0.2.2.2.2.2.2)))]⟩
theorem tidegateref47_Replay_l1_o {n N : Nat} {a2 : (List T_api_Message)} {a0 : (List T_api_Schema)} {k1_0_0 : Int → Int → Int → (List Int) → (List Pt) → Int → (List T_api_Item) → Option (T_api_Reader × (List T_api_Item) × Int)} {R : Exit → AS → Prop} {K : List KItem} {c : Code} {σ : AS} {v0 : Int × Int × Int × (List Int) × (List Pt) × Int × (List T_api_Item)} {r : T_api_Reader × (List T_api_Item) × Int} (hF : F_tidegateref47_Replay_l1 n a2 a0 k1_0_0 N v0 = some r) (hl : LeX E0 49 σ (S_tidegateref47_Replay_l1 a2 a0 v0)) (round : ∀ m v, F_tidegateref47_Replay_l1 n a2 a0 k1_0_0 (m + 1) v = some r → AW E0 49 (thenA (fun σ' => ∃ v', F_tidegateref47_Replay_l1 n a2 a0 k1_0_0 m v' = some r ∧ LeX E0 49 σ' (S_tidegateref47_Replay_l1 a2 a0 v')) (AW E0 49 R K)) [.code c] .normal (S_tidegateref47_Replay_l1 a2 a0 v)) : LoopX E0 49 (fun next σ' => AW E0 49 (thenA next (AW E0 49 R K)) [.code c] .normal σ') σ :=
  LoopA.o (S := S_tidegateref47_Replay_l1 a2 a0) hF (fun _ => rfl) hl round
def R_tidegateref47_Replay (r : T_api_Reader × (List T_api_Item) × Int) : AV := .tup [.agg [aI (r.1.fSource), aI (r.1.fOffset), aI (r.1.fTracker.next), .sl 1 (List.map aI (r.1.fTracker.beyond)), .sl 2 (List.map aPt (r.1.fTracker.points)), aI (r.1.fTracker.mark)], .sl 7 (List.map e_api_Item (r.2.1)), aI (r.2.2)]
theorem con_tidegateref47_Replay {n : Nat} {a0 : (List T_api_Schema)} {a1 : T_api_Reader} {a2 : (List T_api_Message)} {r : T_api_Reader × (List T_api_Item) × Int} (hF : F_tidegateref47_Replay n a0 a1 a2 = some r) : Con E0 false 12 [.sl 2 (List.map e_api_Schema (a0)), .agg [aI (a1.fSource), aI (a1.fOffset), aI (a1.fTracker.next), .sl 1 (List.map aI (a1.fTracker.beyond)), .sl 2 (List.map aPt (a1.fTracker.points)), aI (a1.fTracker.mark)], .sl 9 (List.map e_api_Message (a2))] (R_tidegateref47_Replay r) := by
  unfold F_tidegateref47_Replay at hF
  refine Con.walk _ Tryz.func12 rfl (enters_of Tryz.func12 rfl rfl) rfl (Or.inl rfl) ?_
  repeat' first
    | (refine AW.step ?_; conv => whnf)
    | (refine CondX.o hF (fun hF => ?_) (fun hF => ?_))
    | (refine CondX.t ?_)
    | (refine CondX.f ?_)
    | (refine CallX.o hF R_tidegateref03_CheckAll (fun a h => con_tidegateref03_CheckAll h) (fun a hF => ?_))
    | (refine CallX.o hF R_tidegateref47_place (fun a h => con_tidegateref47_place h) (fun a hF => ?_))
    | (refine IdxX.o e_api_Message hF (fun x hF => ?_))
    | (refine CallX.o hF R_tidegateref47_Next (fun a h => con_tidegateref47_Next h) (fun a hF => ?_))
    | (refine AppX.o e_api_Item hF (by first | exact SubR.refl _ | (repeat' first | exact SubR.nil | refine SubR.cons ?_ ?_ | exact SubL.nil | refine SubL.cons ?_ ?_ | exact Sub.refl _ | exact Sub.nil _)) (fun l hF => ?_))
    | (exact ⟨_, hF, LeX.of [(7046, 46)] rfl ⟨⟨rfl, rfl⟩, ⟨rfl, rfl⟩, ⟨rfl, rfl⟩, ⟨rfl, rfl⟩, ⟨rfl, rfl⟩, trivial⟩ ⟨⟨rfl, rfl⟩, ⟨rfl, rfl⟩, ⟨rfl, rfl⟩, trivial⟩⟩)
    | (refine tidegateref47_Replay_l1_o hF (LeX.trans (LeX.adopt 11 7046 53 7 rfl rfl) (LeX.of [] rfl ⟨⟨rfl, rfl⟩, ⟨rfl, rfl⟩, ⟨rfl, rfl⟩, ⟨rfl, rfl⟩, ⟨rfl, rfl⟩, trivial⟩ ⟨⟨rfl, rfl⟩, ⟨rfl, rfl⟩, ⟨rfl, rfl⟩, trivial⟩)) (fun m v hF => ?_); unfold F_tidegateref47_Replay_l1 at hF)
    | (refine And.intro ⟨by kernel_rfl, by kernel_rfl⟩ ?_)
    | (refine EqX.mk (by first | rfl | kernel_rfl) ?_)
    | (exact RetX.o hF (by repeat' first | exact Sub.nil _ | exact Sub.refl _ | refine Sub.agg ?_ | refine Sub.tup ?_ | refine Sub.fn ?_ | exact SubL.nil | refine SubL.cons ?_ ?_ | refine Sub.sl _ ?_ | exact SubE.nil | refine SubE.cons ?_ ?_))

end Go.Proofs.YtcbdhigllelmcaaGreat
namespace Go.Proofs.YtcbdhigllelmcaaGreat
open Go.RowKit
def R_tidegatelaw47_ReaderReplays (r : Bool) : AV := .bool (r)
theorem con_tidegatelaw47_ReaderReplays {n : Nat} {a0 : (List T_api_Schema)} {a1 : T_api_Reader} {a2 : (List T_api_Message)} {r : Bool} (hF : F_tidegatelaw47_ReaderReplays n a0 a1 a2 = some r) : Con E0 true 3 [.sl 2 (List.map e_api_Schema (a0)), .agg [aI (a1.fSource), aI (a1.fOffset), aI (a1.fTracker.next), .sl 1 (List.map aI (a1.fTracker.beyond)), .sl 2 (List.map aPt (a1.fTracker.points)), aI (a1.fTracker.mark)], .sl 9 (List.map e_api_Message (a2))] (R_tidegatelaw47_ReaderReplays r) := by
  unfold F_tidegatelaw47_ReaderReplays at hF
  refine Con.walk _ Tryz.func3 rfl (enters_of Tryz.func3 rfl rfl) rfl (Or.inr rfl) ?_
  repeat' first
    | (refine AW.step ?_; conv => whnf)
    | (refine CondX.o hF (fun hF => ?_) (fun hF => ?_))
    | (refine CondX.t ?_)
    | (refine CondX.f ?_)
    | (refine CallX.o hF R_tidegatelaw47_few (fun a h => con_tidegatelaw47_few h) (fun a hF => ?_))
    | (refine CallX.o hF R_tidegatelaw47_awake (fun a h => con_tidegatelaw47_awake h) (fun a hF => ?_))
    | (refine CallX.o hF R_tidegateref34_Few (fun a h => con_tidegateref34_Few h) (fun a hF => ?_))
    | (refine CallX.o hF R_reader_Replay (fun a h => con_reader_Replay h) (fun a hF => ?_))
    | (refine CallX.o hF R_tidegateref47_Replay (fun a h => con_tidegateref47_Replay h) (fun a hF => ?_))
    | (refine CallX.o hF R_reader_Begin (fun a h => con_reader_Begin h) (fun a hF => ?_))
    | (refine CallX.o hF R_tidegateref47_Begin (fun a h => con_tidegateref47_Begin h) (fun a hF => ?_))
    | (refine CallX.o hF R_tidegateref47_Same (fun a h => con_tidegateref47_Same h) (fun a hF => ?_))
    | (refine CallX.o hF R_tidegateref46_SameItems (fun a h => con_tidegateref46_SameItems h) (fun a hF => ?_))
    | (refine And.intro ⟨by kernel_rfl, by kernel_rfl⟩ ?_)
    | (refine EqX.mk (by first | rfl | kernel_rfl) ?_)
    | (exact RetX.o hF (by repeat' first | exact Sub.nil _ | exact Sub.refl _ | refine Sub.agg ?_ | refine Sub.tup ?_ | refine Sub.fn ?_ | exact SubL.nil | refine SubL.cons ?_ ?_ | refine Sub.sl _ ?_ | exact SubE.nil | refine SubE.cons ?_ ?_))

end Go.Proofs.YtcbdhigllelmcaaGreat
namespace Go.Proofs.YtcbdhigllelmcaaGreat
open Go.RowKit
theorem replays_con47 (l : List Sch) (hl : l.length ≤ 9223372036854775807) (r : Rd) (log : List Ms) : Con E0 true 3 [.sl 2 (l.map e_api_Schema), e_api_Reader r, .sl 9 (log.map e_api_Message)] (.bool true) := con_tidegatelaw47_ReaderReplays (law_replays47 l r log hl _ (Nat.le_refl _))
end Go.Proofs.YtcbdhigllelmcaaGreat
