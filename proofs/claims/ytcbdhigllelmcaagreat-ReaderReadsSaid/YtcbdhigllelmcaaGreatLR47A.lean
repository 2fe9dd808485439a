/- What some functions compute, over plain values. Printed by a program of mine (gen_fun.lean). Chapter 47, plain: reading, replaying (both). Chapter 47, plain: the laws Reads, Replays, Routes, Divides, Promises. Chapter 47: the contracts of five laws. -/
import Derived.Test.YtcbdhigllelmcaaGreatK09
import Derived.Test.YtcbdhigllelmcaaGreatK10
import Derived.Test.YtcbdhigllelmcaaGreatK12
import Derived.Test.YtcbdhigllelmcaaGreatK13
import Derived.Test.YtcbdhigllelmcaaGreatK16
import Derived.Test.YtcbdhigllelmcaaGreatK11
set_option linter.unusedVariables false
set_option linter.unusedSimpArgs false
set_option maxRecDepth 100000
set_option maxHeartbeats 8000000
namespace Go.Proofs.YtcbdhigllelmcaaGreat
open Go.RowKit
def F_tidegateref47_Read (n : Nat) (a0 : (List T_api_Schema)) (a1 : T_api_Reader) (a2 : (List T_api_Message)) : Option (T_api_Reader × (List T_api_Item) × Int) :=
  bnd (F_tidegateref03_CheckAll n a0) fun x1 =>
  cnd (!decide (x1 = 0))
    (some (⟨0, 0, ⟨0, [], [], 0⟩⟩, [], x1))
  <| bnd (F_tidegateref47_place n a1 a2 1) fun x2 =>
  cnd (!decide (x2 = 0))
    (some (⟨0, 0, ⟨0, [], [], 0⟩⟩, [], x2))
  <| idx a2 a1.fOffset fun x3 =>
  bnd (F_tidegateref47_Next n a0 a1 x3) fun x4 =>
  some (x4.1, x4.2, 0)
def F_tidegateref47_Left (n : Nat) (a0 : T_api_Reader) (a1 : (List T_api_Message)) : Option (Int × Int) :=
  bnd (F_tidegateref47_place n a0 a1 0) fun x1 =>
  cnd (!decide (x1 = 0))
    (some (0, x1))
  <| some ((IntKind.wrap .i64 ((((List.map e_api_Message (a1)).length : Nat) : Int) - a0.fOffset)), 0)
def F_tidegatelaw47_ReaderReads (n : Nat) (a0 : (List T_api_Schema)) (a1 : T_api_Reader) (a2 : (List T_api_Message)) : Option (Bool) :=
  bnd (F_tidegatelaw47_few n a0 a2) fun x1 =>
  cnd (!(x1))
    (bnd (F_tidegatelaw47_awake n) fun x2 =>
    some x2)
  <| bnd (F_tidegateref34_Few n a1.fTracker) fun x3 =>
  cnd (!(x3))
    (bnd (F_tidegatelaw47_awake n) fun x4 =>
    some x4)
  <| bnd (F_reader_Read n a0 a1 a2) fun x5 =>
  bnd (F_tidegateref47_Read n a0 a1 a2) fun x6 =>
  bnd (F_reader_Left n a1 a2) fun x7 =>
  bnd (F_tidegateref47_Left n a1 a2) fun x8 =>
  bnd (F_tidegatelaw47_awake n) fun x9 =>
  cnd (x9)
    (bnd (F_tidegateref47_Same n x5.1 x6.1) fun x10 =>
    cnd (x10)
      (bnd (F_tidegateref46_SameItems n x5.2.1 x6.2.1) fun x11 =>
      cnd (x11)
        (cnd (decide (x5.2.2 = x6.2.2))
          (cnd (decide (x7.1 = x8.1))
            (cnd (decide (x7.2 = x8.2))
              (bnd (F_reader_Check n a1) fun x12 =>
              bnd (F_tidegateref47_Check n a1) fun x13 =>
              some (decide (x12 = x13)))
            <| some false)
          <| some false)
        <| some false)
      <| some false)
    <| some false)
  <| some false
end Go.Proofs.YtcbdhigllelmcaaGreat
namespace Go.Proofs.YtcbdhigllelmcaaGreat
open Go.RowKit

theorem p_rRead (n : Nat) (l : List Sch) (r : Rd) (log : List Ms) (hv : ∀ m ∈ log, m.fEvent.fValues.length ≤ 12) (hn : 2000 ≤ n) : F_tidegateref47_Read n l r log = some (readS l r log) := by
  unfold F_tidegateref47_Read readS
  rw [p_rall n l (by omega), bnd_some, p_place47 n r log 1 (by omega), bnd_some]
  simp only [cnd_not, cnd_if]
  by_cases h1 : allErr l = 0
  · rw [if_pos h1, if_nne h1]
    by_cases h2 : plErr r log 1 = 0
    · obtain ⟨hr, h3, h4⟩ := plErr_zero h2
      have ho := hr.o
      have hk : r.fOffset.toNat < log.length := by omega
      rw [if_pos h2, if_nne h2, idx_int (by omega) hk, getD_log hk, p_next n l r _ hr (hv _ (List.getElem_mem hk)) (by omega), bnd_some]
    · rw [if_neg h2, if_pos h2]; rfl
  · rw [if_neg h1, if_pos h1]; rfl
theorem p_rLeft (n : Nat) (r : Rd) (log : List Ms) : F_tidegateref47_Left n r log = some (leftS r log) := by
  unfold F_tidegateref47_Left leftS
  rw [p_place47 n r log 0 (by omega), bnd_some]
  simp only [cnd_not, cnd_if, List.length_map]
  by_cases h2 : plErr r log 0 = 0
  · obtain ⟨hr, h3, h4⟩ := plErr_zero h2
    have ho := hr.o
    rw [if_pos h2, if_nne h2, wrap_in ((log.length : Int) - r.fOffset) (by omega)]
  · rw [if_neg h2, if_pos h2]
end Go.Proofs.YtcbdhigllelmcaaGreat
namespace Go.Proofs.YtcbdhigllelmcaaGreat
open Go.RowKit

theorem readS_b (l : List Sch) (r : Rd) (log : List Ms) (hv : ∀ m ∈ log, m.fEvent.fValues.length ≤ 12) : ((readS l r log).1.fTracker.beyond.length ≤ 1000 ∧ (readS l r log).1.fTracker.points.length ≤ 256) ∧ (readS l r log).2.1.length ≤ 2 ∧ ∀ x ∈ (readS l r log).2.1, x.fEvent.fValues.length ≤ 1000 := by
  unfold readS
  split
  · exact ⟨⟨by simp [zeroR], by simp [zeroR]⟩, by simp, by simp⟩
  · split
    · exact ⟨⟨by simp [zeroR], by simp [zeroR]⟩, by simp, by simp⟩
    · rename_i h1 h2
      obtain ⟨hr, h3, h4⟩ := plErr_zero (Decidable.not_not.1 h2)
      have ho := hr.o
      have hk : r.fOffset.toNat < log.length := by omega
      rw [getD_log hk]
      exact ⟨(next_trk l r _ hr.t).b, next_len _ _ _, fun x hx => by have := next_val l r _ (hv _ (List.getElem_mem hk)) x hx; omega⟩
theorem law_reads47 (l : List Sch) (r : Rd) (log : List Ms) (hl : l.length ≤ 9223372036854775807) (n : Nat) (hn : 100000 + l.length ≤ n) : F_tidegatelaw47_ReaderReads n l r log = some true := by
  unfold F_tidegatelaw47_ReaderReads
  obtain ⟨c, c1, c2⟩ := p_few n l log hl (by omega) (by omega)
  rw [c1, bnd_some]
  cases c with
  | false => simp only [cnd_not, cnd_f, awake47 _ (by omega : 10000 ≤ n), bnd_some]
  | true =>
    obtain ⟨s1, s2⟩ := c2 rfl
    obtain ⟨⟨b1, b2⟩, b3, b4⟩ := readS_b l r log s2
    simp only [cnd_not, cnd_t, p_fewT47, bnd_some]
    rw [awake47 _ (by omega), p_Read _ l r log s2 (by omega), p_rRead _ l r log s2 (by omega), p_Left, p_rLeft, p_rdCheck, p_rrdCheck]
    simp only [bnd_some, cnd_t]
    rw [p_sameR _ _ _ (by omega) (by omega), p_sameItems _ _ _ (by omega) (by omega) b4 (by omega)]
    simp only [decide_true, bnd_some, cnd_t, cnd_if, if_true]
    cases fewT r.fTracker <;> simp only [cnd_t, cnd_f]
end Go.Proofs.YtcbdhigllelmcaaGreat
namespace Go.Proofs.YtcbdhigllelmcaaGreat
open Go.RowKit
def R_tidegateref47_Read (r : T_api_Reader × (List T_api_Item) × Int) : AV := .tup [.agg [aI (r.1.fSource), aI (r.1.fOffset), aI (r.1.fTracker.next), .sl 1 (List.map aI (r.1.fTracker.beyond)), .sl 2 (List.map aPt (r.1.fTracker.points)), aI (r.1.fTracker.mark)], .sl 7 (List.map e_api_Item (r.2.1)), aI (r.2.2)]
theorem con_tidegateref47_Read {n : Nat} {a0 : (List T_api_Schema)} {a1 : T_api_Reader} {a2 : (List T_api_Message)} {r : T_api_Reader × (List T_api_Item) × Int} (hF : F_tidegateref47_Read n a0 a1 a2 = some r) : Con E0 false 22 [.sl 2 (List.map e_api_Schema (a0)), .agg [aI (a1.fSource), aI (a1.fOffset), aI (a1.fTracker.next), .sl 1 (List.map aI (a1.fTracker.beyond)), .sl 2 (List.map aPt (a1.fTracker.points)), aI (a1.fTracker.mark)], .sl 9 (List.map e_api_Message (a2))] (R_tidegateref47_Read r) := by
  unfold F_tidegateref47_Read at hF
  refine Con.walk _ Tryz.func22 rfl (enters_of Tryz.func22 rfl rfl) rfl (Or.inl rfl) ?_
  repeat' first
    | (refine AW.step ?_; conv => whnf)
    | (refine CondX.o hF (fun hF => ?_) (fun hF => ?_))
    | (refine CondX.t ?_)
    | (refine CondX.f ?_)
    | (refine CallX.o hF R_tidegateref03_CheckAll (fun a h => con_tidegateref03_CheckAll h) (fun a hF => ?_))
    | (refine CallX.o hF R_tidegateref47_place (fun a h => con_tidegateref47_place h) (fun a hF => ?_))
    | (refine IdxX.o e_api_Message hF (fun x hF => ?_))
    | (refine CallX.o hF R_tidegateref47_Next (fun a h => con_tidegateref47_Next h) (fun a hF => ?_))
    | (refine And.intro ⟨by kernel_rfl, by kernel_rfl⟩ ?_)
    | (refine EqX.mk (by first | rfl | kernel_rfl) ?_)
    | (exact RetX.o hF (by repeat' first | exact Sub.nil _ | exact Sub.refl _ | refine Sub.agg ?_ | refine Sub.tup ?_ | refine Sub.fn ?_ | exact SubL.nil | refine SubL.cons ?_ ?_ | refine Sub.sl _ ?_ | exact SubE.nil | refine SubE.cons ?_ ?_))

def R_tidegateref47_Left (r : Int × Int) : AV := .tup [aI (r.1), aI (r.2)]
theorem con_tidegateref47_Left {n : Nat} {a0 : T_api_Reader} {a1 : (List T_api_Message)} {r : Int × Int} (hF : F_tidegateref47_Left n a0 a1 = some r) : Con E0 true 24 [.agg [aI (a0.fSource), aI (a0.fOffset), aI (a0.fTracker.next), .sl 1 (List.map aI (a0.fTracker.beyond)), .sl 2 (List.map aPt (a0.fTracker.points)), aI (a0.fTracker.mark)], .sl 9 (List.map e_api_Message (a1))] (R_tidegateref47_Left r) := by
  unfold F_tidegateref47_Left at hF
  refine Con.walk _ Tryz.func24 rfl (enters_of Tryz.func24 rfl rfl) rfl (Or.inr rfl) ?_
  repeat' first
    | (refine AW.step ?_; conv => whnf)
    | (refine CondX.o hF (fun hF => ?_) (fun hF => ?_))
    | (refine CondX.t ?_)
    | (refine CondX.f ?_)
    | (refine CallX.o hF R_tidegateref47_place (fun a h => con_tidegateref47_place h) (fun a hF => ?_))
    | (refine And.intro ⟨by kernel_rfl, by kernel_rfl⟩ ?_)
    | (refine EqX.mk (by first | rfl | kernel_rfl) ?_)
    | (exact RetX.o hF (by repeat' first | exact Sub.nil _ | exact Sub.refl _ | refine Sub.agg ?_ | refine Sub.tup ?_ | refine Sub.fn ?_ | exact SubL.nil | refine SubL.cons ?_ ?_ | refine Sub.sl _ ?_ | exact SubE.nil | refine SubE.cons ?_ ?_))

end Go.Proofs.YtcbdhigllelmcaaGreat
namespace Go.Proofs.YtcbdhigllelmcaaGreat
open Go.RowKit
def R_tidegatelaw47_ReaderReads (r : Bool) : AV := .bool (r)
theorem con_tidegatelaw47_ReaderReads {n : Nat} {a0 : (List T_api_Schema)} {a1 : T_api_Reader} {a2 : (List T_api_Message)} {r : Bool} (hF : F_tidegatelaw47_ReaderReads n a0 a1 a2 = some r) : Con E0 true 6 [.sl 2 (List.map e_api_Schema (a0)), .agg [aI (a1.fSource), aI (a1.fOffset), aI (a1.fTracker.next), .sl 1 (List.map aI (a1.fTracker.beyond)), .sl 2 (List.map aPt (a1.fTracker.points)), aI (a1.fTracker.mark)], .sl 9 (List.map e_api_Message (a2))] (R_tidegatelaw47_ReaderReads r) := by
  unfold F_tidegatelaw47_ReaderReads at hF
  refine Con.walk _ Tryz.func6 rfl (enters_of Tryz.func6 rfl rfl) rfl (Or.inr rfl) ?_
  repeat' first
    | (refine AW.step ?_; conv => whnf)
    | (refine CondX.o hF (fun hF => ?_) (fun hF => ?_))
    | (refine CondX.t ?_)
    | (refine CondX.f ?_)
    | (refine CallX.o hF R_tidegatelaw47_few (fun a h => con_tidegatelaw47_few h) (fun a hF => ?_))
    | (refine CallX.o hF R_tidegatelaw47_awake (fun a h => con_tidegatelaw47_awake h) (fun a hF => ?_))
    | (refine CallX.o hF R_tidegateref34_Few (fun a h => con_tidegateref34_Few h) (fun a hF => ?_))
    | (refine CallX.o hF R_reader_Read (fun a h => con_reader_Read h) (fun a hF => ?_))
    | (refine CallX.o hF R_tidegateref47_Read (fun a h => con_tidegateref47_Read h) (fun a hF => ?_))
    | (refine CallX.o hF R_reader_Left (fun a h => con_reader_Left h) (fun a hF => ?_))
    | (refine CallX.o hF R_tidegateref47_Left (fun a h => con_tidegateref47_Left h) (fun a hF => ?_))
    | (refine CallX.o hF R_tidegateref47_Same (fun a h => con_tidegateref47_Same h) (fun a hF => ?_))
    | (refine CallX.o hF R_tidegateref46_SameItems (fun a h => con_tidegateref46_SameItems h) (fun a hF => ?_))
    | (refine CallX.o hF R_reader_Check (fun a h => con_reader_Check h) (fun a hF => ?_))
    | (refine CallX.o hF R_tidegateref47_Check (fun a h => con_tidegateref47_Check h) (fun a hF => ?_))
    | (refine And.intro ⟨by kernel_rfl, by kernel_rfl⟩ ?_)
    | (refine EqX.mk (by first | rfl | kernel_rfl) ?_)
    | (exact RetX.o hF (by repeat' first | exact Sub.nil _ | exact Sub.refl _ | refine Sub.agg ?_ | refine Sub.tup ?_ | refine Sub.fn ?_ | exact SubL.nil | refine SubL.cons ?_ ?_ | refine Sub.sl _ ?_ | exact SubE.nil | refine SubE.cons ?_ ?_))

end Go.Proofs.YtcbdhigllelmcaaGreat
namespace Go.Proofs.YtcbdhigllelmcaaGreat
open Go.RowKit
theorem reads_con47 (l : List Sch) (hl : l.length ≤ 9223372036854775807) (r : Rd) (log : List Ms) : Con E0 true 6 [.sl 2 (l.map e_api_Schema), e_api_Reader r, .sl 9 (log.map e_api_Message)] (.bool true) := con_tidegatelaw47_ReaderReads (law_reads47 l r log hl _ (Nat.le_refl _))
end Go.Proofs.YtcbdhigllelmcaaGreat
