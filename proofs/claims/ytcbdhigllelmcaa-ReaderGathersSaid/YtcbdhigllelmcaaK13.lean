/- What some functions compute, over plain values. Printed by a program of mine (gen_fun.lean). Chapter 47: the contract of Gathers. -/
import Derived.Test.YtcbdhigllelmcaaK12
set_option linter.unusedVariables false
set_option linter.unusedSimpArgs false
set_option maxRecDepth 100000
set_option maxHeartbeats 8000000
namespace Go.Proofs.Ytcbdhigllelmcaa
open Go.RowKit
theorem con_schema_Check {n : Nat} {a0 : T_api_Schema} {r : Int} (hF : F_schema_Check n a0 = some r) : Con E0 true 26 [.agg [.str (a0.fName), .sl 2 (List.map e_api_Field (a0.fFields))]] (R_schema_Check r) := by
  unfold F_schema_Check at hF
  refine Con.walk _ Try.func26 rfl (enters_of Try.func26 rfl rfl) rfl (Or.inr rfl) ?_
  repeat' first
    | (refine AW.step ?_; conv => whnf)
    | (refine CondX.o hF (fun hF => ?_) (fun hF => ?_))
    | (refine CondX.t ?_)
    | (refine CondX.f ?_)
    | (refine CallX.o hF R_schema_name (fun a h => con_schema_name h) (fun a hF => ?_))
    | (refine IdxX.o e_api_Field hF (fun x hF => ?_))
    | (refine CallX.o hF R_schema_fieldName (fun a h => con_schema_fieldName h) (fun a hF => ?_))
    | (refine LkX.o AV.str AV.bool hF (by first | rfl | kernel_rfl) eqK_9 (by repeat' first | exact Sub.nil _ | exact Sub.refl _ | refine Sub.agg ?_ | refine Sub.tup ?_ | refine Sub.fn ?_ | exact SubL.nil | refine SubL.cons ?_ ?_ | refine Sub.sl _ ?_ | exact SubE.nil | refine SubE.cons ?_ ?_) (fun v b hF => ?_))
    | (refine UpX.o AV.str AV.bool hF (by first | rfl | kernel_rfl) eqK_9 (by repeat' first | exact Sub.nil _ | exact Sub.refl _ | refine Sub.agg ?_ | refine Sub.tup ?_ | refine Sub.fn ?_ | exact SubL.nil | refine SubL.cons ?_ ?_ | refine Sub.sl _ ?_ | exact SubE.nil | refine SubE.cons ?_ ?_) (fun l hF => ?_))
    | (exact ⟨_, hF, LeX.of [] rfl ⟨⟨rfl, rfl⟩, ⟨rfl, rfl⟩, ⟨rfl, rfl⟩, ⟨rfl, rfl⟩, trivial⟩ ⟨⟨rfl, rfl⟩, trivial⟩⟩)
    | (refine schema_Check_l1_o hF (LeX.of [] rfl ⟨⟨rfl, rfl⟩, ⟨rfl, rfl⟩, ⟨rfl, rfl⟩, ⟨rfl, rfl⟩, trivial⟩ ⟨⟨rfl, rfl⟩, trivial⟩) (fun m v hF => ?_); unfold F_schema_Check_l1 at hF)
    | (refine And.intro ⟨by kernel_rfl, by kernel_rfl⟩ ?_)
    | (refine EqX.mk (by first | rfl | kernel_rfl) ?_)
    | (exact RetX.o hF (by repeat' first | exact Sub.nil _ | exact Sub.refl _ | refine Sub.agg ?_ | refine Sub.tup ?_ | refine Sub.fn ?_ | exact SubL.nil | refine SubL.cons ?_ ?_ | refine Sub.sl _ ?_ | exact SubE.nil | refine SubE.cons ?_ ?_))

def S_schema_CheckAll_l1 (a0 : (List T_api_Schema)) (v1_0 : Int × (List (ByteArray × Bool))) : AS := ⟨[(3, .row 10), (11, .sl 2 (List.map e_api_Schema (a0))), (12, aI ((((List.map e_api_Schema (a0)).length : Nat) : Int))), (13, aI (v1_0.1))], [(10, .mp (List.map (encM AV.str AV.bool) (v1_0.2)))]⟩
theorem schema_CheckAll_l1_o {n N : Nat} {a0 : (List T_api_Schema)} {k1_0_0 : Option (Int)} {R : Exit → AS → Prop} {K : List KItem} {c : Code} {σ : AS} {v0 : Int × (List (ByteArray × Bool))} {r : Int} (hF : F_schema_CheckAll_l1 n a0 k1_0_0 N v0 = some r) (hl : LeX E0 30 σ (S_schema_CheckAll_l1 a0 v0)) (round : ∀ m v, F_schema_CheckAll_l1 n a0 k1_0_0 (m + 1) v = some r → AW E0 30 (thenA (fun σ' => ∃ v', F_schema_CheckAll_l1 n a0 k1_0_0 m v' = some r ∧ LeX E0 30 σ' (S_schema_CheckAll_l1 a0 v')) (AW E0 30 R K)) [.code c] .normal (S_schema_CheckAll_l1 a0 v)) : LoopX E0 30 (fun next σ' => AW E0 30 (thenA next (AW E0 30 R K)) [.code c] .normal σ') σ :=
  LoopA.o (S := S_schema_CheckAll_l1 a0) hF (fun _ => rfl) hl round
def R_schema_CheckAll (r : Int) : AV := aI (r)
theorem con_schema_CheckAll {n : Nat} {a0 : (List T_api_Schema)} {r : Int} (hF : F_schema_CheckAll n a0 = some r) : Con E0 true 13 [.sl 2 (List.map e_api_Schema (a0))] (R_schema_CheckAll r) := by
  unfold F_schema_CheckAll at hF
  refine Con.walk _ Try.func13 rfl (enters_of Try.func13 rfl rfl) rfl (Or.inr rfl) ?_
  repeat' first
    | (refine AW.step ?_; conv => whnf)
    | (refine CondX.o hF (fun hF => ?_) (fun hF => ?_))
    | (refine CondX.t ?_)
    | (refine CondX.f ?_)
    | (refine IdxX.o e_api_Schema hF (fun x hF => ?_))
    | (refine CallX.o hF R_schema_Check (fun a h => con_schema_Check h) (fun a hF => ?_))
    | (refine LkX.o AV.str AV.bool hF (by first | rfl | kernel_rfl) eqK_9 (by repeat' first | exact Sub.nil _ | exact Sub.refl _ | refine Sub.agg ?_ | refine Sub.tup ?_ | refine Sub.fn ?_ | exact SubL.nil | refine SubL.cons ?_ ?_ | refine Sub.sl _ ?_ | exact SubE.nil | refine SubE.cons ?_ ?_) (fun v b hF => ?_))
    | (refine UpX.o AV.str AV.bool hF (by first | rfl | kernel_rfl) eqK_9 (by repeat' first | exact Sub.nil _ | exact Sub.refl _ | refine Sub.agg ?_ | refine Sub.tup ?_ | refine Sub.fn ?_ | exact SubL.nil | refine SubL.cons ?_ ?_ | refine Sub.sl _ ?_ | exact SubE.nil | refine SubE.cons ?_ ?_) (fun l hF => ?_))
    | (exact ⟨_, hF, LeX.of [] rfl ⟨⟨rfl, rfl⟩, ⟨rfl, rfl⟩, ⟨rfl, rfl⟩, ⟨rfl, rfl⟩, trivial⟩ ⟨⟨rfl, rfl⟩, trivial⟩⟩)
    | (refine schema_CheckAll_l1_o hF (LeX.of [] rfl ⟨⟨rfl, rfl⟩, ⟨rfl, rfl⟩, ⟨rfl, rfl⟩, ⟨rfl, rfl⟩, trivial⟩ ⟨⟨rfl, rfl⟩, trivial⟩) (fun m v hF => ?_); unfold F_schema_CheckAll_l1 at hF)
    | (refine And.intro ⟨by kernel_rfl, by kernel_rfl⟩ ?_)
    | (refine EqX.mk (by first | rfl | kernel_rfl) ?_)
    | (exact RetX.o hF (by repeat' first | exact Sub.nil _ | exact Sub.refl _ | refine Sub.agg ?_ | refine Sub.tup ?_ | refine Sub.fn ?_ | exact SubL.nil | refine SubL.cons ?_ ?_ | refine Sub.sl _ ?_ | exact SubE.nil | refine SubE.cons ?_ ?_))

def R_event_numbers (r : Int) : AV := aI (r)
theorem con_event_numbers {n : Nat} {a0 : T_api_Event} {r : Int} (hF : F_event_numbers n a0 = some r) : Con E0 true 44 [.agg [aI (a0.fSource), aI (a0.fSeq), aI (a0.fType), aI (a0.fTime), .sl 3 (List.map e_api_Value (a0.fValues))]] (R_event_numbers r) := by
  unfold F_event_numbers at hF
  refine Con.walk _ Try.func44 rfl (enters_of Try.func44 rfl rfl) rfl (Or.inr rfl) ?_
  repeat' first
    | (refine AW.step ?_; conv => whnf)
    | (refine CondX.o hF (fun hF => ?_) (fun hF => ?_))
    | (refine CondX.t ?_)
    | (refine CondX.f ?_)
    | (refine And.intro ⟨by kernel_rfl, by kernel_rfl⟩ ?_)
    | (refine EqX.mk (by first | rfl | kernel_rfl) ?_)
    | (exact RetX.o hF (by repeat' first | exact Sub.nil _ | exact Sub.refl _ | refine Sub.agg ?_ | refine Sub.tup ?_ | refine Sub.fn ?_ | exact SubL.nil | refine SubL.cons ?_ ?_ | refine Sub.sl _ ?_ | exact SubE.nil | refine SubE.cons ?_ ?_))

def S_event_valid_l1 (a1 : T_api_Event) (x2 : T_api_Schema) (v1_0 : Int) : AS := ⟨[(6, .sl 2 (List.map e_api_Field (x2.fFields))), (38, .sl 3 (List.map e_api_Value (a1.fValues))), (39, aI ((((List.map e_api_Value (a1.fValues)).length : Nat) : Int))), (40, aI (v1_0))], []⟩
theorem event_valid_l1_o {n N : Nat} {a1 : T_api_Event} {x2 : T_api_Schema} {k1_0_0 : Option (Int)} {R : Exit → AS → Prop} {K : List KItem} {c : Code} {σ : AS} {v0 : Int} {r : Int} (hF : F_event_valid_l1 n a1 x2 k1_0_0 N v0 = some r) (hl : LeX E0 59 σ (S_event_valid_l1 a1 x2 v0)) (round : ∀ m v, F_event_valid_l1 n a1 x2 k1_0_0 (m + 1) v = some r → AW E0 59 (thenA (fun σ' => ∃ v', F_event_valid_l1 n a1 x2 k1_0_0 m v' = some r ∧ LeX E0 59 σ' (S_event_valid_l1 a1 x2 v')) (AW E0 59 R K)) [.code c] .normal (S_event_valid_l1 a1 x2 v)) : LoopX E0 59 (fun next σ' => AW E0 59 (thenA next (AW E0 59 R K)) [.code c] .normal σ') σ :=
  LoopA.o (S := S_event_valid_l1 a1 x2) hF (fun _ => rfl) hl round
def R_event_valid (r : Int) : AV := aI (r)
theorem con_event_valid {n : Nat} {a0 : (List T_api_Schema)} {a1 : T_api_Event} {r : Int} (hF : F_event_valid n a0 a1 = some r) : Con E0 true 29 [.sl 2 (List.map e_api_Schema (a0)), .agg [aI (a1.fSource), aI (a1.fSeq), aI (a1.fType), aI (a1.fTime), .sl 3 (List.map e_api_Value (a1.fValues))]] (R_event_valid r) := by
  unfold F_event_valid at hF
  refine Con.walk _ Try.func29 rfl (enters_of Try.func29 rfl rfl) rfl (Or.inr rfl) ?_
  repeat' first
    | (refine AW.step ?_; conv => whnf)
    | (refine CondX.o hF (fun hF => ?_) (fun hF => ?_))
    | (refine CondX.t ?_)
    | (refine CondX.f ?_)
    | (refine CallX.o hF R_event_numbers (fun a h => con_event_numbers h) (fun a hF => ?_))
    | (refine IdxX.o e_api_Schema hF (fun x hF => ?_))
    | (refine IdxX.o e_api_Value hF (fun x hF => ?_))
    | (refine CallX.o hF R_value_Check (fun a h => con_value_Check h) (fun a hF => ?_))
    | (refine IdxX.o e_api_Field hF (fun x hF => ?_))
    | (exact ⟨_, hF, LeX.of [] rfl ⟨⟨rfl, rfl⟩, ⟨rfl, rfl⟩, ⟨rfl, rfl⟩, ⟨rfl, rfl⟩, trivial⟩ trivial⟩)
    | (refine event_valid_l1_o hF (LeX.of [] rfl ⟨⟨rfl, rfl⟩, ⟨rfl, rfl⟩, ⟨rfl, rfl⟩, ⟨rfl, rfl⟩, trivial⟩ trivial) (fun m v hF => ?_); unfold F_event_valid_l1 at hF)
    | (refine And.intro ⟨by kernel_rfl, by kernel_rfl⟩ ?_)
    | (refine EqX.mk (by first | rfl | kernel_rfl) ?_)
    | (exact RetX.o hF (by repeat' first | exact Sub.nil _ | exact Sub.refl _ | refine Sub.agg ?_ | refine Sub.tup ?_ | refine Sub.fn ?_ | exact SubL.nil | refine SubL.cons ?_ ?_ | refine Sub.sl _ ?_ | exact SubE.nil | refine SubE.cons ?_ ?_))

def R_event_Check (r : Int) : AV := aI (r)
theorem con_event_Check {n : Nat} {a0 : (List T_api_Schema)} {a1 : T_api_Event} {r : Int} (hF : F_event_Check n a0 a1 = some r) : Con E0 true 16 [.sl 2 (List.map e_api_Schema (a0)), .agg [aI (a1.fSource), aI (a1.fSeq), aI (a1.fType), aI (a1.fTime), .sl 3 (List.map e_api_Value (a1.fValues))]] (R_event_Check r) := by
  unfold F_event_Check at hF
  refine Con.walk _ Try.func16 rfl (enters_of Try.func16 rfl rfl) rfl (Or.inr rfl) ?_
  repeat' first
    | (refine AW.step ?_; conv => whnf)
    | (refine CondX.o hF (fun hF => ?_) (fun hF => ?_))
    | (refine CondX.t ?_)
    | (refine CondX.f ?_)
    | (refine CallX.o hF R_schema_CheckAll (fun a h => con_schema_CheckAll h) (fun a hF => ?_))
    | (refine CallX.o hF R_event_valid (fun a h => con_event_valid h) (fun a hF => ?_))
    | (refine And.intro ⟨by kernel_rfl, by kernel_rfl⟩ ?_)
    | (refine EqX.mk (by first | rfl | kernel_rfl) ?_)
    | (exact RetX.o hF (by repeat' first | exact Sub.nil _ | exact Sub.refl _ | refine Sub.agg ?_ | refine Sub.tup ?_ | refine Sub.fn ?_ | exact SubL.nil | refine SubL.cons ?_ ?_ | refine Sub.sl _ ?_ | exact SubE.nil | refine SubE.cons ?_ ?_))

def S_event_Key_l1 (a2 : T_api_Event) (a1 : (List Int)) (a0 : (List T_api_Schema)) (v1_0 : Int) : AS := ⟨[(0, .sl 2 (List.map e_api_Schema (a0))), (1, .sl 1 (List.map aI (a1))), (5, .ptr 5 0), (6, .ptr 6 0), (30, .sl 1 (List.map aI (a1))), (31, aI ((((List.map aI (a1)).length : Nat) : Int))), (32, aI (v1_0))], [(5, .box 24 [aI (a2.fSource), aI (a2.fSeq), aI (a2.fType), aI (a2.fTime), .sl 3 (List.map e_api_Value (a2.fValues))]), (6, .box 36 [aI (0), aI (0), .str (ByteArray.empty)])]⟩
theorem event_Key_l1_o {n N : Nat} {a2 : T_api_Event} {a1 : (List Int)} {a0 : (List T_api_Schema)} {k1_0_0 : Option (T_api_Value × Bool × Int)} {R : Exit → AS → Prop} {K : List KItem} {c : Code} {σ : AS} {v0 : Int} {r : T_api_Value × Bool × Int} (hF : F_event_Key_l1 n a2 a1 a0 k1_0_0 N v0 = some r) (hl : LeX E0 64 σ (S_event_Key_l1 a2 a1 a0 v0)) (round : ∀ m v, F_event_Key_l1 n a2 a1 a0 k1_0_0 (m + 1) v = some r → AW E0 64 (thenA (fun σ' => ∃ v', F_event_Key_l1 n a2 a1 a0 k1_0_0 m v' = some r ∧ LeX E0 64 σ' (S_event_Key_l1 a2 a1 a0 v')) (AW E0 64 R K)) [.code c] .normal (S_event_Key_l1 a2 a1 a0 v)) : LoopX E0 64 (fun next σ' => AW E0 64 (thenA next (AW E0 64 R K)) [.code c] .normal σ') σ :=
  LoopA.o (S := S_event_Key_l1 a2 a1 a0) hF (fun _ => rfl) hl round
def R_event_Key (r : T_api_Value × Bool × Int) : AV := .tup [.agg [aI (r.1.fKind), aI (r.1.fNum), .str (r.1.fText)], .bool (r.2.1), aI (r.2.2)]
theorem con_event_Key {n : Nat} {a0 : (List T_api_Schema)} {a1 : (List Int)} {a2 : T_api_Event} {r : T_api_Value × Bool × Int} (hF : F_event_Key n a0 a1 a2 = some r) : Con E0 true 17 [.sl 2 (List.map e_api_Schema (a0)), .sl 1 (List.map aI (a1)), .agg [aI (a2.fSource), aI (a2.fSeq), aI (a2.fType), aI (a2.fTime), .sl 3 (List.map e_api_Value (a2.fValues))]] (R_event_Key r) := by
  unfold F_event_Key at hF
  refine Con.walk _ Try.func17 rfl (enters_of Try.func17 rfl rfl) rfl (Or.inr rfl) ?_
  repeat' first
    | (refine AW.step ?_; conv => whnf)
    | (refine CondX.o hF (fun hF => ?_) (fun hF => ?_))
    | (refine CondX.t ?_)
    | (refine CondX.f ?_)
    | (refine CallX.o hF R_event_Check (fun a h => con_event_Check h) (fun a hF => ?_))
    | (refine IdxX.o aI hF (fun x hF => ?_))
    | (refine IdxX.o e_api_Value hF (fun x hF => ?_))
    | (refine IdxX.o e_api_Schema hF (fun x hF => ?_))
    | (exact ⟨_, hF, LeX.of [] rfl ⟨⟨rfl, rfl⟩, ⟨rfl, rfl⟩, ⟨rfl, rfl⟩, ⟨rfl, rfl⟩, ⟨rfl, rfl⟩, ⟨rfl, rfl⟩, ⟨rfl, rfl⟩, trivial⟩ ⟨⟨rfl, rfl⟩, ⟨rfl, rfl⟩, trivial⟩⟩)
    | (refine event_Key_l1_o hF (LeX.of [] rfl ⟨⟨rfl, rfl⟩, ⟨rfl, rfl⟩, ⟨rfl, rfl⟩, ⟨rfl, rfl⟩, ⟨rfl, rfl⟩, ⟨rfl, rfl⟩, ⟨rfl, rfl⟩, trivial⟩ ⟨⟨rfl, rfl⟩, ⟨rfl, rfl⟩, trivial⟩) (fun m v hF => ?_); unfold F_event_Key_l1 at hF)
    | (refine And.intro ⟨by kernel_rfl, by kernel_rfl⟩ ?_)
    | (refine EqX.mk (by first | rfl | kernel_rfl) ?_)
    | (exact RetX.o hF (by repeat' first | exact Sub.nil _ | exact Sub.refl _ | refine Sub.agg ?_ | refine Sub.tup ?_ | refine Sub.fn ?_ | exact SubL.nil | refine SubL.cons ?_ ?_ | refine Sub.sl _ ?_ | exact SubE.nil | refine SubE.cons ?_ ?_))

def R_keygroup_Group (r : Int × Int) : AV := .tup [aI (r.1), aI (r.2)]
theorem con_keygroup_Group {n : Nat} {a0 : T_api_Value} {r : Int × Int} (hF : F_keygroup_Group n a0 = some r) : Con E0 true 18 [.agg [aI (a0.fKind), aI (a0.fNum), .str (a0.fText)]] (R_keygroup_Group r) := by
  unfold F_keygroup_Group at hF
  refine Con.walk _ Try.func18 rfl (enters_of Try.func18 rfl rfl) rfl (Or.inr rfl) ?_
  repeat' first
    | (refine AW.step ?_; conv => whnf)
    | (refine CondX.o hF (fun hF => ?_) (fun hF => ?_))
    | (refine CondX.t ?_)
    | (refine CondX.f ?_)
    | (refine CallX.o hF R_value_Hash (fun a h => con_value_Hash h) (fun a hF => ?_))
    | (refine NzX.o hF (fun hF => ?_))
    | (refine And.intro ⟨by kernel_rfl, by kernel_rfl⟩ ?_)
    | (refine EqX.mk (by first | rfl | kernel_rfl) ?_)
    | (exact RetX.o hF (by repeat' first | exact Sub.nil _ | exact Sub.refl _ | refine Sub.agg ?_ | refine Sub.tup ?_ | refine Sub.fn ?_ | exact SubL.nil | refine SubL.cons ?_ ?_ | refine Sub.sl _ ?_ | exact SubE.nil | refine SubE.cons ?_ ?_))

def R_keygroup_number (r : Bool) : AV := .bool (r)
theorem con_keygroup_number {n : Nat} {a0 : Int} {r : Bool} (hF : F_keygroup_number n a0 = some r) : Con E0 true 32 [aI (a0)] (R_keygroup_number r) := by
  unfold F_keygroup_number at hF
  refine Con.walk _ Try.func32 rfl (enters_of Try.func32 rfl rfl) rfl (Or.inr rfl) ?_
  repeat' first
    | (refine AW.step ?_; conv => whnf)
    | (refine CondX.o hF (fun hF => ?_) (fun hF => ?_))
    | (refine CondX.t ?_)
    | (refine CondX.f ?_)
    | (refine And.intro ⟨by kernel_rfl, by kernel_rfl⟩ ?_)
    | (refine EqX.mk (by first | rfl | kernel_rfl) ?_)
    | (exact RetX.o hF (by repeat' first | exact Sub.nil _ | exact Sub.refl _ | refine Sub.agg ?_ | refine Sub.tup ?_ | refine Sub.fn ?_ | exact SubL.nil | refine SubL.cons ?_ ?_ | refine Sub.sl _ ?_ | exact SubE.nil | refine SubE.cons ?_ ?_))

def S_keygroup_allowed_l1 (a0 : (List Bool)) (v1_0 : Int) : AS := ⟨[(5, .sl 1 (List.map AV.bool (a0))), (6, aI ((((List.map AV.bool (a0)).length : Nat) : Int))), (7, aI (v1_0))], []⟩
theorem keygroup_allowed_l1_o {n N : Nat} {a0 : (List Bool)} {k1_0_0 : Option (Int)} {R : Exit → AS → Prop} {K : List KItem} {c : Code} {σ : AS} {v0 : Int} {r : Int} (hF : F_keygroup_allowed_l1 n a0 k1_0_0 N v0 = some r) (hl : LeX E0 14 σ (S_keygroup_allowed_l1 a0 v0)) (round : ∀ m v, F_keygroup_allowed_l1 n a0 k1_0_0 (m + 1) v = some r → AW E0 14 (thenA (fun σ' => ∃ v', F_keygroup_allowed_l1 n a0 k1_0_0 m v' = some r ∧ LeX E0 14 σ' (S_keygroup_allowed_l1 a0 v')) (AW E0 14 R K)) [.code c] .normal (S_keygroup_allowed_l1 a0 v)) : LoopX E0 14 (fun next σ' => AW E0 14 (thenA next (AW E0 14 R K)) [.code c] .normal σ') σ :=
  LoopA.o (S := S_keygroup_allowed_l1 a0) hF (fun _ => rfl) hl round
def R_keygroup_allowed (r : Int) : AV := aI (r)
theorem con_keygroup_allowed {n : Nat} {a0 : (List Bool)} {r : Int} (hF : F_keygroup_allowed n a0 = some r) : Con E0 true 31 [.sl 1 (List.map AV.bool (a0))] (R_keygroup_allowed r) := by
  unfold F_keygroup_allowed at hF
  refine Con.walk _ Try.func31 rfl (enters_of Try.func31 rfl rfl) rfl (Or.inr rfl) ?_
  repeat' first
    | (refine AW.step ?_; conv => whnf)
    | (refine CondX.o hF (fun hF => ?_) (fun hF => ?_))
    | (refine CondX.t ?_)
    | (refine CondX.f ?_)
    | (refine IdxX.o AV.bool hF (fun x hF => ?_))
    | (exact ⟨_, hF, LeX.of [] rfl ⟨⟨rfl, rfl⟩, ⟨rfl, rfl⟩, ⟨rfl, rfl⟩, trivial⟩ trivial⟩)
    | (refine keygroup_allowed_l1_o hF (LeX.of [] rfl ⟨⟨rfl, rfl⟩, ⟨rfl, rfl⟩, ⟨rfl, rfl⟩, trivial⟩ trivial) (fun m v hF => ?_); unfold F_keygroup_allowed_l1 at hF)
    | (refine And.intro ⟨by kernel_rfl, by kernel_rfl⟩ ?_)
    | (refine EqX.mk (by first | rfl | kernel_rfl) ?_)
    | (exact RetX.o hF (by repeat' first | exact Sub.nil _ | exact Sub.refl _ | refine Sub.agg ?_ | refine Sub.tup ?_ | refine Sub.fn ?_ | exact SubL.nil | refine SubL.cons ?_ ?_ | refine Sub.sl _ ?_ | exact SubE.nil | refine SubE.cons ?_ ?_))

def R_keygroup_owner (r : Int) : AV := aI (r)
theorem con_keygroup_owner {n : Nat} {a0 : Int} {a1 : Int} {r : Int} (hF : F_keygroup_owner n a0 a1 = some r) : Con E0 true 33 [aI (a0), aI (a1)] (R_keygroup_owner r) := by
  unfold F_keygroup_owner at hF
  refine Con.walk _ Try.func33 rfl (enters_of Try.func33 rfl rfl) rfl (Or.inr rfl) ?_
  repeat' first
    | (refine AW.step ?_; conv => whnf)
    | (refine CondX.o hF (fun hF => ?_) (fun hF => ?_))
    | (refine CondX.t ?_)
    | (refine CondX.f ?_)
    | (refine NzX.o hF (fun hF => ?_))
    | (refine And.intro ⟨by kernel_rfl, by kernel_rfl⟩ ?_)
    | (refine EqX.mk (by first | rfl | kernel_rfl) ?_)
    | (exact RetX.o hF (by repeat' first | exact Sub.nil _ | exact Sub.refl _ | refine Sub.agg ?_ | refine Sub.tup ?_ | refine Sub.fn ?_ | exact SubL.nil | refine SubL.cons ?_ ?_ | refine Sub.sl _ ?_ | exact SubE.nil | refine SubE.cons ?_ ?_))

def R_keygroup_Worker (r : Int × Int) : AV := .tup [aI (r.1), aI (r.2)]
theorem con_keygroup_Worker {n : Nat} {a0 : Int} {a1 : Int} {r : Int × Int} (hF : F_keygroup_Worker n a0 a1 = some r) : Con E0 true 19 [aI (a0), aI (a1)] (R_keygroup_Worker r) := by
  unfold F_keygroup_Worker at hF
  refine Con.walk _ Try.func19 rfl (enters_of Try.func19 rfl rfl) rfl (Or.inr rfl) ?_
  repeat' first
    | (refine AW.step ?_; conv => whnf)
    | (refine CondX.o hF (fun hF => ?_) (fun hF => ?_))
    | (refine CondX.t ?_)
    | (refine CondX.f ?_)
    | (refine CallX.o hF R_keygroup_number (fun a h => con_keygroup_number h) (fun a hF => ?_))
    | (refine CallX.o hF R_keygroup_allowed (fun a h => con_keygroup_allowed h) (fun a hF => ?_))
    | (refine CallX.o hF R_keygroup_owner (fun a h => con_keygroup_owner h) (fun a hF => ?_))
    | (refine And.intro ⟨by kernel_rfl, by kernel_rfl⟩ ?_)
    | (refine EqX.mk (by first | rfl | kernel_rfl) ?_)
    | (exact RetX.o hF (by repeat' first | exact Sub.nil _ | exact Sub.refl _ | refine Sub.agg ?_ | refine Sub.tup ?_ | refine Sub.fn ?_ | exact SubL.nil | refine SubL.cons ?_ ?_ | refine Sub.sl _ ?_ | exact SubE.nil | refine SubE.cons ?_ ?_))

def R_cmp_isNaN (r : Bool) : AV := .bool (r)
theorem con_cmp_isNaN {n : Nat} {a0 : Int} {r : Bool} (hF : F_cmp_isNaN n a0 = some r) : Con E0 true 52 [aI (a0)] (R_cmp_isNaN r) := by
  unfold F_cmp_isNaN at hF
  refine Con.walk _ Try.func52 rfl (enters_of Try.func52 rfl rfl) rfl (Or.inr rfl) ?_
  repeat' first
    | (refine AW.step ?_; conv => whnf)
    | (refine CondX.o hF (fun hF => ?_) (fun hF => ?_))
    | (refine CondX.t ?_)
    | (refine CondX.f ?_)
    | (refine And.intro ⟨by kernel_rfl, by kernel_rfl⟩ ?_)
    | (refine EqX.mk (by first | rfl | kernel_rfl) ?_)
    | (exact RetX.o hF (by repeat' first | exact Sub.nil _ | exact Sub.refl _ | refine Sub.agg ?_ | refine Sub.tup ?_ | refine Sub.fn ?_ | exact SubL.nil | refine SubL.cons ?_ ?_ | refine Sub.sl _ ?_ | exact SubE.nil | refine SubE.cons ?_ ?_))

def R_cmp_Compare (r : Int) : AV := aI (r)
theorem con_cmp_Compare {n : Nat} {a0 : Int} {a1 : Int} {r : Int} (hF : F_cmp_Compare n a0 a1 = some r) : Con E0 true 42 [aI (a0), aI (a1)] (R_cmp_Compare r) := by
  unfold F_cmp_Compare at hF
  refine Con.walk _ Try.func42 rfl (enters_of Try.func42 rfl rfl) rfl (Or.inr rfl) ?_
  repeat' first
    | (refine AW.step ?_; conv => whnf)
    | (refine CondX.o hF (fun hF => ?_) (fun hF => ?_))
    | (refine CondX.t ?_)
    | (refine CondX.f ?_)
    | (refine CallX.o hF R_cmp_isNaN (fun a h => con_cmp_isNaN h) (fun a hF => ?_))
    | (refine And.intro ⟨by kernel_rfl, by kernel_rfl⟩ ?_)
    | (refine EqX.mk (by first | rfl | kernel_rfl) ?_)
    | (exact RetX.o hF (by repeat' first | exact Sub.nil _ | exact Sub.refl _ | refine Sub.agg ?_ | refine Sub.tup ?_ | refine Sub.fn ?_ | exact SubL.nil | refine SubL.cons ?_ ?_ | refine Sub.sl _ ?_ | exact SubE.nil | refine SubE.cons ?_ ?_))

def S_cmp_Or_l1 (a0 : (List Int)) (v1_0 : Int) : AS := ⟨[(3, aI (0)), (6, .sl 1 (List.map aI (a0))), (7, aI ((((List.map aI (a0)).length : Nat) : Int))), (8, aI (v1_0))], []⟩
theorem cmp_Or_l1_o {n N : Nat} {a0 : (List Int)} {k1_0_0 : Option (Int)} {R : Exit → AS → Prop} {K : List KItem} {c : Code} {σ : AS} {v0 : Int} {r : Int} (hF : F_cmp_Or_l1 n a0 k1_0_0 N v0 = some r) (hl : LeX E0 18 σ (S_cmp_Or_l1 a0 v0)) (round : ∀ m v, F_cmp_Or_l1 n a0 k1_0_0 (m + 1) v = some r → AW E0 18 (thenA (fun σ' => ∃ v', F_cmp_Or_l1 n a0 k1_0_0 m v' = some r ∧ LeX E0 18 σ' (S_cmp_Or_l1 a0 v')) (AW E0 18 R K)) [.code c] .normal (S_cmp_Or_l1 a0 v)) : LoopX E0 18 (fun next σ' => AW E0 18 (thenA next (AW E0 18 R K)) [.code c] .normal σ') σ :=
  LoopA.o (S := S_cmp_Or_l1 a0) hF (fun _ => rfl) hl round
def R_cmp_Or (r : Int) : AV := aI (r)
theorem con_cmp_Or {n : Nat} {a0 : (List Int)} {r : Int} (hF : F_cmp_Or n a0 = some r) : Con E0 true 41 [.sl 1 (List.map aI (a0))] (R_cmp_Or r) := by
  unfold F_cmp_Or at hF
  refine Con.walk _ Try.func41 rfl (enters_of Try.func41 rfl rfl) rfl (Or.inr rfl) ?_
  repeat' first
    | (refine AW.step ?_; conv => whnf)
    | (refine CondX.o hF (fun hF => ?_) (fun hF => ?_))
    | (refine CondX.t ?_)
    | (refine CondX.f ?_)
    | (refine IdxX.o aI hF (fun x hF => ?_))
    | (exact ⟨_, hF, LeX.of [] rfl ⟨⟨rfl, rfl⟩, ⟨rfl, rfl⟩, ⟨rfl, rfl⟩, ⟨rfl, rfl⟩, trivial⟩ trivial⟩)
    | (refine cmp_Or_l1_o hF (LeX.of [] rfl ⟨⟨rfl, rfl⟩, ⟨rfl, rfl⟩, ⟨rfl, rfl⟩, ⟨rfl, rfl⟩, trivial⟩ trivial) (fun m v hF => ?_); unfold F_cmp_Or_l1 at hF)
    | (refine And.intro ⟨by kernel_rfl, by kernel_rfl⟩ ?_)
    | (refine EqX.mk (by first | rfl | kernel_rfl) ?_)
    | (exact RetX.o hF (by repeat' first | exact Sub.nil _ | exact Sub.refl _ | refine Sub.agg ?_ | refine Sub.tup ?_ | refine Sub.fn ?_ | exact SubL.nil | refine SubL.cons ?_ ?_ | refine Sub.sl _ ?_ | exact SubE.nil | refine SubE.cons ?_ ?_))

def R_channel_order (r : Int) : AV := aI (r)
theorem con_channel_order {n : Nat} {a0 : T_api_Queue} {a1 : T_api_Queue} {r : Int} (hF : F_channel_order n a0 a1 = some r) : Con E0 true 27 [.agg [aI (a0.fFrom), aI (a0.fTo), .sl 7 (List.map e_api_Item (a0.fItems))], .agg [aI (a1.fFrom), aI (a1.fTo), .sl 7 (List.map e_api_Item (a1.fItems))]] (R_channel_order r) := by
  unfold F_channel_order at hF
  refine Con.walk _ Try.func27 rfl (enters_of Try.func27 rfl rfl) rfl (Or.inr rfl) ?_
  repeat' first
    | (refine AW.step ?_; conv => whnf)
    | (refine CondX.o hF (fun hF => ?_) (fun hF => ?_))
    | (refine CondX.t ?_)
    | (refine CondX.f ?_)
    | (refine CallX.o hF R_cmp_Compare (fun a h => con_cmp_Compare h) (fun a hF => ?_))
    | (refine CallX.o hF R_cmp_Or (fun a h => con_cmp_Or h) (fun a hF => ?_))
    | (refine And.intro ⟨by kernel_rfl, by kernel_rfl⟩ ?_)
    | (refine EqX.mk (by first | rfl | kernel_rfl) ?_)
    | (exact RetX.o hF (by repeat' first | exact Sub.nil _ | exact Sub.refl _ | refine Sub.agg ?_ | refine Sub.tup ?_ | refine Sub.fn ?_ | exact SubL.nil | refine SubL.cons ?_ ?_ | refine Sub.sl _ ?_ | exact SubE.nil | refine SubE.cons ?_ ?_))

def R_channel_empty (r : Bool) : AV := .bool (r)
theorem con_channel_empty {n : Nat} {a0 : T_api_Event} {r : Bool} (hF : F_channel_empty n a0 = some r) : Con E0 true 53 [.agg [aI (a0.fSource), aI (a0.fSeq), aI (a0.fType), aI (a0.fTime), .sl 3 (List.map e_api_Value (a0.fValues))]] (R_channel_empty r) := by
  unfold F_channel_empty at hF
  refine Con.walk _ Try.func53 rfl (enters_of Try.func53 rfl rfl) rfl (Or.inr rfl) ?_
  repeat' first
    | (refine AW.step ?_; conv => whnf)
    | (refine CondX.o hF (fun hF => ?_) (fun hF => ?_))
    | (refine CondX.t ?_)
    | (refine CondX.f ?_)
    | (refine And.intro ⟨by kernel_rfl, by kernel_rfl⟩ ?_)
    | (refine EqX.mk (by first | rfl | kernel_rfl) ?_)
    | (exact RetX.o hF (by repeat' first | exact Sub.nil _ | exact Sub.refl _ | refine Sub.agg ?_ | refine Sub.tup ?_ | refine Sub.fn ?_ | exact SubL.nil | refine SubL.cons ?_ ?_ | refine Sub.sl _ ?_ | exact SubE.nil | refine SubE.cons ?_ ?_))

def R_channel_item (r : Int) : AV := aI (r)
theorem con_channel_item {n : Nat} {a0 : T_api_Item} {r : Int} (hF : F_channel_item n a0 = some r) : Con E0 true 43 [.agg [aI (a0.fKind), aI (a0.fEvent.fSource), aI (a0.fEvent.fSeq), aI (a0.fEvent.fType), aI (a0.fEvent.fTime), .sl 3 (List.map e_api_Value (a0.fEvent.fValues)), aI (a0.fNumber)]] (R_channel_item r) := by
  unfold F_channel_item at hF
  refine Con.walk _ Try.func43 rfl (enters_of Try.func43 rfl rfl) rfl (Or.inr rfl) ?_
  repeat' first
    | (refine AW.step ?_; conv => whnf)
    | (refine CondX.o hF (fun hF => ?_) (fun hF => ?_))
    | (refine CondX.t ?_)
    | (refine CondX.f ?_)
    | (refine CallX.o hF R_channel_empty (fun a h => con_channel_empty h) (fun a hF => ?_))
    | (refine And.intro ⟨by kernel_rfl, by kernel_rfl⟩ ?_)
    | (refine EqX.mk (by first | rfl | kernel_rfl) ?_)
    | (exact RetX.o hF (by repeat' first | exact Sub.nil _ | exact Sub.refl _ | refine Sub.agg ?_ | refine Sub.tup ?_ | refine Sub.fn ?_ | exact SubL.nil | refine SubL.cons ?_ ?_ | refine Sub.sl _ ?_ | exact SubE.nil | refine SubE.cons ?_ ?_))

def S_channel_items_l1 (a0 : (List T_api_Item)) (v1_0 : Int) : AS := ⟨[(6, .sl 7 (List.map e_api_Item (a0))), (7, aI ((((List.map e_api_Item (a0)).length : Nat) : Int))), (8, aI (v1_0))], []⟩
theorem channel_items_l1_o {n N : Nat} {a0 : (List T_api_Item)} {k1_0_0 : Option (Int)} {R : Exit → AS → Prop} {K : List KItem} {c : Code} {σ : AS} {v0 : Int} {r : Int} (hF : F_channel_items_l1 n a0 k1_0_0 N v0 = some r) (hl : LeX E0 18 σ (S_channel_items_l1 a0 v0)) (round : ∀ m v, F_channel_items_l1 n a0 k1_0_0 (m + 1) v = some r → AW E0 18 (thenA (fun σ' => ∃ v', F_channel_items_l1 n a0 k1_0_0 m v' = some r ∧ LeX E0 18 σ' (S_channel_items_l1 a0 v')) (AW E0 18 R K)) [.code c] .normal (S_channel_items_l1 a0 v)) : LoopX E0 18 (fun next σ' => AW E0 18 (thenA next (AW E0 18 R K)) [.code c] .normal σ') σ :=
  LoopA.o (S := S_channel_items_l1 a0) hF (fun _ => rfl) hl round
def R_channel_items (r : Int) : AV := aI (r)
theorem con_channel_items {n : Nat} {a0 : (List T_api_Item)} {r : Int} (hF : F_channel_items n a0 = some r) : Con E0 true 28 [.sl 7 (List.map e_api_Item (a0))] (R_channel_items r) := by
  unfold F_channel_items at hF
  refine Con.walk _ Try.func28 rfl (enters_of Try.func28 rfl rfl) rfl (Or.inr rfl) ?_
  repeat' first
    | (refine AW.step ?_; conv => whnf)
    | (refine CondX.o hF (fun hF => ?_) (fun hF => ?_))
    | (refine CondX.t ?_)
    | (refine CondX.f ?_)
    | (refine IdxX.o e_api_Item hF (fun x hF => ?_))
    | (refine CallX.o hF R_channel_item (fun a h => con_channel_item h) (fun a hF => ?_))
    | (exact ⟨_, hF, LeX.of [] rfl ⟨⟨rfl, rfl⟩, ⟨rfl, rfl⟩, ⟨rfl, rfl⟩, trivial⟩ trivial⟩)
    | (refine channel_items_l1_o hF (LeX.of [] rfl ⟨⟨rfl, rfl⟩, ⟨rfl, rfl⟩, ⟨rfl, rfl⟩, trivial⟩ trivial) (fun m v hF => ?_); unfold F_channel_items_l1 at hF)
    | (refine And.intro ⟨by kernel_rfl, by kernel_rfl⟩ ?_)
    | (refine EqX.mk (by first | rfl | kernel_rfl) ?_)
    | (exact RetX.o hF (by repeat' first | exact Sub.nil _ | exact Sub.refl _ | refine Sub.agg ?_ | refine Sub.tup ?_ | refine Sub.fn ?_ | exact SubL.nil | refine SubL.cons ?_ ?_ | refine Sub.sl _ ?_ | exact SubE.nil | refine SubE.cons ?_ ?_))

def S_channel_Check_l1 (a0 : (List T_api_Queue)) (v1_0 : Int) : AS := ⟨[(0, .sl 3 (List.map e_api_Queue (a0))), (6, .sl 3 (List.map e_api_Queue (a0))), (7, aI ((((List.map e_api_Queue (a0)).length : Nat) : Int))), (8, aI (v1_0))], []⟩
theorem channel_Check_l1_o {n N : Nat} {a0 : (List T_api_Queue)} {k1_0_0 : Option (Int)} {R : Exit → AS → Prop} {K : List KItem} {c : Code} {σ : AS} {v0 : Int} {r : Int} (hF : F_channel_Check_l1 n a0 k1_0_0 N v0 = some r) (hl : LeX E0 57 σ (S_channel_Check_l1 a0 v0)) (round : ∀ m v, F_channel_Check_l1 n a0 k1_0_0 (m + 1) v = some r → AW E0 57 (thenA (fun σ' => ∃ v', F_channel_Check_l1 n a0 k1_0_0 m v' = some r ∧ LeX E0 57 σ' (S_channel_Check_l1 a0 v')) (AW E0 57 R K)) [.code c] .normal (S_channel_Check_l1 a0 v)) : LoopX E0 57 (fun next σ' => AW E0 57 (thenA next (AW E0 57 R K)) [.code c] .normal σ') σ :=
  LoopA.o (S := S_channel_Check_l1 a0) hF (fun _ => rfl) hl round
def R_channel_Check (r : Int) : AV := aI (r)
theorem con_channel_Check {n : Nat} {a0 : (List T_api_Queue)} {r : Int} (hF : F_channel_Check n a0 = some r) : Con E0 true 15 [.sl 3 (List.map e_api_Queue (a0))] (R_channel_Check r) := by
  unfold F_channel_Check at hF
  refine Con.walk _ Try.func15 rfl (enters_of Try.func15 rfl rfl) rfl (Or.inr rfl) ?_
  repeat' first
    | (refine AW.step ?_; conv => whnf)
    | (refine CondX.o hF (fun hF => ?_) (fun hF => ?_))
    | (refine CondX.t ?_)
    | (refine CondX.f ?_)
    | (refine IdxX.o e_api_Queue hF (fun x hF => ?_))
    | (refine CallX.o hF R_channel_order (fun a h => con_channel_order h) (fun a hF => ?_))
    | (refine CallX.o hF R_channel_items (fun a h => con_channel_items h) (fun a hF => ?_))
    | (exact ⟨_, hF, LeX.of [] rfl ⟨⟨rfl, rfl⟩, ⟨rfl, rfl⟩, ⟨rfl, rfl⟩, ⟨rfl, rfl⟩, trivial⟩ trivial⟩)
    | (refine channel_Check_l1_o hF (LeX.of [] rfl ⟨⟨rfl, rfl⟩, ⟨rfl, rfl⟩, ⟨rfl, rfl⟩, ⟨rfl, rfl⟩, trivial⟩ trivial) (fun m v hF => ?_); unfold F_channel_Check_l1 at hF)
    | (refine And.intro ⟨by kernel_rfl, by kernel_rfl⟩ ?_)
    | (refine EqX.mk (by first | rfl | kernel_rfl) ?_)
    | (exact RetX.o hF (by repeat' first | exact Sub.nil _ | exact Sub.refl _ | refine Sub.agg ?_ | refine Sub.tup ?_ | refine Sub.fn ?_ | exact SubL.nil | refine SubL.cons ?_ ?_ | refine Sub.sl _ ?_ | exact SubE.nil | refine SubE.cons ?_ ?_))

def S_tidegateref46_SameItem_l1 (a1 : T_api_Item) (a0 : T_api_Item) (v1_0 : Int) : AS := ⟨[(5, .ptr 5 0), (6, .ptr 6 0), (7, aI (v1_0))], [(5, .box 24 [aI (a0.fEvent.fSource), aI (a0.fEvent.fSeq), aI (a0.fEvent.fType), aI (a0.fEvent.fTime), .sl 3 (List.map e_api_Value (a0.fEvent.fValues))]), (6, .box 24 [aI (a1.fEvent.fSource), aI (a1.fEvent.fSeq), aI (a1.fEvent.fType), aI (a1.fEvent.fTime), .sl 3 (List.map e_api_Value (a1.fEvent.fValues))])]⟩
theorem tidegateref46_SameItem_l1_o {n N : Nat} {a1 : T_api_Item} {a0 : T_api_Item} {k1_0_0 : Option (Bool)} {R : Exit → AS → Prop} {K : List KItem} {c : Code} {σ : AS} {v0 : Int} {r : Bool} (hF : F_tidegateref46_SameItem_l1 n a1 a0 k1_0_0 N v0 = some r) (hl : LeX E0 79 σ (S_tidegateref46_SameItem_l1 a1 a0 v0)) (round : ∀ m v, F_tidegateref46_SameItem_l1 n a1 a0 k1_0_0 (m + 1) v = some r → AW E0 79 (thenA (fun σ' => ∃ v', F_tidegateref46_SameItem_l1 n a1 a0 k1_0_0 m v' = some r ∧ LeX E0 79 σ' (S_tidegateref46_SameItem_l1 a1 a0 v')) (AW E0 79 R K)) [.code c] .normal (S_tidegateref46_SameItem_l1 a1 a0 v)) : LoopX E0 79 (fun next σ' => AW E0 79 (thenA next (AW E0 79 R K)) [.code c] .normal σ') σ :=
  LoopA.o (S := S_tidegateref46_SameItem_l1 a1 a0) hF (fun _ => rfl) hl round
def R_tidegateref46_SameItem (r : Bool) : AV := .bool (r)
theorem con_tidegateref46_SameItem {n : Nat} {a0 : T_api_Item} {a1 : T_api_Item} {r : Bool} (hF : F_tidegateref46_SameItem n a0 a1 = some r) : Con E0 true 25 [.agg [aI (a0.fKind), aI (a0.fEvent.fSource), aI (a0.fEvent.fSeq), aI (a0.fEvent.fType), aI (a0.fEvent.fTime), .sl 3 (List.map e_api_Value (a0.fEvent.fValues)), aI (a0.fNumber)], .agg [aI (a1.fKind), aI (a1.fEvent.fSource), aI (a1.fEvent.fSeq), aI (a1.fEvent.fType), aI (a1.fEvent.fTime), .sl 3 (List.map e_api_Value (a1.fEvent.fValues)), aI (a1.fNumber)]] (R_tidegateref46_SameItem r) := by
  unfold F_tidegateref46_SameItem at hF
  refine Con.walk _ Try.func25 rfl (enters_of Try.func25 rfl rfl) rfl (Or.inr rfl) ?_
  repeat' first
    | (refine AW.step ?_; conv => whnf)
    | (refine CondX.o hF (fun hF => ?_) (fun hF => ?_))
    | (refine CondX.t ?_)
    | (refine CondX.f ?_)
    | (refine IdxX.o e_api_Value hF (fun x hF => ?_))
    | (exact ⟨_, hF, LeX.of [] rfl ⟨⟨rfl, rfl⟩, ⟨rfl, rfl⟩, ⟨rfl, rfl⟩, trivial⟩ ⟨⟨rfl, rfl⟩, ⟨rfl, rfl⟩, trivial⟩⟩)
    | (refine tidegateref46_SameItem_l1_o hF (LeX.of [] rfl ⟨⟨rfl, rfl⟩, ⟨rfl, rfl⟩, ⟨rfl, rfl⟩, trivial⟩ ⟨⟨rfl, rfl⟩, ⟨rfl, rfl⟩, trivial⟩) (fun m v hF => ?_); unfold F_tidegateref46_SameItem_l1 at hF)
    | (refine And.intro ⟨by kernel_rfl, by kernel_rfl⟩ ?_)
    | (refine EqX.mk (by first | rfl | kernel_rfl) ?_)
    | (exact RetX.o hF (by repeat' first | exact Sub.nil _ | exact Sub.refl _ | refine Sub.agg ?_ | refine Sub.tup ?_ | refine Sub.fn ?_ | exact SubL.nil | refine SubL.cons ?_ ?_ | refine Sub.sl _ ?_ | exact SubE.nil | refine SubE.cons ?_ ?_))

def S_tidegateref46_SameItems_l1 (a1 : (List T_api_Item)) (a0 : (List T_api_Item)) (v1_0 : Int) : AS := ⟨[(0, .sl 7 (List.map e_api_Item (a0))), (1, .sl 7 (List.map e_api_Item (a1))), (5, aI (v1_0))], []⟩
theorem tidegateref46_SameItems_l1_o {n N : Nat} {a1 : (List T_api_Item)} {a0 : (List T_api_Item)} {k1_0_0 : Option (Bool)} {R : Exit → AS → Prop} {K : List KItem} {c : Code} {σ : AS} {v0 : Int} {r : Bool} (hF : F_tidegateref46_SameItems_l1 n a1 a0 k1_0_0 N v0 = some r) (hl : LeX E0 27 σ (S_tidegateref46_SameItems_l1 a1 a0 v0)) (round : ∀ m v, F_tidegateref46_SameItems_l1 n a1 a0 k1_0_0 (m + 1) v = some r → AW E0 27 (thenA (fun σ' => ∃ v', F_tidegateref46_SameItems_l1 n a1 a0 k1_0_0 m v' = some r ∧ LeX E0 27 σ' (S_tidegateref46_SameItems_l1 a1 a0 v')) (AW E0 27 R K)) [.code c] .normal (S_tidegateref46_SameItems_l1 a1 a0 v)) : LoopX E0 27 (fun next σ' => AW E0 27 (thenA next (AW E0 27 R K)) [.code c] .normal σ') σ :=
  LoopA.o (S := S_tidegateref46_SameItems_l1 a1 a0) hF (fun _ => rfl) hl round
def R_tidegateref46_SameItems (r : Bool) : AV := .bool (r)
theorem con_tidegateref46_SameItems {n : Nat} {a0 : (List T_api_Item)} {a1 : (List T_api_Item)} {r : Bool} (hF : F_tidegateref46_SameItems n a0 a1 = some r) : Con E0 true 12 [.sl 7 (List.map e_api_Item (a0)), .sl 7 (List.map e_api_Item (a1))] (R_tidegateref46_SameItems r) := by
  unfold F_tidegateref46_SameItems at hF
  refine Con.walk _ Try.func12 rfl (enters_of Try.func12 rfl rfl) rfl (Or.inr rfl) ?_
  repeat' first
    | (refine AW.step ?_; conv => whnf)
    | (refine CondX.o hF (fun hF => ?_) (fun hF => ?_))
    | (refine CondX.t ?_)
    | (refine CondX.f ?_)
    | (refine IdxX.o e_api_Item hF (fun x hF => ?_))
    | (refine CallX.o hF R_tidegateref46_SameItem (fun a h => con_tidegateref46_SameItem h) (fun a hF => ?_))
    | (exact ⟨_, hF, LeX.of [] rfl ⟨⟨rfl, rfl⟩, ⟨rfl, rfl⟩, ⟨rfl, rfl⟩, trivial⟩ trivial⟩)
    | (refine tidegateref46_SameItems_l1_o hF (LeX.of [] rfl ⟨⟨rfl, rfl⟩, ⟨rfl, rfl⟩, ⟨rfl, rfl⟩, trivial⟩ trivial) (fun m v hF => ?_); unfold F_tidegateref46_SameItems_l1 at hF)
    | (refine And.intro ⟨by kernel_rfl, by kernel_rfl⟩ ?_)
    | (refine EqX.mk (by first | rfl | kernel_rfl) ?_)
    | (exact RetX.o hF (by repeat' first | exact Sub.nil _ | exact Sub.refl _ | refine Sub.agg ?_ | refine Sub.tup ?_ | refine Sub.fn ?_ | exact SubL.nil | refine SubL.cons ?_ ?_ | refine Sub.sl _ ?_ | exact SubE.nil | refine SubE.cons ?_ ?_))

def S_tidegateref34_SameInts_l1 (a1 : (List Int)) (a0 : (List Int)) (v1_0 : Int) : AS := ⟨[(0, .sl 1 (List.map aI (a0))), (1, .sl 1 (List.map aI (a1))), (5, aI (v1_0))], []⟩
theorem tidegateref34_SameInts_l1_o {n N : Nat} {a1 : (List Int)} {a0 : (List Int)} {k1_0_0 : Option (Bool)} {R : Exit → AS → Prop} {K : List KItem} {c : Code} {σ : AS} {v0 : Int} {r : Bool} (hF : F_tidegateref34_SameInts_l1 n a1 a0 k1_0_0 N v0 = some r) (hl : LeX E0 26 σ (S_tidegateref34_SameInts_l1 a1 a0 v0)) (round : ∀ m v, F_tidegateref34_SameInts_l1 n a1 a0 k1_0_0 (m + 1) v = some r → AW E0 26 (thenA (fun σ' => ∃ v', F_tidegateref34_SameInts_l1 n a1 a0 k1_0_0 m v' = some r ∧ LeX E0 26 σ' (S_tidegateref34_SameInts_l1 a1 a0 v')) (AW E0 26 R K)) [.code c] .normal (S_tidegateref34_SameInts_l1 a1 a0 v)) : LoopX E0 26 (fun next σ' => AW E0 26 (thenA next (AW E0 26 R K)) [.code c] .normal σ') σ :=
  LoopA.o (S := S_tidegateref34_SameInts_l1 a1 a0) hF (fun _ => rfl) hl round
def R_tidegateref34_SameInts (r : Bool) : AV := .bool (r)
theorem con_tidegateref34_SameInts {n : Nat} {a0 : (List Int)} {a1 : (List Int)} {r : Bool} (hF : F_tidegateref34_SameInts n a0 a1 = some r) : Con E0 true 6 [.sl 1 (List.map aI (a0)), .sl 1 (List.map aI (a1))] (R_tidegateref34_SameInts r) := by
  unfold F_tidegateref34_SameInts at hF
  refine Con.walk _ Try.func6 rfl (enters_of Try.func6 rfl rfl) rfl (Or.inr rfl) ?_
  repeat' first
    | (refine AW.step ?_; conv => whnf)
    | (refine CondX.o hF (fun hF => ?_) (fun hF => ?_))
    | (refine CondX.t ?_)
    | (refine CondX.f ?_)
    | (refine IdxX.o aI hF (fun x hF => ?_))
    | (exact ⟨_, hF, LeX.of [] rfl ⟨⟨rfl, rfl⟩, ⟨rfl, rfl⟩, ⟨rfl, rfl⟩, trivial⟩ trivial⟩)
    | (refine tidegateref34_SameInts_l1_o hF (LeX.of [] rfl ⟨⟨rfl, rfl⟩, ⟨rfl, rfl⟩, ⟨rfl, rfl⟩, trivial⟩ trivial) (fun m v hF => ?_); unfold F_tidegateref34_SameInts_l1 at hF)
    | (refine And.intro ⟨by kernel_rfl, by kernel_rfl⟩ ?_)
    | (refine EqX.mk (by first | rfl | kernel_rfl) ?_)
    | (exact RetX.o hF (by repeat' first | exact Sub.nil _ | exact Sub.refl _ | refine Sub.agg ?_ | refine Sub.tup ?_ | refine Sub.fn ?_ | exact SubL.nil | refine SubL.cons ?_ ?_ | refine Sub.sl _ ?_ | exact SubE.nil | refine SubE.cons ?_ ?_))

def R_reader_Check (r : Int) : AV := aI (r)
theorem con_reader_Check {n : Nat} {a0 : T_api_Reader} {r : Int} (hF : F_reader_Check n a0 = some r) : Con E0 true 34 [.agg [aI (a0.fSource), aI (a0.fOffset), aI (a0.fTracker.next), .sl 1 (List.map aI (a0.fTracker.beyond)), .sl 2 (List.map aPt (a0.fTracker.points)), aI (a0.fTracker.mark)]] (R_reader_Check r) := by
  unfold F_reader_Check at hF
  refine Con.walk _ Try.func34 rfl (enters_of Try.func34 rfl rfl) rfl (Or.inr rfl) ?_
  repeat' first
    | (refine AW.step ?_; conv => whnf)
    | (refine CondX.o hF (fun hF => ?_) (fun hF => ?_))
    | (refine CondX.t ?_)
    | (refine CondX.f ?_)
    | (refine CallX.o hF R_puCheck (fun a h => con_puCheck h) (fun a hF => ?_))
    | (refine And.intro ⟨by kernel_rfl, by kernel_rfl⟩ ?_)
    | (refine EqX.mk (by first | rfl | kernel_rfl) ?_)
    | (exact RetX.o hF (by repeat' first | exact Sub.nil _ | exact Sub.refl _ | refine Sub.agg ?_ | refine Sub.tup ?_ | refine Sub.fn ?_ | exact SubL.nil | refine SubL.cons ?_ ?_ | refine Sub.sl _ ?_ | exact SubE.nil | refine SubE.cons ?_ ?_))

def R_reader_Begin (r : T_api_Reader × Int) : AV := .tup [.agg [aI (r.1.fSource), aI (r.1.fOffset), aI (r.1.fTracker.next), .sl 1 (List.map aI (r.1.fTracker.beyond)), .sl 2 (List.map aPt (r.1.fTracker.points)), aI (r.1.fTracker.mark)], aI (r.2)]
theorem con_reader_Begin {n : Nat} {a0 : Int} {r : T_api_Reader × Int} (hF : F_reader_Begin n a0 = some r) : Con E0 false 8 [aI (a0)] (R_reader_Begin r) := by
  unfold F_reader_Begin at hF
  refine Con.walk _ Try.func8 rfl (enters_of Try.func8 rfl rfl) rfl (Or.inl rfl) ?_
  repeat' first
    | (refine AW.step ?_; conv => whnf)
    | (refine CondX.o hF (fun hF => ?_) (fun hF => ?_))
    | (refine CondX.t ?_)
    | (refine CondX.f ?_)
    | (refine CallX.o hF R_sequence_Begin (fun a h => con_sequence_Begin h) (fun a hF => ?_))
    | (refine And.intro ⟨by kernel_rfl, by kernel_rfl⟩ ?_)
    | (refine EqX.mk (by first | rfl | kernel_rfl) ?_)
    | (exact RetX.o hF (by repeat' first | exact Sub.nil _ | exact Sub.refl _ | refine Sub.agg ?_ | refine Sub.tup ?_ | refine Sub.fn ?_ | exact SubL.nil | refine SubL.cons ?_ ?_ | refine Sub.sl _ ?_ | exact SubE.nil | refine SubE.cons ?_ ?_))

def R_reader_origin (r : Int) : AV := aI (r)
theorem con_reader_origin {n : Nat} {a0 : T_api_Message} {r : Int} (hF : F_reader_origin n a0 = some r) : Con E0 true 48 [.agg [aI (a0.fKind), aI (a0.fEvent.fSource), aI (a0.fEvent.fSeq), aI (a0.fEvent.fType), aI (a0.fEvent.fTime), .sl 3 (List.map e_api_Value (a0.fEvent.fValues)), aI (a0.fSource), aI (a0.fSeq), aI (a0.fTime)]] (R_reader_origin r) := by
  unfold F_reader_origin at hF
  refine Con.walk _ Try.func48 rfl (enters_of Try.func48 rfl rfl) rfl (Or.inr rfl) ?_
  repeat' first
    | (refine AW.step ?_; conv => whnf)
    | (refine CondX.o hF (fun hF => ?_) (fun hF => ?_))
    | (refine CondX.t ?_)
    | (refine CondX.f ?_)
    | (refine And.intro ⟨by kernel_rfl, by kernel_rfl⟩ ?_)
    | (refine EqX.mk (by first | rfl | kernel_rfl) ?_)
    | (exact RetX.o hF (by repeat' first | exact Sub.nil _ | exact Sub.refl _ | refine Sub.agg ?_ | refine Sub.tup ?_ | refine Sub.fn ?_ | exact SubL.nil | refine SubL.cons ?_ ?_ | refine Sub.sl _ ?_ | exact SubE.nil | refine SubE.cons ?_ ?_))

def S_reader_accept_l1 (a2 : T_api_Message) (a1 : T_api_Reader) (x4 : (List Trk)) (v1_0 : Int × (List Trk)) : AS := ⟨[(4, .ptr 4 0), (5, .ptr 5 0), (6, .ptr 6 0), (9, .row 41), (43, aI ((((List.map aTrk (x4)).length : Nat) : Int))), (44, aI (v1_0.1))], [(4, .box 53 [aI (a1.fSource), aI (a1.fOffset), aI (a1.fTracker.next), .sl 1 (List.map aI (a1.fTracker.beyond)), .sl 2 (List.map aPt (a1.fTracker.points)), aI (a1.fTracker.mark)]), (5, .box 47 [aI (a2.fKind), aI (a2.fEvent.fSource), aI (a2.fEvent.fSeq), aI (a2.fEvent.fType), aI (a2.fEvent.fTime), .sl 3 (List.map e_api_Value (a2.fEvent.fValues)), aI (a2.fSource), aI (a2.fSeq), aI (a2.fTime)]), (6, .box 51 [aI (0), .nils, .nils, aI (0)]), (41, .row 51 4 (List.map aTrk (v1_0.2)))]⟩
theorem reader_accept_l1_o {n N : Nat} {a2 : T_api_Message} {a1 : T_api_Reader} {x4 : (List Trk)} {k1_0_0 : (List Trk) → Option (Trk × Bool × Bool)} {R : Exit → AS → Prop} {K : List KItem} {c : Code} {σ : AS} {v0 : Int × (List Trk)} {r : Trk × Bool × Bool} (hF : F_reader_accept_l1 n a2 a1 x4 k1_0_0 N v0 = some r) (hl : LeX E0 75 σ (S_reader_accept_l1 a2 a1 x4 v0)) (round : ∀ m v, F_reader_accept_l1 n a2 a1 x4 k1_0_0 (m + 1) v = some r → AW E0 75 (thenA (fun σ' => ∃ v', F_reader_accept_l1 n a2 a1 x4 k1_0_0 m v' = some r ∧ LeX E0 75 σ' (S_reader_accept_l1 a2 a1 x4 v')) (AW E0 75 R K)) [.code c] .normal (S_reader_accept_l1 a2 a1 x4 v)) : LoopX E0 75 (fun next σ' => AW E0 75 (thenA next (AW E0 75 R K)) [.code c] .normal σ') σ :=
  LoopA.o (S := S_reader_accept_l1 a2 a1 x4) hF (fun _ => rfl) hl round
def S_reader_accept_l2 (a2 : T_api_Message) (a1 : T_api_Reader) (x55 : (List Trk)) (v2_1 : Int × (List Trk)) : AS := ⟨[(4, .ptr 4 0), (5, .ptr 5 0), (6, .ptr 6 0), (9, .row 41), (43, aI ((((List.map aTrk (x55)).length : Nat) : Int))), (44, aI (v2_1.1))], [(4, .box 53 [aI (a1.fSource), aI (a1.fOffset), aI (a1.fTracker.next), .sl 1 (List.map aI (a1.fTracker.beyond)), .sl 2 (List.map aPt (a1.fTracker.points)), aI (a1.fTracker.mark)]), (5, .box 47 [aI (a2.fKind), aI (a2.fEvent.fSource), aI (a2.fEvent.fSeq), aI (a2.fEvent.fType), aI (a2.fEvent.fTime), .sl 3 (List.map e_api_Value (a2.fEvent.fValues)), aI (a2.fSource), aI (a2.fSeq), aI (a2.fTime)]), (6, .box 51 [aI (0), .nils, .nils, aI (0)]), (41, .row 51 4 (List.map aTrk (v2_1.2)))]⟩
theorem reader_accept_l2_o {n N : Nat} {a2 : T_api_Message} {a1 : T_api_Reader} {x55 : (List Trk)} {k2_1_0 : (List Trk) → Option (Trk × Bool × Bool)} {R : Exit → AS → Prop} {K : List KItem} {c : Code} {σ : AS} {v0 : Int × (List Trk)} {r : Trk × Bool × Bool} (hF : F_reader_accept_l2 n a2 a1 x55 k2_1_0 N v0 = some r) (hl : LeX E0 75 σ (S_reader_accept_l2 a2 a1 x55 v0)) (round : ∀ m v, F_reader_accept_l2 n a2 a1 x55 k2_1_0 (m + 1) v = some r → AW E0 75 (thenA (fun σ' => ∃ v', F_reader_accept_l2 n a2 a1 x55 k2_1_0 m v' = some r ∧ LeX E0 75 σ' (S_reader_accept_l2 a2 a1 x55 v')) (AW E0 75 R K)) [.code c] .normal (S_reader_accept_l2 a2 a1 x55 v)) : LoopX E0 75 (fun next σ' => AW E0 75 (thenA next (AW E0 75 R K)) [.code c] .normal σ') σ :=
  LoopA.o (S := S_reader_accept_l2 a2 a1 x55) hF (fun _ => rfl) hl round
def R_reader_accept (r : Trk × Bool × Bool) : AV := .tup [.agg [aI (r.1.next), .sl 1 (List.map aI (r.1.beyond)), .sl 2 (List.map aPt (r.1.points)), aI (r.1.mark)], .bool (r.2.1), .bool (r.2.2)]
theorem con_reader_accept {n : Nat} {a0 : (List T_api_Schema)} {a1 : T_api_Reader} {a2 : T_api_Message} {r : Trk × Bool × Bool} (hF : F_reader_accept n a0 a1 a2 = some r) : Con E0 false 35 [.sl 2 (List.map e_api_Schema (a0)), .agg [aI (a1.fSource), aI (a1.fOffset), aI (a1.fTracker.next), .sl 1 (List.map aI (a1.fTracker.beyond)), .sl 2 (List.map aPt (a1.fTracker.points)), aI (a1.fTracker.mark)], .agg [aI (a2.fKind), aI (a2.fEvent.fSource), aI (a2.fEvent.fSeq), aI (a2.fEvent.fType), aI (a2.fEvent.fTime), .sl 3 (List.map e_api_Value (a2.fEvent.fValues)), aI (a2.fSource), aI (a2.fSeq), aI (a2.fTime)]] (R_reader_accept r) := by
  unfold F_reader_accept at hF
  refine Con.walk _ Try.func35 rfl (enters_of Try.func35 rfl rfl) rfl (Or.inl rfl) ?_
  repeat' first
    | (refine AW.regO hF (fun hF => ?_))
    | (refine AW.frzO hF 41 rfl (fun hF => ?_))
    | (refine AW.stepU [12] ?_; conv => whnf)
    | (refine CondX.o hF (fun hF => ?_) (fun hF => ?_))
    | (refine CondX.t ?_)
    | (refine CondX.f ?_)
    | (refine CallX.o hF R_watermark_CheckMessage (fun a h => con_watermark_CheckMessage h) (fun a hF => ?_))
    | (refine CallX.o hF R_reader_origin (fun a h => con_reader_origin h) (fun a hF => ?_))
    | (refine CallX.o hF R_event_Check (fun a h => con_event_Check h) (fun a hF => ?_))
    | (refine MakX.o aTrk hF (by first | exact SubL.refl _ | (repeat' first | exact SubL.nil | refine SubL.cons ?_ ?_ | exact Sub.refl _ | exact Sub.nil _ | refine Sub.agg ?_)) (fun l hF => ?_))
    | (refine NatX.o hF (fun m hF => ?_))
    | (refine SetX.o aTrk hF (fun x => rfl) (fun x => (by first | exact SubL.refl _ | (repeat' first | exact SubL.nil | refine SubL.cons ?_ ?_ | exact Sub.refl _ | exact Sub.nil _ | refine Sub.agg ?_))) (fun l hF => ?_))
    | (refine CallX.o hF R_watermark_Receive (fun a h => con_watermark_Receive h) (fun a hF => ?_))
    | (refine IdxX.o aTrk hF (fun x hF => ?_))
    | (refine CallX.o hF R_sequence_Begin (fun a h => con_sequence_Begin h) (fun a hF => ?_))
    | (exact ⟨_, hF, LeX.of [] rfl ⟨⟨rfl, rfl⟩, ⟨rfl, rfl⟩, ⟨rfl, rfl⟩, ⟨rfl, rfl⟩, ⟨rfl, rfl⟩, ⟨rfl, rfl⟩, trivial⟩ ⟨⟨rfl, rfl⟩, ⟨rfl, rfl⟩, ⟨rfl, rfl⟩, ⟨rfl, rfl⟩, trivial⟩⟩)
    | (refine reader_accept_l1_o hF (LeX.of [] rfl ⟨⟨rfl, rfl⟩, ⟨rfl, rfl⟩, ⟨rfl, rfl⟩, ⟨rfl, rfl⟩, ⟨rfl, rfl⟩, ⟨rfl, rfl⟩, trivial⟩ ⟨⟨rfl, rfl⟩, ⟨rfl, rfl⟩, ⟨rfl, rfl⟩, ⟨rfl, rfl⟩, trivial⟩) (fun m v hF => ?_); unfold F_reader_accept_l1 at hF)
    | (refine reader_accept_l2_o hF (LeX.of [] rfl ⟨⟨rfl, rfl⟩, ⟨rfl, rfl⟩, ⟨rfl, rfl⟩, ⟨rfl, rfl⟩, ⟨rfl, rfl⟩, ⟨rfl, rfl⟩, trivial⟩ ⟨⟨rfl, rfl⟩, ⟨rfl, rfl⟩, ⟨rfl, rfl⟩, ⟨rfl, rfl⟩, trivial⟩) (fun m v hF => ?_); unfold F_reader_accept_l2 at hF)
    | (refine And.intro ⟨by kernel_rfl, by kernel_rfl⟩ ?_)
    | (refine EqX.mk (by first | rfl | kernel_rfl) ?_)
    | (exact RetX.o hF (by repeat' first | exact Sub.nil _ | exact Sub.refl _ | refine Sub.agg ?_ | refine Sub.tup ?_ | refine Sub.fn ?_ | exact SubL.nil | refine SubL.cons ?_ ?_ | refine Sub.sl _ ?_ | exact SubE.nil | refine SubE.cons ?_ ?_))

def R_reader_read (r : T_api_Reader × (List T_api_Item)) : AV := .tup [.agg [aI (r.1.fSource), aI (r.1.fOffset), aI (r.1.fTracker.next), .sl 1 (List.map aI (r.1.fTracker.beyond)), .sl 2 (List.map aPt (r.1.fTracker.points)), aI (r.1.fTracker.mark)], .sl 7 (List.map e_api_Item (r.2))]
theorem con_reader_read {n : Nat} {a0 : (List T_api_Schema)} {a1 : T_api_Reader} {a2 : T_api_Message} {r : T_api_Reader × (List T_api_Item)} (hF : F_reader_read n a0 a1 a2 = some r) : Con E0 false 22 [.sl 2 (List.map e_api_Schema (a0)), .agg [aI (a1.fSource), aI (a1.fOffset), aI (a1.fTracker.next), .sl 1 (List.map aI (a1.fTracker.beyond)), .sl 2 (List.map aPt (a1.fTracker.points)), aI (a1.fTracker.mark)], .agg [aI (a2.fKind), aI (a2.fEvent.fSource), aI (a2.fEvent.fSeq), aI (a2.fEvent.fType), aI (a2.fEvent.fTime), .sl 3 (List.map e_api_Value (a2.fEvent.fValues)), aI (a2.fSource), aI (a2.fSeq), aI (a2.fTime)]] (R_reader_read r) := by
  unfold F_reader_read at hF
  refine Con.walk _ Try.func22 rfl (enters_of Try.func22 rfl rfl) rfl (Or.inl rfl) ?_
  repeat' first
    | (refine AW.step ?_; conv => whnf)
    | (refine CondX.o hF (fun hF => ?_) (fun hF => ?_))
    | (refine CondX.t ?_)
    | (refine CondX.f ?_)
    | (refine CallX.o hF R_reader_accept (fun a h => con_reader_accept h) (fun a hF => ?_))
    | (refine AppX.o0 e_api_Item hF (by first | exact SubR.refl _ | (repeat' first | exact SubR.nil | refine SubR.cons ?_ ?_ | exact SubL.nil | refine SubL.cons ?_ ?_ | exact Sub.refl _ | exact Sub.nil _)) (fun l hF => ?_))
    | (refine AppX.o e_api_Item hF (by first | exact SubR.refl _ | (repeat' first | exact SubR.nil | refine SubR.cons ?_ ?_ | exact SubL.nil | refine SubL.cons ?_ ?_ | exact Sub.refl _ | exact Sub.nil _)) (fun l hF => ?_))
    | (refine And.intro ⟨by kernel_rfl, by kernel_rfl⟩ ?_)
    | (refine EqX.mk (by first | rfl | kernel_rfl) ?_)
    | (exact RetX.o hF (by repeat' first | exact Sub.nil _ | exact Sub.refl _ | refine Sub.agg ?_ | refine Sub.tup ?_ | refine Sub.fn ?_ | exact SubL.nil | refine SubL.cons ?_ ?_ | refine Sub.sl _ ?_ | exact SubE.nil | refine SubE.cons ?_ ?_))

def R_reader_check (r : Int) : AV := aI (r)
theorem con_reader_check {n : Nat} {a0 : T_api_Reader} {a1 : (List T_api_Message)} {a2 : Int} {r : Int} (hF : F_reader_check n a0 a1 a2 = some r) : Con E0 true 21 [.agg [aI (a0.fSource), aI (a0.fOffset), aI (a0.fTracker.next), .sl 1 (List.map aI (a0.fTracker.beyond)), .sl 2 (List.map aPt (a0.fTracker.points)), aI (a0.fTracker.mark)], .sl 9 (List.map e_api_Message (a1)), aI (a2)] (R_reader_check r) := by
  unfold F_reader_check at hF
  refine Con.walk _ Try.func21 rfl (enters_of Try.func21 rfl rfl) rfl (Or.inr rfl) ?_
  repeat' first
    | (refine AW.step ?_; conv => whnf)
    | (refine CondX.o hF (fun hF => ?_) (fun hF => ?_))
    | (refine CondX.t ?_)
    | (refine CondX.f ?_)
    | (refine CallX.o hF R_reader_Check (fun a h => con_reader_Check h) (fun a hF => ?_))
    | (refine And.intro ⟨by kernel_rfl, by kernel_rfl⟩ ?_)
    | (refine EqX.mk (by first | rfl | kernel_rfl) ?_)
    | (exact RetX.o hF (by repeat' first | exact Sub.nil _ | exact Sub.refl _ | refine Sub.agg ?_ | refine Sub.tup ?_ | refine Sub.fn ?_ | exact SubL.nil | refine SubL.cons ?_ ?_ | refine Sub.sl _ ?_ | exact SubE.nil | refine SubE.cons ?_ ?_))

def R_reader_owned (r : T_api_Reader) : AV := .agg [aI (r.fSource), aI (r.fOffset), aI (r.fTracker.next), .sl 1 (List.map aI (r.fTracker.beyond)), .sl 2 (List.map aPt (r.fTracker.points)), aI (r.fTracker.mark)]
theorem con_reader_owned {n : Nat} {a0 : T_api_Reader} {r : T_api_Reader} (hF : F_reader_owned n a0 = some r) : Con E0 false 23 [.agg [aI (a0.fSource), aI (a0.fOffset), aI (a0.fTracker.next), .sl 1 (List.map aI (a0.fTracker.beyond)), .sl 2 (List.map aPt (a0.fTracker.points)), aI (a0.fTracker.mark)]] (R_reader_owned r) := by
  unfold F_reader_owned at hF
  refine Con.walk _ Try.func23 rfl (enters_of Try.func23 rfl rfl) rfl (Or.inl rfl) ?_
  repeat' first
    | (refine AW.step ?_; conv => whnf)
    | (refine CondX.o hF (fun hF => ?_) (fun hF => ?_))
    | (refine CondX.t ?_)
    | (refine CondX.f ?_)
    | (refine CallX.o hF (fun q => AV.sl 1 (List.map aI q)) (fun a h => con_clone36 h) (fun a hF => ?_))
    | (refine CallX.o hF (fun q => AV.sl 2 (List.map aPt q)) (fun a h => con_clone37 h) (fun a hF => ?_))
    | (refine And.intro ⟨by kernel_rfl, by kernel_rfl⟩ ?_)
    | (refine EqX.mk (by first | rfl | kernel_rfl) ?_)
    | (exact RetX.o hF (by repeat' first | exact Sub.nil _ | exact Sub.refl _ | refine Sub.agg ?_ | refine Sub.tup ?_ | refine Sub.fn ?_ | exact SubL.nil | refine SubL.cons ?_ ?_ | refine Sub.sl _ ?_ | exact SubE.nil | refine SubE.cons ?_ ?_))

def R_reader_Read (r : T_api_Reader × (List T_api_Item) × Int) : AV := .tup [.agg [aI (r.1.fSource), aI (r.1.fOffset), aI (r.1.fTracker.next), .sl 1 (List.map aI (r.1.fTracker.beyond)), .sl 2 (List.map aPt (r.1.fTracker.points)), aI (r.1.fTracker.mark)], .sl 7 (List.map e_api_Item (r.2.1)), aI (r.2.2)]
theorem con_reader_Read {n : Nat} {a0 : (List T_api_Schema)} {a1 : T_api_Reader} {a2 : (List T_api_Message)} {r : T_api_Reader × (List T_api_Item) × Int} (hF : F_reader_Read n a0 a1 a2 = some r) : Con E0 false 9 [.sl 2 (List.map e_api_Schema (a0)), .agg [aI (a1.fSource), aI (a1.fOffset), aI (a1.fTracker.next), .sl 1 (List.map aI (a1.fTracker.beyond)), .sl 2 (List.map aPt (a1.fTracker.points)), aI (a1.fTracker.mark)], .sl 9 (List.map e_api_Message (a2))] (R_reader_Read r) := by
  unfold F_reader_Read at hF
  refine Con.walk _ Try.func9 rfl (enters_of Try.func9 rfl rfl) rfl (Or.inl rfl) ?_
  repeat' first
    | (refine AW.step ?_; conv => whnf)
    | (refine CondX.o hF (fun hF => ?_) (fun hF => ?_))
    | (refine CondX.t ?_)
    | (refine CondX.f ?_)
    | (refine CallX.o hF R_schema_CheckAll (fun a h => con_schema_CheckAll h) (fun a hF => ?_))
    | (refine CallX.o hF R_reader_check (fun a h => con_reader_check h) (fun a hF => ?_))
    | (refine IdxX.o e_api_Message hF (fun x hF => ?_))
    | (refine CallX.o hF R_reader_read (fun a h => con_reader_read h) (fun a hF => ?_))
    | (refine CallX.o hF R_reader_owned (fun a h => con_reader_owned h) (fun a hF => ?_))
    | (refine And.intro ⟨by kernel_rfl, by kernel_rfl⟩ ?_)
    | (refine EqX.mk (by first | rfl | kernel_rfl) ?_)
    | (exact RetX.o hF (by repeat' first | exact Sub.nil _ | exact Sub.refl _ | refine Sub.agg ?_ | refine Sub.tup ?_ | refine Sub.fn ?_ | exact SubL.nil | refine SubL.cons ?_ ?_ | refine Sub.sl _ ?_ | exact SubE.nil | refine SubE.cons ?_ ?_))

def M_reader_steps (a0 : (List T_api_Schema)) (a1 : T_api_Reader) (a2 : (List T_api_Message)) : List (Nat × Ent) := []
def N_reader_steps (r : (List T_api_Message) × T_api_Reader × (List T_api_Schema)) : List (Nat × Ent) := [(5, .box 48 [.sl 9 (List.map e_api_Message (r.1))]), (4, .box 53 [aI (r.2.1.fSource), aI (r.2.1.fOffset), aI (r.2.1.fTracker.next), .sl 1 (List.map aI (r.2.1.fTracker.beyond)), .sl 2 (List.map aPt (r.2.1.fTracker.points)), aI (r.2.1.fTracker.mark)]), (3, .box 33 [.sl 2 (List.map e_api_Schema (r.2.2))])]
def R_reader_steps (r : (List T_api_Message) × T_api_Reader × (List T_api_Schema)) : AV := .fn 38 [.ptr 5 0, .ptr 4 0, .ptr 3 0]
def Z_reader_steps (r : (List T_api_Message) × T_api_Reader × (List T_api_Schema)) : AS := ⟨[(6, .fn 38 [.ptr 5 0, .ptr 4 0, .ptr 3 0])], N_reader_steps r⟩
theorem con_reader_steps {n : Nat} {a0 : (List T_api_Schema)} {a1 : T_api_Reader} {a2 : (List T_api_Message)} {r : (List T_api_Message) × T_api_Reader × (List T_api_Schema)} (hF : F_reader_steps n a0 a1 a2 = some r) : ConG E0.P none (CalF E0.P 24 0) [.sl 2 (List.map e_api_Schema (a0)), .agg [aI (a1.fSource), aI (a1.fOffset), aI (a1.fTracker.next), .sl 1 (List.map aI (a1.fTracker.beyond)), .sl 2 (List.map aPt (a1.fTracker.points)), aI (a1.fTracker.mark)], .sl 9 (List.map e_api_Message (a2))] [] (M_reader_steps a0 a1 a2) (R_reader_steps r) (N_reader_steps r) := by
  unfold F_reader_steps at hF
  refine ConG.walk (E := (E0p 3)) (caps := []) _ Try.func24 rfl rfl rfl rfl rfl ?_
  repeat' first
    | (refine AW.step ?_; conv => whnf)
    | (refine CondX.o hF (fun hF => ?_) (fun hF => ?_))
    | (refine CondX.t ?_)
    | (refine CondX.f ?_)
    | (refine GX.o (res := R_reader_steps) (meF := N_reader_steps) hF ?_; exact GX.mk (Z_reader_steps _) (LeX.of [] rfl ⟨⟨rfl, rfl⟩, trivial⟩ ⟨⟨rfl, rfl⟩, ⟨rfl, rfl⟩, ⟨rfl, rfl⟩, trivial⟩) rfl _ rfl (by repeat' first | exact Sub.nil _ | exact Sub.refl _ | refine Sub.agg ?_ | refine Sub.tup ?_ | refine Sub.fn ?_ | exact SubL.nil | refine SubL.cons ?_ ?_ | refine Sub.sl _ ?_ | exact SubE.nil | refine SubE.cons ?_ ?_) [] trivial rfl)
    | (refine And.intro ⟨by kernel_rfl, by kernel_rfl⟩ ?_)
    | (refine EqX.mk (by first | rfl | kernel_rfl) ?_)

def M_reader_Replay_b9 (m0 : (List T_api_Item)) (m1 : T_api_Reader) : List (Nat × Ent) := [(100000, .box 56 [.row 200000]), (200000, .row 42 7 (List.map e_api_Item (m0))), (100001, .box 53 [aI (m1.fSource), aI (m1.fOffset), aI (m1.fTracker.next), .sl 1 (List.map aI (m1.fTracker.beyond)), .sl 2 (List.map aPt (m1.fTracker.points)), aI (m1.fTracker.mark)])]
def N_reader_Replay_b9 (r : (List T_api_Item) × T_api_Reader) : List (Nat × Ent) := [(100000, .box 56 [.row 250000]), (250000, .row 42 7 (List.map e_api_Item (r.1))), (100001, .box 53 [aI (r.2.fSource), aI (r.2.fOffset), aI (r.2.fTracker.next), .sl 1 (List.map aI (r.2.fTracker.beyond)), .sl 2 (List.map aPt (r.2.fTracker.points)), aI (r.2.fTracker.mark)])]
def Z_reader_Replay_b9 (r : (List T_api_Item) × T_api_Reader) : AS := ⟨[(11, .ptr 100000 0), (12, .ptr 100001 0)], N_reader_Replay_b9 r⟩
end Go.Proofs.Ytcbdhigllelmcaa
namespace Go.Proofs.Ytcbdhigllelmcaa
open Go.RowKit
def S_reader_steps_1_l1 (yl_l : Nat) (yl_T : Array Value) (m4 : (List T_api_Schema)) (m2 : (List T_api_Message)) (x1 : (List T_api_Message)) (v1_0 : Int × Int × Int × Int × (List Int) × (List Pt) × Int × Int × Int × Int × (List Int) × (List Pt) × Int × (List T_api_Item)) : AS := ⟨[(0, .yld yl_l yl_T [.any, .any, .any, .any, .any, .any, .any, .any, .any, .any, .any, .ptr 100000 0, .ptr 100001 0]), (1, .ptr 100002 0), (2, .ptr 100003 0), (3, .ptr 100004 0), (12, .sl 9 (List.map e_api_Message (x1))), (13, aI ((((List.map e_api_Message (x1)).length : Nat) : Int))), (14, aI (v1_0.1))], [(100000, .box 56 [.row 29000001]), (100001, .box 53 [aI (v1_0.2.1), aI (v1_0.2.2.1), aI (v1_0.2.2.2.1), .sl 1 (List.map aI (v1_0.2.2.2.2.1)), .sl 2 (List.map aPt (v1_0.2.2.2.2.2.1)), aI (v1_0.2.2.2.2.2.2.1)]), (100002, .box 48 [.sl 9 (List.map e_api_Message (m2))]), (100003, .box 53 [aI (v1_0.2.2.2.2.2.2.2.1), aI (v1_0.2.2.2.2.2.2.2.2.1), aI (v1_0.2.2.2.2.2.2.2.2.2.1), .sl 1 (List.map aI (v1_0.2.2.2.2.2.2.2.2.2.2.1)), .sl 2 (List.map aPt (v1_0.2.2.2.2.2.2.2.2.2.2.2.1)), aI (v1_0.2.2.2.2.2.2.2.2.2.2.2.2.1)]), (100004, .box 33 [.sl 2 (List.map e_api_Schema (m4))]), (29000001, .row 42 7 (List.map e_api_Item (v1_0.2.2.2.2.2.2.2.2.2.2.2.2.2)))]⟩
theorem reader_steps_1_l1_o {n N : Nat} {yl_l : Nat} {yl_R : Obj} {yl_T : Array Value} {m4 : (List T_api_Schema)} {m2 : (List T_api_Message)} {x1 : (List T_api_Message)} {k1_0_0 : Int → Int → Int → (List Int) → (List Pt) → Int → Int → Int → Int → (List Int) → (List Pt) → Int → (List T_api_Item) → Option ((List T_api_Item) × T_api_Reader × (List T_api_Message) × T_api_Reader × (List T_api_Schema))} {R : Exit → AS → Prop} {K : List KItem} {c : Code} {σ : AS} {v0 : Int × Int × Int × Int × (List Int) × (List Pt) × Int × Int × Int × Int × (List Int) × (List Pt) × Int × (List T_api_Item)} {r : (List T_api_Item) × T_api_Reader × (List T_api_Message) × T_api_Reader × (List T_api_Schema)} (hF : F_reader_steps_1_l1 n m4 m2 x1 k1_0_0 N v0 = some r) (hl : LeX (E0y yl_l yl_R 4) 32 σ (S_reader_steps_1_l1 yl_l yl_T m4 m2 x1 v0)) (round : ∀ m v, F_reader_steps_1_l1 n m4 m2 x1 k1_0_0 (m + 1) v = some r → AW (E0y yl_l yl_R 4) 32 (thenA (fun σ' => ∃ v', F_reader_steps_1_l1 n m4 m2 x1 k1_0_0 m v' = some r ∧ LeX (E0y yl_l yl_R 4) 32 σ' (S_reader_steps_1_l1 yl_l yl_T m4 m2 x1 v')) (AW (E0y yl_l yl_R 4) 32 R K)) [.code c] .normal (S_reader_steps_1_l1 yl_l yl_T m4 m2 x1 v)) : LoopX (E0y yl_l yl_R 4) 32 (fun next σ' => AW (E0y yl_l yl_R 4) 32 (thenA next (AW (E0y yl_l yl_R 4) 32 R K)) [.code c] .normal σ') σ :=
  LoopA.o (S := S_reader_steps_1_l1 yl_l yl_T m4 m2 x1) hF (fun _ => rfl) hl round
def M_reader_steps_1 (m1 : T_api_Reader) (m2 : (List T_api_Message)) (m3 : T_api_Reader) (m4 : (List T_api_Schema)) : List (Nat × Ent) := [(100000, .box 56 [.nils]), (100001, .box 53 [aI (m1.fSource), aI (m1.fOffset), aI (m1.fTracker.next), .sl 1 (List.map aI (m1.fTracker.beyond)), .sl 2 (List.map aPt (m1.fTracker.points)), aI (m1.fTracker.mark)]), (100002, .box 48 [.sl 9 (List.map e_api_Message (m2))]), (100003, .box 53 [aI (m3.fSource), aI (m3.fOffset), aI (m3.fTracker.next), .sl 1 (List.map aI (m3.fTracker.beyond)), .sl 2 (List.map aPt (m3.fTracker.points)), aI (m3.fTracker.mark)]), (100004, .box 33 [.sl 2 (List.map e_api_Schema (m4))])]
def N_reader_steps_1 (r : (List T_api_Item) × T_api_Reader × (List T_api_Message) × T_api_Reader × (List T_api_Schema)) : List (Nat × Ent) := [(100000, .box 56 [.row 250000]), (250000, .row 42 7 (List.map e_api_Item (r.1))), (100001, .box 53 [aI (r.2.1.fSource), aI (r.2.1.fOffset), aI (r.2.1.fTracker.next), .sl 1 (List.map aI (r.2.1.fTracker.beyond)), .sl 2 (List.map aPt (r.2.1.fTracker.points)), aI (r.2.1.fTracker.mark)]), (100002, .box 48 [.sl 9 (List.map e_api_Message (r.2.2.1))]), (100003, .box 53 [aI (r.2.2.2.1.fSource), aI (r.2.2.2.1.fOffset), aI (r.2.2.2.1.fTracker.next), .sl 1 (List.map aI (r.2.2.2.1.fTracker.beyond)), .sl 2 (List.map aPt (r.2.2.2.1.fTracker.points)), aI (r.2.2.2.1.fTracker.mark)]), (100004, .box 33 [.sl 2 (List.map e_api_Schema (r.2.2.2.2))])]
def R_reader_steps_1 (r : (List T_api_Item) × T_api_Reader × (List T_api_Message) × T_api_Reader × (List T_api_Schema)) : AV := .tup []
def Z_reader_steps_1 (yl_l : Nat) (yl_T : Array Value) (r : (List T_api_Item) × T_api_Reader × (List T_api_Message) × T_api_Reader × (List T_api_Schema)) : AS := ⟨[(0, .yld yl_l yl_T [.any, .any, .any, .any, .any, .any, .any, .any, .any, .any, .any, .ptr 100000 0, .ptr 100001 0]), (1, .ptr 100002 0), (2, .ptr 100003 0), (3, .ptr 100004 0)], N_reader_steps_1 r⟩
theorem con_reader_steps_1 {n : Nat} {m1 : T_api_Reader} {m2 : (List T_api_Message)} {m3 : T_api_Reader} {m4 : (List T_api_Schema)} {r : (List T_api_Item) × T_api_Reader × (List T_api_Message) × T_api_Reader × (List T_api_Schema)} (hF : F_reader_steps_1 n m1 m2 m3 m4 = some r) (yl_l : Nat) (yl_R : Obj) (yl_T : Array Value) (hY : ∀ {n : Nat} {a0 : T_api_Reader} {a1 : (List T_api_Item)} {m0 : (List T_api_Item)} {m1 : T_api_Reader} {r : (List T_api_Item) × T_api_Reader}, F_reader_Replay_b9 n a0 a1 m0 m1 = some r → ConG E0.P (some (yl_l, yl_R)) (fun vs cs w R => cs = yl_T → CalY E0.P yl_l vs cs w R) [.agg [aI (a0.fSource), aI (a0.fOffset), aI (a0.fTracker.next), .sl 1 (List.map aI (a0.fTracker.beyond)), .sl 2 (List.map aPt (a0.fTracker.points)), aI (a0.fTracker.mark)], .sl 7 (List.map e_api_Item (a1))] [.any, .any, .any, .any, .any, .any, .any, .any, .any, .any, .any, .ptr 100000 0, .ptr 100001 0] (M_reader_Replay_b9 m0 m1) (.bool true) (N_reader_Replay_b9 r)) : ConG E0.P (some (yl_l, yl_R)) (CalF E0.P 38 0) [.yld yl_l yl_T [.any, .any, .any, .any, .any, .any, .any, .any, .any, .any, .any, .ptr 100000 0, .ptr 100001 0], .ptr 100002 0, .ptr 100003 0, .ptr 100004 0] [] (M_reader_steps_1 m1 m2 m3 m4) (R_reader_steps_1 r) (N_reader_steps_1 r) := by
  unfold F_reader_steps_1 at hF
  refine ConG.walk (E := (E0y yl_l yl_R 4)) (caps := []) _ Try.func38 rfl rfl rfl rfl rfl ?_
  repeat' first
    | (refine AW.step ?_; conv => whnf)
    | (refine CondX.o hF (fun hF => ?_) (fun hF => ?_))
    | (refine CondX.t ?_)
    | (refine CondX.f ?_)
    | (refine SlsX.o e_api_Message hF (fun l hF => ?_))
    | (refine GX.o (res := R_reader_steps_1) (meF := N_reader_steps_1) hF ?_; exact GX.mk (Z_reader_steps_1 yl_l yl_T _) (LeX.of [(250000, 29000001)] rfl ⟨⟨rfl, rfl⟩, ⟨rfl, rfl⟩, ⟨rfl, rfl⟩, ⟨rfl, rfl⟩, trivial⟩ ⟨⟨rfl, rfl⟩, ⟨rfl, rfl⟩, ⟨rfl, rfl⟩, ⟨rfl, rfl⟩, ⟨rfl, rfl⟩, ⟨rfl, rfl⟩, trivial⟩) rfl _ rfl (by repeat' first | exact Sub.nil _ | exact Sub.refl _ | refine Sub.agg ?_ | refine Sub.tup ?_ | refine Sub.fn ?_ | exact SubL.nil | refine SubL.cons ?_ ?_ | refine Sub.sl _ ?_ | exact SubE.nil | refine SubE.cons ?_ ?_) [100000, 100001] ⟨⟨0, 0, 11, _, _, _, _, _, _, rfl, rfl, rfl, rfl, rfl⟩, ⟨⟨0, 0, 12, _, _, _, _, _, _, rfl, rfl, rfl, rfl, rfl⟩, trivial⟩⟩ rfl)
    | (refine IdxX.o e_api_Message hF (fun x hF => ?_))
    | (refine CallX.o hF R_reader_read (fun a h => Con.env rfl rfl (con_reader_read h)) (fun a hF => ?_))
    | (refine YldX.oM hF [(100000, 100000), (200000, 29000001), (100001, 100001)] [(100000, 100000), (250000, 29500001), (100001, 100001)] _ _ _ N_reader_Replay_b9 (fun _ => AV.bool true) [29000001] (fun a h => hY h) rfl rfl rfl rfl rfl ⟨⟨rfl, rfl⟩, ⟨⟨rfl, rfl⟩, ⟨⟨rfl, rfl⟩, trivial⟩⟩⟩ (fun a => ⟨rfl, rfl, rfl, rfl, rfl, rfl, rfl, rfl⟩) (fun a hF => ?_))
    | (exact ⟨_, hF, LeX.of [(29000001, 29500001)] rfl ⟨⟨rfl, rfl⟩, ⟨rfl, rfl⟩, ⟨rfl, rfl⟩, ⟨rfl, rfl⟩, ⟨rfl, rfl⟩, ⟨rfl, rfl⟩, ⟨rfl, rfl⟩, trivial⟩ ⟨⟨rfl, rfl⟩, ⟨rfl, rfl⟩, ⟨rfl, rfl⟩, ⟨rfl, rfl⟩, ⟨rfl, rfl⟩, ⟨rfl, rfl⟩, trivial⟩⟩)
    | (refine reader_steps_1_l1_o hF (LeX.trans (LeX.adoptC 100000 0 29000001 42 7 56 _ rfl rfl rfl) (LeX.of [] rfl ⟨⟨rfl, rfl⟩, ⟨rfl, rfl⟩, ⟨rfl, rfl⟩, ⟨rfl, rfl⟩, ⟨rfl, rfl⟩, ⟨rfl, rfl⟩, ⟨rfl, rfl⟩, trivial⟩ ⟨⟨rfl, rfl⟩, ⟨rfl, rfl⟩, ⟨rfl, rfl⟩, ⟨rfl, rfl⟩, ⟨rfl, rfl⟩, ⟨rfl, rfl⟩, trivial⟩)) (fun m v hF => ?_); unfold F_reader_steps_1_l1 at hF)
    | (refine And.intro ⟨by kernel_rfl, by kernel_rfl⟩ ?_)
    | (refine EqX.mk (by first | rfl | kernel_rfl) ?_)

def R_reader_Replay (r : T_api_Reader × (List T_api_Item) × Int) : AV := .tup [.agg [aI (r.1.fSource), aI (r.1.fOffset), aI (r.1.fTracker.next), .sl 1 (List.map aI (r.1.fTracker.beyond)), .sl 2 (List.map aPt (r.1.fTracker.points)), aI (r.1.fTracker.mark)], .sl 7 (List.map e_api_Item (r.2.1)), aI (r.2.2)]
theorem con_reader_Replay {n : Nat} {a0 : (List T_api_Schema)} {a1 : T_api_Reader} {a2 : (List T_api_Message)} {r : T_api_Reader × (List T_api_Item) × Int} (hF : F_reader_Replay n a0 a1 a2 = some r) : Con E0 false 11 [.sl 2 (List.map e_api_Schema (a0)), .agg [aI (a1.fSource), aI (a1.fOffset), aI (a1.fTracker.next), .sl 1 (List.map aI (a1.fTracker.beyond)), .sl 2 (List.map aPt (a1.fTracker.points)), aI (a1.fTracker.mark)], .sl 9 (List.map e_api_Message (a2))] (R_reader_Replay r) := by
  unfold F_reader_Replay at hF
  refine Con.walkM (E := E0r) _ Try.func11 rfl (enters_of Try.func11 rfl rfl) rfl (Or.inl rfl) ?_ rfl rfl rfl
  repeat' first
    | (refine AW.step ?_; conv => whnf)
    | (refine CondX.o hF (fun hF => ?_) (fun hF => ?_))
    | (refine CondX.t ?_)
    | (refine CondX.f ?_)
    | (refine CallX.o hF R_schema_CheckAll (fun a h => Con.env rfl rfl (con_schema_CheckAll h)) (fun a hF => ?_))
    | (refine CallX.o hF R_reader_check (fun a h => Con.env rfl rfl (con_reader_check h)) (fun a hF => ?_))
    | (refine CallC.oM hF [] [(5, 33000000), (4, 33000001), (3, 33000002)] _ _ N_reader_steps R_reader_steps [] (fun a h => ConG.up (con_reader_steps h)) (enters_of Try.func24 rfl rfl) rfl rfl rfl trivial (fun a => ⟨rfl, rfl, rfl, rfl, rfl, rfl, rfl, rfl⟩) (fun a hF => ?_))
    | (refine CallX.oM hF [] [(5, 33000000), (4, 33000001), (3, 33000002)] _ _ N_reader_steps R_reader_steps [] (fun a h => ConG.up (con_reader_steps h)) (enters_of Try.func24 rfl rfl) rfl rfl rfl trivial (fun a => ⟨rfl, rfl, rfl, rfl, rfl, rfl, rfl, rfl⟩) (fun a hF => ?_))
    | (refine AppX.o e_api_Item hF (by first | exact SubR.refl _ | (repeat' first | exact SubR.nil | refine SubR.cons ?_ ?_ | exact SubL.nil | refine SubL.cons ?_ ?_ | exact Sub.refl _ | exact Sub.nil _)) (fun l hF => ?_))
    | (refine BX.o (meF := N_reader_Replay_b9) hF ?_; exact BX.mk (Z_reader_Replay_b9 _) (LeX.of [(250000, 38)] rfl ⟨⟨rfl, rfl⟩, ⟨rfl, rfl⟩, trivial⟩ ⟨⟨rfl, rfl⟩, ⟨rfl, rfl⟩, ⟨rfl, rfl⟩, trivial⟩) rfl rfl)
    | (refine RngX.oM hF [(100000, 11), (100001, 12), (100002, 33000000), (100003, 33000001), (100004, 33000002)] [(100000, 11), (250000, 813000001), (100001, 12), (100002, 33000000), (100003, 33000001), (100004, 33000002)] _ _ _ N_reader_steps_1 [] (fun x h l D fn T hT => con_reader_steps_1 h l _ T (fun hF => ConG.round (E := E0p 13) rfl rfl rfl rfl rfl rfl ?_ l D fn T hT)) (enters_of Try.func38 rfl rfl) rfl rfl rfl rfl rfl ⟨⟨rfl, rfl⟩, ⟨⟨rfl, rfl⟩, trivial⟩⟩ ⟨⟨rfl, rfl⟩, ⟨⟨rfl, rfl⟩, ⟨⟨rfl, rfl⟩, ⟨⟨rfl, rfl⟩, ⟨⟨rfl, rfl⟩, trivial⟩⟩⟩⟩⟩ (fun a => ⟨rfl, rfl, rfl, rfl, rfl, rfl, rfl, rfl⟩) (fun a hF => ?_))
    | (refine CallX.o hF R_reader_owned (fun a h => Con.env rfl rfl (con_reader_owned h)) (fun a hF => ?_))
    | (refine And.intro ⟨by kernel_rfl, by kernel_rfl⟩ ?_)
    | (refine EqX.mk (by first | rfl | kernel_rfl) ?_)
    | (exact RetX.o hF (by repeat' first | exact Sub.nil _ | exact Sub.refl _ | refine Sub.agg ?_ | refine Sub.tup ?_ | refine Sub.fn ?_ | exact SubL.nil | refine SubL.cons ?_ ?_ | refine Sub.sl _ ?_ | exact SubE.nil | refine SubE.cons ?_ ?_))

def S_reader_checkKey_l1 (a1 : (List Int)) (a0 : (List T_api_Schema)) (v1_0 : Int) : AS := ⟨[(0, .sl 2 (List.map e_api_Schema (a0))), (15, .sl 1 (List.map aI (a1))), (16, aI ((((List.map aI (a1)).length : Nat) : Int))), (17, aI (v1_0))], []⟩
theorem reader_checkKey_l1_o {n N : Nat} {a1 : (List Int)} {a0 : (List T_api_Schema)} {k1_0_0 : Option (Int)} {R : Exit → AS → Prop} {K : List KItem} {c : Code} {σ : AS} {v0 : Int} {r : Int} (hF : F_reader_checkKey_l1 n a1 a0 k1_0_0 N v0 = some r) (hl : LeX E0 35 σ (S_reader_checkKey_l1 a1 a0 v0)) (round : ∀ m v, F_reader_checkKey_l1 n a1 a0 k1_0_0 (m + 1) v = some r → AW E0 35 (thenA (fun σ' => ∃ v', F_reader_checkKey_l1 n a1 a0 k1_0_0 m v' = some r ∧ LeX E0 35 σ' (S_reader_checkKey_l1 a1 a0 v')) (AW E0 35 R K)) [.code c] .normal (S_reader_checkKey_l1 a1 a0 v)) : LoopX E0 35 (fun next σ' => AW E0 35 (thenA next (AW E0 35 R K)) [.code c] .normal σ') σ :=
  LoopA.o (S := S_reader_checkKey_l1 a1 a0) hF (fun _ => rfl) hl round
def R_reader_checkKey (r : Int) : AV := aI (r)
theorem con_reader_checkKey {n : Nat} {a0 : (List T_api_Schema)} {a1 : (List Int)} {r : Int} (hF : F_reader_checkKey n a0 a1 = some r) : Con E0 true 14 [.sl 2 (List.map e_api_Schema (a0)), .sl 1 (List.map aI (a1))] (R_reader_checkKey r) := by
  unfold F_reader_checkKey at hF
  refine Con.walk _ Try.func14 rfl (enters_of Try.func14 rfl rfl) rfl (Or.inr rfl) ?_
  repeat' first
    | (refine AW.step ?_; conv => whnf)
    | (refine CondX.o hF (fun hF => ?_) (fun hF => ?_))
    | (refine CondX.t ?_)
    | (refine CondX.f ?_)
    | (refine IdxX.o aI hF (fun x hF => ?_))
    | (refine IdxX.o e_api_Schema hF (fun x hF => ?_))
    | (exact ⟨_, hF, LeX.of [] rfl ⟨⟨rfl, rfl⟩, ⟨rfl, rfl⟩, ⟨rfl, rfl⟩, ⟨rfl, rfl⟩, trivial⟩ trivial⟩)
    | (refine reader_checkKey_l1_o hF (LeX.of [] rfl ⟨⟨rfl, rfl⟩, ⟨rfl, rfl⟩, ⟨rfl, rfl⟩, ⟨rfl, rfl⟩, trivial⟩ trivial) (fun m v hF => ?_); unfold F_reader_checkKey_l1 at hF)
    | (refine And.intro ⟨by kernel_rfl, by kernel_rfl⟩ ?_)
    | (refine EqX.mk (by first | rfl | kernel_rfl) ?_)
    | (exact RetX.o hF (by repeat' first | exact Sub.nil _ | exact Sub.refl _ | refine Sub.agg ?_ | refine Sub.tup ?_ | refine Sub.fn ?_ | exact SubL.nil | refine SubL.cons ?_ ?_ | refine Sub.sl _ ?_ | exact SubE.nil | refine SubE.cons ?_ ?_))

theorem eqK_3 (a b : Int) : eqK (aI a) (aI b) = some (decide (a = b)) := by simp [eqK, eq1, aI, bytes_dec]
def S_reader_Route_l3 (a2 : Int) (k2_1_0y : (List (Int × Bool))) (v3_2 : Int × (List Int)) : AS := ⟨[(15, .row 64), (27, .row 7126), (116, aI (a2)), (117, aI (v3_2.1))], [(64, .mp (List.map (encM aI AV.bool) (k2_1_0y))), (7126, .row 3 1 (List.map aI (v3_2.2)))]⟩
theorem reader_Route_l3_o {n N : Nat} {a2 : Int} {k2_1_0y : (List (Int × Bool))} {k3_2_0 : (List Int) → Option ((List Int) × Int)} {R : Exit → AS → Prop} {K : List KItem} {c : Code} {σ : AS} {v0 : Int × (List Int)} {r : (List Int) × Int} (hF : F_reader_Route_l3 n a2 k2_1_0y k3_2_0 N v0 = some r) (hl : LeX E0 129 σ (S_reader_Route_l3 a2 k2_1_0y v0)) (round : ∀ m v, F_reader_Route_l3 n a2 k2_1_0y k3_2_0 (m + 1) v = some r → AW E0 129 (thenA (fun σ' => ∃ v', F_reader_Route_l3 n a2 k2_1_0y k3_2_0 m v' = some r ∧ LeX E0 129 σ' (S_reader_Route_l3 a2 k2_1_0y v')) (AW E0 129 R K)) [.code c] .normal (S_reader_Route_l3 a2 k2_1_0y v)) : LoopX E0 129 (fun next σ' => AW E0 129 (thenA next (AW E0 129 R K)) [.code c] .normal σ') σ :=
  LoopA.o (S := S_reader_Route_l3 a2 k2_1_0y) hF (fun _ => rfl) hl round
def S_reader_Route_l2 (a2 : Int) (v2_1 : Int × (List (Int × Bool))) : AS := ⟨[(2, aI (a2)), (15, .row 64), (68, aI (a2)), (69, aI (v2_1.1))], [(64, .mp (List.map (encM aI AV.bool) (v2_1.2)))]⟩
theorem reader_Route_l2_o {n N : Nat} {a2 : Int} {k2_1_0 : (List (Int × Bool)) → Option ((List Int) × Int)} {R : Exit → AS → Prop} {K : List KItem} {c : Code} {σ : AS} {v0 : Int × (List (Int × Bool))} {r : (List Int) × Int} (hF : F_reader_Route_l2 n a2 k2_1_0 N v0 = some r) (hl : LeX E0 129 σ (S_reader_Route_l2 a2 v0)) (round : ∀ m v, F_reader_Route_l2 n a2 k2_1_0 (m + 1) v = some r → AW E0 129 (thenA (fun σ' => ∃ v', F_reader_Route_l2 n a2 k2_1_0 m v' = some r ∧ LeX E0 129 σ' (S_reader_Route_l2 a2 v')) (AW E0 129 R K)) [.code c] .normal (S_reader_Route_l2 a2 v)) : LoopX E0 129 (fun next σ' => AW E0 129 (thenA next (AW E0 129 R K)) [.code c] .normal σ') σ :=
  LoopA.o (S := S_reader_Route_l2 a2) hF (fun _ => rfl) hl round
def S_reader_Route_l5 (a2 : Int) (k4_3_0y : (List (Int × Bool))) (v5_4 : Int × (List Int)) : AS := ⟨[(15, .row 64), (27, .row 7126), (116, aI (a2)), (117, aI (v5_4.1))], [(64, .mp (List.map (encM aI AV.bool) (k4_3_0y))), (7126, .row 3 1 (List.map aI (v5_4.2)))]⟩
theorem reader_Route_l5_o {n N : Nat} {a2 : Int} {k4_3_0y : (List (Int × Bool))} {k5_4_0 : (List Int) → Option ((List Int) × Int)} {R : Exit → AS → Prop} {K : List KItem} {c : Code} {σ : AS} {v0 : Int × (List Int)} {r : (List Int) × Int} (hF : F_reader_Route_l5 n a2 k4_3_0y k5_4_0 N v0 = some r) (hl : LeX E0 129 σ (S_reader_Route_l5 a2 k4_3_0y v0)) (round : ∀ m v, F_reader_Route_l5 n a2 k4_3_0y k5_4_0 (m + 1) v = some r → AW E0 129 (thenA (fun σ' => ∃ v', F_reader_Route_l5 n a2 k4_3_0y k5_4_0 m v' = some r ∧ LeX E0 129 σ' (S_reader_Route_l5 a2 k4_3_0y v')) (AW E0 129 R K)) [.code c] .normal (S_reader_Route_l5 a2 k4_3_0y v)) : LoopX E0 129 (fun next σ' => AW E0 129 (thenA next (AW E0 129 R K)) [.code c] .normal σ') σ :=
  LoopA.o (S := S_reader_Route_l5 a2 k4_3_0y) hF (fun _ => rfl) hl round
def S_reader_Route_l4 (a3 : T_api_Item) (a2 : Int) (a1 : (List (List Int))) (a0 : (List T_api_Schema)) (v4_3 : Int × (List (Int × Bool))) : AS := ⟨[(0, .sl 2 (List.map e_api_Schema (a0))), (2, aI (a2)), (7, .ptr 7 0), (15, .row 64), (82, .sl 1 (List.map (fun q => AV.sl 1 (List.map aI q)) (a1))), (83, aI ((((List.map (fun q => AV.sl 1 (List.map aI q)) (a1)).length : Nat) : Int))), (84, aI (v4_3.1))], [(7, .box 42 [aI (a3.fKind), aI (a3.fEvent.fSource), aI (a3.fEvent.fSeq), aI (a3.fEvent.fType), aI (a3.fEvent.fTime), .sl 3 (List.map e_api_Value (a3.fEvent.fValues)), aI (a3.fNumber)]), (64, .mp (List.map (encM aI AV.bool) (v4_3.2)))]⟩
theorem reader_Route_l4_o {n N : Nat} {a3 : T_api_Item} {a2 : Int} {a1 : (List (List Int))} {a0 : (List T_api_Schema)} {k4_3_0 : (List (Int × Bool)) → Option ((List Int) × Int)} {R : Exit → AS → Prop} {K : List KItem} {c : Code} {σ : AS} {v0 : Int × (List (Int × Bool))} {r : (List Int) × Int} (hF : F_reader_Route_l4 n a3 a2 a1 a0 k4_3_0 N v0 = some r) (hl : LeX E0 129 σ (S_reader_Route_l4 a3 a2 a1 a0 v0)) (round : ∀ m v, F_reader_Route_l4 n a3 a2 a1 a0 k4_3_0 (m + 1) v = some r → AW E0 129 (thenA (fun σ' => ∃ v', F_reader_Route_l4 n a3 a2 a1 a0 k4_3_0 m v' = some r ∧ LeX E0 129 σ' (S_reader_Route_l4 a3 a2 a1 a0 v')) (AW E0 129 R K)) [.code c] .normal (S_reader_Route_l4 a3 a2 a1 a0 v)) : LoopX E0 129 (fun next σ' => AW E0 129 (thenA next (AW E0 129 R K)) [.code c] .normal σ') σ :=
  LoopA.o (S := S_reader_Route_l4 a3 a2 a1 a0) hF (fun _ => rfl) hl round
def S_reader_Route_l1 (a3 : T_api_Item) (a2 : Int) (a1 : (List (List Int))) (a0 : (List T_api_Schema)) (v1_0 : Int) : AS := ⟨[(0, .sl 2 (List.map e_api_Schema (a0))), (1, .sl 1 (List.map (fun q => AV.sl 1 (List.map aI q)) (a1))), (2, aI (a2)), (7, .ptr 7 0), (37, .sl 1 (List.map (fun q => AV.sl 1 (List.map aI q)) (a1))), (38, aI ((((List.map (fun q => AV.sl 1 (List.map aI q)) (a1)).length : Nat) : Int))), (39, aI (v1_0))], [(7, .box 42 [aI (a3.fKind), aI (a3.fEvent.fSource), aI (a3.fEvent.fSeq), aI (a3.fEvent.fType), aI (a3.fEvent.fTime), .sl 3 (List.map e_api_Value (a3.fEvent.fValues)), aI (a3.fNumber)])]⟩
theorem reader_Route_l1_o {n N : Nat} {a3 : T_api_Item} {a2 : Int} {a1 : (List (List Int))} {a0 : (List T_api_Schema)} {k1_0_0 : Option ((List Int) × Int)} {R : Exit → AS → Prop} {K : List KItem} {c : Code} {σ : AS} {v0 : Int} {r : (List Int) × Int} (hF : F_reader_Route_l1 n a3 a2 a1 a0 k1_0_0 N v0 = some r) (hl : LeX E0 129 σ (S_reader_Route_l1 a3 a2 a1 a0 v0)) (round : ∀ m v, F_reader_Route_l1 n a3 a2 a1 a0 k1_0_0 (m + 1) v = some r → AW E0 129 (thenA (fun σ' => ∃ v', F_reader_Route_l1 n a3 a2 a1 a0 k1_0_0 m v' = some r ∧ LeX E0 129 σ' (S_reader_Route_l1 a3 a2 a1 a0 v')) (AW E0 129 R K)) [.code c] .normal (S_reader_Route_l1 a3 a2 a1 a0 v)) : LoopX E0 129 (fun next σ' => AW E0 129 (thenA next (AW E0 129 R K)) [.code c] .normal σ') σ :=
  LoopA.o (S := S_reader_Route_l1 a3 a2 a1 a0) hF (fun _ => rfl) hl round
def R_reader_Route (r : (List Int) × Int) : AV := .tup [.sl 1 (List.map aI (r.1)), aI (r.2)]
theorem con_reader_Route {n : Nat} {a0 : (List T_api_Schema)} {a1 : (List (List Int))} {a2 : Int} {a3 : T_api_Item} {r : (List Int) × Int} (hF : F_reader_Route n a0 a1 a2 a3 = some r) : Con E0 false 5 [.sl 2 (List.map e_api_Schema (a0)), .sl 1 (List.map (fun q => AV.sl 1 (List.map aI q)) (a1)), aI (a2), .agg [aI (a3.fKind), aI (a3.fEvent.fSource), aI (a3.fEvent.fSeq), aI (a3.fEvent.fType), aI (a3.fEvent.fTime), .sl 3 (List.map e_api_Value (a3.fEvent.fValues)), aI (a3.fNumber)]] (R_reader_Route r) := by
  unfold F_reader_Route at hF
  refine Con.walk _ Try.func5 rfl (enters_of Try.func5 rfl rfl) rfl (Or.inl rfl) ?_
  repeat' first
    | (refine AW.step ?_; conv => whnf)
    | (refine CondX.o hF (fun hF => ?_) (fun hF => ?_))
    | (refine CondX.t ?_)
    | (refine CondX.f ?_)
    | (refine CallX.o hF R_schema_CheckAll (fun a h => con_schema_CheckAll h) (fun a hF => ?_))
    | (refine CallX.o hF R_channel_Check (fun a h => con_channel_Check h) (fun a hF => ?_))
    | (refine LkX.o aI AV.bool hF (by first | rfl | kernel_rfl) eqK_3 (by repeat' first | exact Sub.nil _ | exact Sub.refl _ | refine Sub.agg ?_ | refine Sub.tup ?_ | refine Sub.fn ?_ | exact SubL.nil | refine SubL.cons ?_ ?_ | refine Sub.sl _ ?_ | exact SubE.nil | refine SubE.cons ?_ ?_) (fun v b hF => ?_))
    | (refine AppX.o aI hF (by first | exact SubR.refl _ | (repeat' first | exact SubR.nil | refine SubR.cons ?_ ?_ | exact SubL.nil | refine SubL.cons ?_ ?_ | exact Sub.refl _ | exact Sub.nil _)) (fun l hF => ?_))
    | (exact ⟨_, hF, LeX.of [(7126, 126)] rfl ⟨⟨rfl, rfl⟩, ⟨rfl, rfl⟩, ⟨rfl, rfl⟩, ⟨rfl, rfl⟩, trivial⟩ ⟨⟨rfl, rfl⟩, ⟨rfl, rfl⟩, trivial⟩⟩)
    | (exact ⟨_, hF, LeX.of [] rfl ⟨⟨rfl, rfl⟩, ⟨rfl, rfl⟩, ⟨rfl, rfl⟩, ⟨rfl, rfl⟩, trivial⟩ ⟨⟨rfl, rfl⟩, ⟨rfl, rfl⟩, trivial⟩⟩)
    | (refine reader_Route_l3_o hF (LeX.trans (LeX.adopt 27 7126 3 1 rfl rfl) (LeX.of [] rfl ⟨⟨rfl, rfl⟩, ⟨rfl, rfl⟩, ⟨rfl, rfl⟩, ⟨rfl, rfl⟩, trivial⟩ ⟨⟨rfl, rfl⟩, ⟨rfl, rfl⟩, trivial⟩)) (fun m v hF => ?_); unfold F_reader_Route_l3 at hF)
    | (refine UpX.o aI AV.bool hF (by first | rfl | kernel_rfl) eqK_3 (by repeat' first | exact Sub.nil _ | exact Sub.refl _ | refine Sub.agg ?_ | refine Sub.tup ?_ | refine Sub.fn ?_ | exact SubL.nil | refine SubL.cons ?_ ?_ | refine Sub.sl _ ?_ | exact SubE.nil | refine SubE.cons ?_ ?_) (fun l hF => ?_))
    | (exact ⟨_, hF, LeX.of [] rfl ⟨⟨rfl, rfl⟩, ⟨rfl, rfl⟩, ⟨rfl, rfl⟩, ⟨rfl, rfl⟩, trivial⟩ ⟨⟨rfl, rfl⟩, trivial⟩⟩)
    | (refine reader_Route_l2_o hF (LeX.of [] rfl ⟨⟨rfl, rfl⟩, ⟨rfl, rfl⟩, ⟨rfl, rfl⟩, ⟨rfl, rfl⟩, trivial⟩ ⟨⟨rfl, rfl⟩, trivial⟩) (fun m v hF => ?_); unfold F_reader_Route_l2 at hF)
    | (refine CallX.o hF R_event_Check (fun a h => con_event_Check h) (fun a hF => ?_))
    | (refine reader_Route_l5_o hF (LeX.trans (LeX.adopt 27 7126 3 1 rfl rfl) (LeX.of [] rfl ⟨⟨rfl, rfl⟩, ⟨rfl, rfl⟩, ⟨rfl, rfl⟩, ⟨rfl, rfl⟩, trivial⟩ ⟨⟨rfl, rfl⟩, ⟨rfl, rfl⟩, trivial⟩)) (fun m v hF => ?_); unfold F_reader_Route_l5 at hF)
    | (refine IdxX.o (fun q => AV.sl 1 (List.map aI q)) hF (fun x hF => ?_))
    | (refine CallX.o hF R_event_Key (fun a h => con_event_Key h) (fun a hF => ?_))
    | (refine CallX.o hF R_keygroup_Group (fun a h => con_keygroup_Group h) (fun a hF => ?_))
    | (refine CallX.o hF R_keygroup_Worker (fun a h => con_keygroup_Worker h) (fun a hF => ?_))
    | (exact ⟨_, hF, LeX.of [] rfl ⟨⟨rfl, rfl⟩, ⟨rfl, rfl⟩, ⟨rfl, rfl⟩, ⟨rfl, rfl⟩, ⟨rfl, rfl⟩, ⟨rfl, rfl⟩, ⟨rfl, rfl⟩, trivial⟩ ⟨⟨rfl, rfl⟩, ⟨rfl, rfl⟩, trivial⟩⟩)
    | (refine reader_Route_l4_o hF (LeX.of [] rfl ⟨⟨rfl, rfl⟩, ⟨rfl, rfl⟩, ⟨rfl, rfl⟩, ⟨rfl, rfl⟩, ⟨rfl, rfl⟩, ⟨rfl, rfl⟩, ⟨rfl, rfl⟩, trivial⟩ ⟨⟨rfl, rfl⟩, ⟨rfl, rfl⟩, trivial⟩) (fun m v hF => ?_); unfold F_reader_Route_l4 at hF)
    | (refine CallX.o hF R_reader_checkKey (fun a h => con_reader_checkKey h) (fun a hF => ?_))
    | (exact ⟨_, hF, LeX.of [] rfl ⟨⟨rfl, rfl⟩, ⟨rfl, rfl⟩, ⟨rfl, rfl⟩, ⟨rfl, rfl⟩, ⟨rfl, rfl⟩, ⟨rfl, rfl⟩, ⟨rfl, rfl⟩, trivial⟩ ⟨⟨rfl, rfl⟩, trivial⟩⟩)
    | (refine reader_Route_l1_o hF (LeX.of [] rfl ⟨⟨rfl, rfl⟩, ⟨rfl, rfl⟩, ⟨rfl, rfl⟩, ⟨rfl, rfl⟩, ⟨rfl, rfl⟩, ⟨rfl, rfl⟩, ⟨rfl, rfl⟩, trivial⟩ ⟨⟨rfl, rfl⟩, trivial⟩) (fun m v hF => ?_); unfold F_reader_Route_l1 at hF)
    | (refine And.intro ⟨by kernel_rfl, by kernel_rfl⟩ ?_)
    | (refine EqX.mk (by first | rfl | kernel_rfl) ?_)
    | (exact RetX.o hF (by repeat' first | exact Sub.nil _ | exact Sub.refl _ | refine Sub.agg ?_ | refine Sub.tup ?_ | refine Sub.fn ?_ | exact SubL.nil | refine SubL.cons ?_ ?_ | refine Sub.sl _ ?_ | exact SubE.nil | refine SubE.cons ?_ ?_))

def R_tidegatelaw47_event (r : T_api_Event) : AV := .agg [aI (r.fSource), aI (r.fSeq), aI (r.fType), aI (r.fTime), .sl 3 (List.map e_api_Value (r.fValues))]
theorem con_tidegatelaw47_event {n : Nat} {a0 : Int} {a1 : Int} {r : T_api_Event} (hF : F_tidegatelaw47_event n a0 a1 = some r) : Con E0 false 7 [aI (a0), aI (a1)] (R_tidegatelaw47_event r) := by
  unfold F_tidegatelaw47_event at hF
  refine Con.walk _ Try.func7 rfl (enters_of Try.func7 rfl rfl) rfl (Or.inl rfl) ?_
  repeat' first
    | (refine AW.step ?_; conv => whnf)
    | (refine CondX.o hF (fun hF => ?_) (fun hF => ?_))
    | (refine CondX.t ?_)
    | (refine CondX.f ?_)
    | (refine And.intro ⟨by kernel_rfl, by kernel_rfl⟩ ?_)
    | (refine EqX.mk (by first | rfl | kernel_rfl) ?_)
    | (exact RetX.o hF (by repeat' first | exact Sub.nil _ | exact Sub.refl _ | refine Sub.agg ?_ | refine Sub.tup ?_ | refine Sub.fn ?_ | exact SubL.nil | refine SubL.cons ?_ ?_ | refine Sub.sl _ ?_ | exact SubE.nil | refine SubE.cons ?_ ?_))

def R_tidegatelaw47_types (r : (List T_api_Schema)) : AV := .sl 2 (List.map e_api_Schema (r))
theorem con_tidegatelaw47_types {n : Nat} {r : (List T_api_Schema)} (hF : F_tidegatelaw47_types n = some r) : Con E0 false 10 [] (R_tidegatelaw47_types r) := by
  unfold F_tidegatelaw47_types at hF
  refine Con.walk _ Try.func10 rfl (enters_of Try.func10 rfl rfl) rfl (Or.inl rfl) ?_
  repeat' first
    | (refine AW.step ?_; conv => whnf)
    | (refine CondX.o hF (fun hF => ?_) (fun hF => ?_))
    | (refine CondX.t ?_)
    | (refine CondX.f ?_)
    | (refine And.intro ⟨by kernel_rfl, by kernel_rfl⟩ ?_)
    | (refine EqX.mk (by first | rfl | kernel_rfl) ?_)
    | (exact RetX.o hF (by repeat' first | exact Sub.nil _ | exact Sub.refl _ | refine Sub.agg ?_ | refine Sub.tup ?_ | refine Sub.fn ?_ | exact SubL.nil | refine SubL.cons ?_ ?_ | refine Sub.sl _ ?_ | exact SubE.nil | refine SubE.cons ?_ ?_))

def R_tidegatelaw47_awake (r : Bool) : AV := .bool (r)
theorem con_tidegatelaw47_awake {n : Nat} {r : Bool} (hF : F_tidegatelaw47_awake n = some r) : Con E0 true 4 [] (R_tidegatelaw47_awake r) := by
  unfold F_tidegatelaw47_awake at hF
  refine Con.walk _ Try.func4 rfl (enters_of Try.func4 rfl rfl) rfl (Or.inr rfl) ?_
  repeat' first
    | (refine AW.step ?_; conv => whnf)
    | (refine CondX.o hF (fun hF => ?_) (fun hF => ?_))
    | (refine CondX.t ?_)
    | (refine CondX.f ?_)
    | (refine CallX.o hF R_tidegatelaw47_event (fun a h => con_tidegatelaw47_event h) (fun a hF => ?_))
    | (refine CallX.o hF R_reader_Begin (fun a h => con_reader_Begin h) (fun a hF => ?_))
    | (refine CallX.o hF R_tidegatelaw47_types (fun a h => con_tidegatelaw47_types h) (fun a hF => ?_))
    | (refine CallX.o hF R_reader_Read (fun a h => con_reader_Read h) (fun a hF => ?_))
    | (refine CallX.o hF R_reader_Read (fun a h => Con.sub (by repeat' first | exact Sub.nil _ | exact Sub.refl _ | refine Sub.agg ?_ | refine Sub.tup ?_ | refine Sub.fn ?_ | exact SubL.nil | refine SubL.cons ?_ ?_ | refine Sub.sl _ ?_ | exact SubE.nil | refine SubE.cons ?_ ?_) (con_reader_Read h)) (fun a hF => ?_))
    | (refine CallX.o hF R_reader_Replay (fun a h => con_reader_Replay h) (fun a hF => ?_))
    | (refine CallX.o hF R_reader_Replay (fun a h => Con.sub (by repeat' first | exact Sub.nil _ | exact Sub.refl _ | refine Sub.agg ?_ | refine Sub.tup ?_ | refine Sub.fn ?_ | exact SubL.nil | refine SubL.cons ?_ ?_ | refine Sub.sl _ ?_ | exact SubE.nil | refine SubE.cons ?_ ?_) (con_reader_Replay h)) (fun a hF => ?_))
    | (refine CallX.o hF R_tidegateref46_SameItems (fun a h => con_tidegateref46_SameItems h) (fun a hF => ?_))
    | (refine CallX.o hF R_tidegateref46_SameItems (fun a h => Con.sub (by repeat' first | exact Sub.nil _ | exact Sub.refl _ | refine Sub.agg ?_ | refine Sub.tup ?_ | refine Sub.fn ?_ | exact SubL.nil | refine SubL.cons ?_ ?_ | refine Sub.sl _ ?_ | exact SubE.nil | refine SubE.cons ?_ ?_) (con_tidegateref46_SameItems h)) (fun a hF => ?_))
    | (refine CallX.o hF R_reader_Route (fun a h => con_reader_Route h) (fun a hF => ?_))
    | (refine CallX.o hF R_reader_Route (fun a h => Con.sub (by repeat' first | exact Sub.nil _ | exact Sub.refl _ | refine Sub.agg ?_ | refine Sub.tup ?_ | refine Sub.fn ?_ | exact SubL.nil | refine SubL.cons ?_ ?_ | refine Sub.sl _ ?_ | exact SubE.nil | refine SubE.cons ?_ ?_) (con_reader_Route h)) (fun a hF => ?_))
    | (refine CallX.o hF R_tidegateref34_SameInts (fun a h => con_tidegateref34_SameInts h) (fun a hF => ?_))
    | (refine And.intro ⟨by kernel_rfl, by kernel_rfl⟩ ?_)
    | (refine EqX.mk (by first | rfl | kernel_rfl) ?_)
    | (exact RetX.o hF (by repeat' first | exact Sub.nil _ | exact Sub.refl _ | refine Sub.agg ?_ | refine Sub.tup ?_ | refine Sub.fn ?_ | exact SubL.nil | refine SubL.cons ?_ ?_ | refine Sub.sl _ ?_ | exact SubE.nil | refine SubE.cons ?_ ?_))

def S_tidegatelaw47_ReaderGathers_l2 (a2 : T_tidegatelaw47_Routing) (a0 : T_api_Event) (x54 : (List Int) × Int) (v2_1 : Int) : AS := ⟨[(3, .ptr 3 0), (5, .ptr 5 0), (7, .sl 2 [.agg [.str ((ByteArray.mk #[65])), .sl 2 [.agg [.str ((ByteArray.mk #[120])), aI (0)], .agg [.str ((ByteArray.mk #[115])), aI (2)]]]]), (16, .sl 1 (List.map aI (x54.1))), (17, aI (v2_1))], [(3, .box 24 [aI (a0.fSource), aI (a0.fSeq), aI (a0.fType), aI (a0.fTime), .sl 3 (List.map e_api_Value (a0.fValues))]), (5, .box 27 [.sl 1 (List.map (fun q => AV.sl 1 (List.map aI q)) (a2.fKeys)), aI (a2.fWorkers)])]⟩
theorem tidegatelaw47_ReaderGathers_l2_o {n N : Nat} {a2 : T_tidegatelaw47_Routing} {a0 : T_api_Event} {x54 : (List Int) × Int} {k2_1_0 : Option (Bool)} {R : Exit → AS → Prop} {K : List KItem} {c : Code} {σ : AS} {v0 : Int} {r : Bool} (hF : F_tidegatelaw47_ReaderGathers_l2 n a2 a0 x54 k2_1_0 N v0 = some r) (hl : LeX E0 221 σ (S_tidegatelaw47_ReaderGathers_l2 a2 a0 x54 v0)) (round : ∀ m v, F_tidegatelaw47_ReaderGathers_l2 n a2 a0 x54 k2_1_0 (m + 1) v = some r → AW E0 221 (thenA (fun σ' => ∃ v', F_tidegatelaw47_ReaderGathers_l2 n a2 a0 x54 k2_1_0 m v' = some r ∧ LeX E0 221 σ' (S_tidegatelaw47_ReaderGathers_l2 a2 a0 x54 v')) (AW E0 221 R K)) [.code c] .normal (S_tidegatelaw47_ReaderGathers_l2 a2 a0 x54 v)) : LoopX E0 221 (fun next σ' => AW E0 221 (thenA next (AW E0 221 R K)) [.code c] .normal σ') σ :=
  LoopA.o (S := S_tidegatelaw47_ReaderGathers_l2 a2 a0 x54) hF (fun _ => rfl) hl round
def S_tidegatelaw47_ReaderGathers_l1 (a2 : T_tidegatelaw47_Routing) (a0 : T_api_Event) (x7 : (List Int) × Int) (x9 : (List Int) × Int) (v1_0 : Bool × Int) : AS := ⟨[(3, .ptr 3 0), (5, .ptr 5 0), (7, .sl 2 [.agg [.str ((ByteArray.mk #[65])), .sl 2 [.agg [.str ((ByteArray.mk #[120])), aI (0)], .agg [.str ((ByteArray.mk #[115])), aI (2)]]]]), (8, .sl 1 (List.map aI (x7.1))), (12, .sl 1 (List.map aI (x9.1))), (14, .bool (v1_0.1)), (15, aI (v1_0.2))], [(3, .box 24 [aI (a0.fSource), aI (a0.fSeq), aI (a0.fType), aI (a0.fTime), .sl 3 (List.map e_api_Value (a0.fValues))]), (5, .box 27 [.sl 1 (List.map (fun q => AV.sl 1 (List.map aI q)) (a2.fKeys)), aI (a2.fWorkers)])]⟩
theorem tidegatelaw47_ReaderGathers_l1_o {n N : Nat} {a2 : T_tidegatelaw47_Routing} {a0 : T_api_Event} {x7 : (List Int) × Int} {x9 : (List Int) × Int} {k1_0_0 : Bool → Option (Bool)} {R : Exit → AS → Prop} {K : List KItem} {c : Code} {σ : AS} {v0 : Bool × Int} {r : Bool} (hF : F_tidegatelaw47_ReaderGathers_l1 n a2 a0 x7 x9 k1_0_0 N v0 = some r) (hl : LeX E0 221 σ (S_tidegatelaw47_ReaderGathers_l1 a2 a0 x7 x9 v0)) (round : ∀ m v, F_tidegatelaw47_ReaderGathers_l1 n a2 a0 x7 x9 k1_0_0 (m + 1) v = some r → AW E0 221 (thenA (fun σ' => ∃ v', F_tidegatelaw47_ReaderGathers_l1 n a2 a0 x7 x9 k1_0_0 m v' = some r ∧ LeX E0 221 σ' (S_tidegatelaw47_ReaderGathers_l1 a2 a0 x7 x9 v')) (AW E0 221 R K)) [.code c] .normal (S_tidegatelaw47_ReaderGathers_l1 a2 a0 x7 x9 v)) : LoopX E0 221 (fun next σ' => AW E0 221 (thenA next (AW E0 221 R K)) [.code c] .normal σ') σ :=
  LoopA.o (S := S_tidegatelaw47_ReaderGathers_l1 a2 a0 x7 x9) hF (fun _ => rfl) hl round
def R_tidegatelaw47_ReaderGathers (r : Bool) : AV := .bool (r)
theorem con_tidegatelaw47_ReaderGathers {n : Nat} {a0 : T_api_Event} {a1 : T_api_Event} {a2 : T_tidegatelaw47_Routing} {r : Bool} (hF : F_tidegatelaw47_ReaderGathers n a0 a1 a2 = some r) : Con E0 true 3 [.agg [aI (a0.fSource), aI (a0.fSeq), aI (a0.fType), aI (a0.fTime), .sl 3 (List.map e_api_Value (a0.fValues))], .agg [aI (a1.fSource), aI (a1.fSeq), aI (a1.fType), aI (a1.fTime), .sl 3 (List.map e_api_Value (a1.fValues))], .agg [.sl 1 (List.map (fun q => AV.sl 1 (List.map aI q)) (a2.fKeys)), aI (a2.fWorkers)]] (R_tidegatelaw47_ReaderGathers r) := by
  unfold F_tidegatelaw47_ReaderGathers at hF
  refine Con.walk _ Try.func3 rfl (enters_of Try.func3 rfl rfl) rfl (Or.inr rfl) ?_
  repeat' first
    | (refine AW.step ?_; conv => whnf)
    | (refine CondX.o hF (fun hF => ?_) (fun hF => ?_))
    | (refine CondX.t ?_)
    | (refine CondX.f ?_)
    | (refine CallX.o hF R_tidegatelaw47_awake (fun a h => con_tidegatelaw47_awake h) (fun a hF => ?_))
    | (refine IdxX.o e_api_Value hF (fun x hF => ?_))
    | (refine CallX.o hF R_reader_Route (fun a h => con_reader_Route h) (fun a hF => ?_))
    | (refine CallX.o hF R_reader_Route (fun a h => Con.sub (by repeat' first | exact Sub.nil _ | exact Sub.refl _ | refine Sub.agg ?_ | refine Sub.tup ?_ | refine Sub.fn ?_ | exact SubL.nil | refine SubL.cons ?_ ?_ | refine Sub.sl _ ?_ | exact SubE.nil | refine SubE.cons ?_ ?_) (con_reader_Route h)) (fun a hF => ?_))
    | (refine CallX.o hF R_tidegateref34_SameInts (fun a h => con_tidegateref34_SameInts h) (fun a hF => ?_))
    | (refine IdxX.o aI hF (fun x hF => ?_))
    | (exact ⟨_, hF, LeX.of [] rfl ⟨⟨rfl, rfl⟩, ⟨rfl, rfl⟩, ⟨rfl, rfl⟩, ⟨rfl, rfl⟩, ⟨rfl, rfl⟩, trivial⟩ ⟨⟨rfl, rfl⟩, ⟨rfl, rfl⟩, trivial⟩⟩)
    | (refine tidegatelaw47_ReaderGathers_l2_o hF (LeX.of [] rfl ⟨⟨rfl, rfl⟩, ⟨rfl, rfl⟩, ⟨rfl, rfl⟩, ⟨rfl, rfl⟩, ⟨rfl, rfl⟩, trivial⟩ ⟨⟨rfl, rfl⟩, ⟨rfl, rfl⟩, trivial⟩) (fun m v hF => ?_); unfold F_tidegatelaw47_ReaderGathers_l2 at hF)
    | (exact ⟨_, hF, LeX.of [] rfl ⟨⟨rfl, rfl⟩, ⟨rfl, rfl⟩, ⟨rfl, rfl⟩, ⟨rfl, rfl⟩, ⟨rfl, rfl⟩, ⟨rfl, rfl⟩, ⟨rfl, rfl⟩, trivial⟩ ⟨⟨rfl, rfl⟩, ⟨rfl, rfl⟩, trivial⟩⟩)
    | (refine tidegatelaw47_ReaderGathers_l1_o hF (LeX.of [] rfl ⟨⟨rfl, rfl⟩, ⟨rfl, rfl⟩, ⟨rfl, rfl⟩, ⟨rfl, rfl⟩, ⟨rfl, rfl⟩, ⟨rfl, rfl⟩, ⟨rfl, rfl⟩, trivial⟩ ⟨⟨rfl, rfl⟩, ⟨rfl, rfl⟩, trivial⟩) (fun m v hF => ?_); unfold F_tidegatelaw47_ReaderGathers_l1 at hF)
    | (refine And.intro ⟨by kernel_rfl, by kernel_rfl⟩ ?_)
    | (refine EqX.mk (by first | rfl | kernel_rfl) ?_)
    | (exact RetX.o hF (by repeat' first | exact Sub.nil _ | exact Sub.refl _ | refine Sub.agg ?_ | refine Sub.tup ?_ | refine Sub.fn ?_ | exact SubL.nil | refine SubL.cons ?_ ?_ | refine Sub.sl _ ?_ | exact SubE.nil | refine SubE.cons ?_ ?_))

end Go.Proofs.Ytcbdhigllelmcaa
namespace Go.Proofs.Ytcbdhigllelmcaa
open Go.RowKit
theorem gathers_con47 (a b : Ev47) (rt : T_tidegatelaw47_Routing) : Con E0 true 3 [e_api_Event a, e_api_Event b, e_tidegatelaw47_Routing rt] (.bool true) := con_tidegatelaw47_ReaderGathers (law_gathers47 a b rt)
end Go.Proofs.Ytcbdhigllelmcaa
