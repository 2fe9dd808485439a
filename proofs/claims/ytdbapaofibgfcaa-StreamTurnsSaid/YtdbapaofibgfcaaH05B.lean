/- What some functions compute, over plain values. Printed by a program of mine (gen_fun.lean). -/
import Derived.Test.YtdbapaofibgfcaaH05A
set_option linter.unusedVariables false
set_option linter.unusedSimpArgs false
set_option maxRecDepth 100000
set_option maxHeartbeats 8000000
namespace Go.Proofs.Ytdbapaofibgfcaa
open Go.RowKit
theorem conT_tidegateref05_put {n : Nat} {a0 : (List T_api_Event)} {a1 : T_api_Event} {r : (List T_api_Event)} (hF : F_tidegateref05_put n a0 a1 = some r) : ConT E0 63 [.sl 5 (List.map e_api_Event (a0)), .agg [aI (a1.fSource), aI (a1.fSeq), aI (a1.fType), aI (a1.fTime), .sl 3 (List.map e_api_Value (a1.fValues))]] 51 5 (List.map e_api_Event (r)) (T_tidegateref05_put r) := by
  unfold F_tidegateref05_put at hF
  refine ConT.walk _ Try.func63 rfl (enters_of Try.func63 rfl rfl) rfl rfl ?_
  repeat' first
    | (refine AW.step ?_; conv => whnf)
    | (refine CondX.o hF (fun hF => ?_) (fun hF => ?_))
    | (refine CondX.t ?_)
    | (refine CondX.f ?_)
    | (refine AppX.o e_api_Event hF (by first | exact SubR.refl _ | (repeat' first | exact SubR.nil | refine SubR.cons ?_ ?_ | exact SubL.nil | refine SubL.cons ?_ ?_ | exact Sub.refl _ | exact Sub.nil _)) (fun l hF => ?_))
    | (refine SlsX.o e_api_Event hF (fun l hF => ?_))
    | (refine IdxX.o e_api_Event hF (fun x hF => ?_))
    | (refine CallX.o hF R_tidegateref05_Ref (fun a h => con_tidegateref05_Ref h) (fun a hF => ?_))
    | (refine CallX.o hF R_tidegateref05_Order (fun a h => con_tidegateref05_Order h) (fun a hF => ?_))
    | (exact ⟨_, hF, LeX.of [(7028, 28)] rfl ⟨⟨rfl, rfl⟩, ⟨rfl, rfl⟩, ⟨rfl, rfl⟩, ⟨rfl, rfl⟩, trivial⟩ ⟨⟨rfl, rfl⟩, ⟨rfl, rfl⟩, trivial⟩⟩)
    | (refine tidegateref05_put_l1_o hF (LeX.trans (LeX.adopt 5 7028 51 5 rfl rfl) (LeX.of [] rfl ⟨⟨rfl, rfl⟩, ⟨rfl, rfl⟩, ⟨rfl, rfl⟩, ⟨rfl, rfl⟩, trivial⟩ ⟨⟨rfl, rfl⟩, ⟨rfl, rfl⟩, trivial⟩)) (fun m v hF => ?_); unfold F_tidegateref05_put_l1 at hF)
    | (refine And.intro ⟨by kernel_rfl, by kernel_rfl⟩ ?_)
    | (refine EqX.mk (by first | rfl | kernel_rfl) ?_)
    | (refine TX.o (rl := fun r => List.map e_api_Event (r)) (res := T_tidegateref05_put) hF ?_; exact TX.mk _ 39 (LeX.refl _ _ _) _ rfl rfl (by repeat' first | exact Sub.nil _ | exact Sub.refl _ | refine Sub.agg ?_ | refine Sub.tup ?_ | refine Sub.fn ?_ | exact SubL.nil | refine SubL.cons ?_ ?_ | refine Sub.sl _ ?_ | exact SubE.nil | refine SubE.cons ?_ ?_))
    | (refine TX.o (rl := fun r => List.map e_api_Event (r)) (res := T_tidegateref05_put) hF ?_; exact TX.mk _ 34 (LeX.refl _ _ _) _ rfl rfl (by repeat' first | exact Sub.nil _ | exact Sub.refl _ | refine Sub.agg ?_ | refine Sub.tup ?_ | refine Sub.fn ?_ | exact SubL.nil | refine SubL.cons ?_ ?_ | refine Sub.sl _ ?_ | exact SubE.nil | refine SubE.cons ?_ ?_))
    | (refine TX.o (rl := fun r => List.map e_api_Event (r)) (res := T_tidegateref05_put) hF ?_; exact TX.mk _ 7028 (LeX.refl _ _ _) _ rfl rfl (by repeat' first | exact Sub.nil _ | exact Sub.refl _ | refine Sub.agg ?_ | refine Sub.tup ?_ | refine Sub.fn ?_ | exact SubL.nil | refine SubL.cons ?_ ?_ | refine Sub.sl _ ?_ | exact SubE.nil | refine SubE.cons ?_ ?_))
    | (refine TX.o (rl := fun r => List.map e_api_Event (r)) (res := T_tidegateref05_put) hF ?_; exact TX.mk _ 28 (LeX.refl _ _ _) _ rfl rfl (by repeat' first | exact Sub.nil _ | exact Sub.refl _ | refine Sub.agg ?_ | refine Sub.tup ?_ | refine Sub.fn ?_ | exact SubL.nil | refine SubL.cons ?_ ?_ | refine Sub.sl _ ?_ | exact SubE.nil | refine SubE.cons ?_ ?_))
    | (refine TX.o (rl := fun r => List.map e_api_Event (r)) (res := T_tidegateref05_put) hF ?_; exact TX.mk _ 9000 (LeX.adopt 4 9000 51 5 rfl rfl) _ rfl rfl (by repeat' first | exact Sub.nil _ | exact Sub.refl _ | refine Sub.agg ?_ | refine Sub.tup ?_ | refine Sub.fn ?_ | exact SubL.nil | refine SubL.cons ?_ ?_ | refine Sub.sl _ ?_ | exact SubE.nil | refine SubE.cons ?_ ?_))

def S_tidegateref05_Sorted_l1 (a0 : (List T_api_Event)) (v1_0 : (List T_api_Event) × Int) : AS := ⟨[(0, .sl 5 (List.map e_api_Event (a0))), (3, .sl 5 (List.map e_api_Event (v1_0.1))), (4, aI (v1_0.2))], []⟩
theorem tidegateref05_Sorted_l1_o {n N : Nat} {a0 : (List T_api_Event)} {k1_0_0 : (List T_api_Event) → Option ((List T_api_Event))} {R : Exit → AS → Prop} {K : List KItem} {c : Code} {σ : AS} {v0 : (List T_api_Event) × Int} {r : (List T_api_Event)} (hF : F_tidegateref05_Sorted_l1 n a0 k1_0_0 N v0 = some r) (hl : LeX E0 25 σ (S_tidegateref05_Sorted_l1 a0 v0)) (round : ∀ m v, F_tidegateref05_Sorted_l1 n a0 k1_0_0 (m + 1) v = some r → AW E0 25 (thenA (fun σ' => ∃ v', F_tidegateref05_Sorted_l1 n a0 k1_0_0 m v' = some r ∧ LeX E0 25 σ' (S_tidegateref05_Sorted_l1 a0 v')) (AW E0 25 R K)) [.code c] .normal (S_tidegateref05_Sorted_l1 a0 v)) : LoopX E0 25 (fun next σ' => AW E0 25 (thenA next (AW E0 25 R K)) [.code c] .normal σ') σ :=
  LoopA.o (S := S_tidegateref05_Sorted_l1 a0) hF (fun _ => rfl) hl round
def R_tidegateref05_Sorted (r : (List T_api_Event)) : AV := .sl 5 (List.map e_api_Event (r))
theorem con_tidegateref05_Sorted {n : Nat} {a0 : (List T_api_Event)} {r : (List T_api_Event)} (hF : F_tidegateref05_Sorted n a0 = some r) : Con E0 false 52 [.sl 5 (List.map e_api_Event (a0))] (R_tidegateref05_Sorted r) := by
  unfold F_tidegateref05_Sorted at hF
  refine Con.walk _ Try.func52 rfl (enters_of Try.func52 rfl rfl) rfl (Or.inl rfl) ?_
  repeat' first
    | (refine AW.step ?_; conv => whnf)
    | (refine CondX.o hF (fun hF => ?_) (fun hF => ?_))
    | (refine CondX.t ?_)
    | (refine CondX.f ?_)
    | (refine IdxX.o e_api_Event hF (fun x hF => ?_))
    | (refine CallX.o hF R_tidegateref05_Has (fun a h => con_tidegateref05_Has h) (fun a hF => ?_))
    | (refine CallX.o hF R_tidegateref05_put (fun a h => con_tidegateref05_put h) (fun a hF => ?_))
    | (exact ⟨_, hF, LeX.of [] rfl ⟨⟨rfl, rfl⟩, ⟨rfl, rfl⟩, ⟨rfl, rfl⟩, trivial⟩ trivial⟩)
    | (refine tidegateref05_Sorted_l1_o hF (LeX.trans (LeX.put 3 _ (by repeat' first | exact Sub.nil _ | exact Sub.refl _ | refine Sub.agg ?_ | refine Sub.tup ?_ | refine Sub.fn ?_ | exact SubL.nil | refine SubL.cons ?_ ?_ | refine Sub.sl _ ?_ | exact SubE.nil | refine SubE.cons ?_ ?_)) (LeX.of [] rfl ⟨⟨rfl, rfl⟩, ⟨rfl, rfl⟩, ⟨rfl, rfl⟩, trivial⟩ trivial)) (fun m v hF => ?_); unfold F_tidegateref05_Sorted_l1 at hF)
    | (refine And.intro ⟨by kernel_rfl, by kernel_rfl⟩ ?_)
    | (refine EqX.mk (by first | rfl | kernel_rfl) ?_)
    | (exact RetX.o hF (by repeat' first | exact Sub.nil _ | exact Sub.refl _ | refine Sub.agg ?_ | refine Sub.tup ?_ | refine Sub.fn ?_ | exact SubL.nil | refine SubL.cons ?_ ?_ | refine Sub.sl _ ?_ | exact SubE.nil | refine SubE.cons ?_ ?_))

def S_tidegateref05_Sort_l1 (a0 : (List T_api_Event)) (v1_0 : Int) : AS := ⟨[(0, .sl 5 (List.map e_api_Event (a0))), (5, aI (v1_0))], []⟩
theorem tidegateref05_Sort_l1_o {n N : Nat} {a0 : (List T_api_Event)} {k1_0_0 : Option ((List T_api_Event) × Int)} {R : Exit → AS → Prop} {K : List KItem} {c : Code} {σ : AS} {v0 : Int} {r : (List T_api_Event) × Int} (hF : F_tidegateref05_Sort_l1 n a0 k1_0_0 N v0 = some r) (hl : LeX E0 25 σ (S_tidegateref05_Sort_l1 a0 v0)) (round : ∀ m v, F_tidegateref05_Sort_l1 n a0 k1_0_0 (m + 1) v = some r → AW E0 25 (thenA (fun σ' => ∃ v', F_tidegateref05_Sort_l1 n a0 k1_0_0 m v' = some r ∧ LeX E0 25 σ' (S_tidegateref05_Sort_l1 a0 v')) (AW E0 25 R K)) [.code c] .normal (S_tidegateref05_Sort_l1 a0 v)) : LoopX E0 25 (fun next σ' => AW E0 25 (thenA next (AW E0 25 R K)) [.code c] .normal σ') σ :=
  LoopA.o (S := S_tidegateref05_Sort_l1 a0) hF (fun _ => rfl) hl round
def R_tidegateref05_Sort (r : (List T_api_Event) × Int) : AV := .tup [.sl 5 (List.map e_api_Event (r.1)), aI (r.2)]
theorem con_tidegateref05_Sort {n : Nat} {a0 : (List T_api_Event)} {r : (List T_api_Event) × Int} (hF : F_tidegateref05_Sort n a0 = some r) : Con E0 false 15 [.sl 5 (List.map e_api_Event (a0))] (R_tidegateref05_Sort r) := by
  unfold F_tidegateref05_Sort at hF
  refine Con.walk _ Try.func15 rfl (enters_of Try.func15 rfl rfl) rfl (Or.inl rfl) ?_
  repeat' first
    | (refine AW.step ?_; conv => whnf)
    | (refine CondX.o hF (fun hF => ?_) (fun hF => ?_))
    | (refine CondX.t ?_)
    | (refine CondX.f ?_)
    | (refine CallX.o hF R_tidegateref05_list (fun a h => con_tidegateref05_list h) (fun a hF => ?_))
    | (refine CallX.o hF R_tidegateref05_Sorted (fun a h => con_tidegateref05_Sorted h) (fun a hF => ?_))
    | (refine IdxX.o e_api_Event hF (fun x hF => ?_))
    | (refine CallX.o hF R_tidegateref05_conflict (fun a h => con_tidegateref05_conflict h) (fun a hF => ?_))
    | (exact ⟨_, hF, LeX.of [] rfl ⟨⟨rfl, rfl⟩, ⟨rfl, rfl⟩, trivial⟩ trivial⟩)
    | (refine tidegateref05_Sort_l1_o hF (LeX.of [] rfl ⟨⟨rfl, rfl⟩, ⟨rfl, rfl⟩, trivial⟩ trivial) (fun m v hF => ?_); unfold F_tidegateref05_Sort_l1 at hF)
    | (refine And.intro ⟨by kernel_rfl, by kernel_rfl⟩ ?_)
    | (refine EqX.mk (by first | rfl | kernel_rfl) ?_)
    | (exact RetX.o hF (by repeat' first | exact Sub.nil _ | exact Sub.refl _ | refine Sub.agg ?_ | refine Sub.tup ?_ | refine Sub.fn ?_ | exact SubL.nil | refine SubL.cons ?_ ?_ | refine Sub.sl _ ?_ | exact SubE.nil | refine SubE.cons ?_ ?_))

def R_stream_compare (r : Int) : AV := aI (r)
theorem con_stream_compare {n : Nat} {a0 : T_api_Event} {a1 : T_api_Ref} {r : Int} (hF : F_stream_compare n a0 a1 = some r) : Con E0 true 59 [.agg [aI (a0.fSource), aI (a0.fSeq), aI (a0.fType), aI (a0.fTime), .sl 3 (List.map e_api_Value (a0.fValues))], .agg [aI (a1.fTime), aI (a1.fSource), aI (a1.fSeq)]] (R_stream_compare r) := by
  unfold F_stream_compare at hF
  refine Con.walk _ Try.func59 rfl (enters_of Try.func59 rfl rfl) rfl (Or.inr rfl) ?_
  repeat' first
    | (refine AW.step ?_; conv => whnf)
    | (refine CondX.o hF (fun hF => ?_) (fun hF => ?_))
    | (refine CondX.t ?_)
    | (refine CondX.f ?_)
    | (refine CallX.o hF R_cmp_Compare_d (fun a h => con_cmpI h) (fun a hF => ?_))
    | (refine CallX.o hF R_cmp_Or_d (fun a h => con_cmpOr h) (fun a hF => ?_))
    | (refine And.intro ⟨by kernel_rfl, by kernel_rfl⟩ ?_)
    | (refine EqX.mk (by first | rfl | kernel_rfl) ?_)
    | (exact RetX.o hF (by repeat' first | exact Sub.nil _ | exact Sub.refl _ | refine Sub.agg ?_ | refine Sub.tup ?_ | refine Sub.fn ?_ | exact SubL.nil | refine SubL.cons ?_ ?_ | refine Sub.sl _ ?_ | exact SubE.nil | refine SubE.cons ?_ ?_))

def S_slices_BinarySearchFunc_l1 (a1 : T_api_Ref) (a0 : (List T_api_Event)) (v1_0 : Int × Int) : AS := ⟨[(0, .sl 5 (List.map e_api_Event (a0))), (2, .fn 59 []), (4, .ptr 4 0), (8, aI ((((List.map e_api_Event (a0)).length : Nat) : Int))), (9, aI (v1_0.1)), (10, aI (v1_0.2))], [(4, .box 34 [aI (a1.fTime), aI (a1.fSource), aI (a1.fSeq)])]⟩
theorem slices_BinarySearchFunc_l1_o {n N : Nat} {a1 : T_api_Ref} {a0 : (List T_api_Event)} {k1_0_0 : Int → Option (Int × Bool)} {R : Exit → AS → Prop} {K : List KItem} {c : Code} {σ : AS} {v0 : Int × Int} {r : Int × Bool} (hF : F_slices_BinarySearchFunc_l1 n a1 a0 k1_0_0 N v0 = some r) (hl : LeX E0 49 σ (S_slices_BinarySearchFunc_l1 a1 a0 v0)) (round : ∀ m v, F_slices_BinarySearchFunc_l1 n a1 a0 k1_0_0 (m + 1) v = some r → AW E0 49 (thenA (fun σ' => ∃ v', F_slices_BinarySearchFunc_l1 n a1 a0 k1_0_0 m v' = some r ∧ LeX E0 49 σ' (S_slices_BinarySearchFunc_l1 a1 a0 v')) (AW E0 49 R K)) [.code c] .normal (S_slices_BinarySearchFunc_l1 a1 a0 v)) : LoopX E0 49 (fun next σ' => AW E0 49 (thenA next (AW E0 49 R K)) [.code c] .normal σ') σ :=
  LoopA.o (S := S_slices_BinarySearchFunc_l1 a1 a0) hF (fun _ => rfl) hl round
def R_slices_BinarySearchFunc (r : Int × Bool) : AV := .tup [aI (r.1), .bool (r.2)]
theorem con_slices_BinarySearchFunc {n : Nat} {a0 : (List T_api_Event)} {a1 : T_api_Ref} {r : Int × Bool} (hF : F_slices_BinarySearchFunc n a0 a1 = some r) : Con E0 true 58 [.sl 5 (List.map e_api_Event (a0)), .agg [aI (a1.fTime), aI (a1.fSource), aI (a1.fSeq)], .fn 59 []] (R_slices_BinarySearchFunc r) := by
  unfold F_slices_BinarySearchFunc at hF
  refine Con.walk _ Try.func58 rfl (enters_of Try.func58 rfl rfl) rfl (Or.inr rfl) ?_
  repeat' first
    | (refine AW.step ?_; conv => whnf)
    | (refine CondX.o hF (fun hF => ?_) (fun hF => ?_))
    | (refine CondX.t ?_)
    | (refine CondX.f ?_)
    | (refine IdxX.o e_api_Event hF (fun x hF => ?_))
    | (refine CallX.o hF R_stream_compare (fun a h => con_stream_compare h) (fun a hF => ?_))
    | (exact ⟨_, hF, LeX.of [] rfl ⟨⟨rfl, rfl⟩, ⟨rfl, rfl⟩, ⟨rfl, rfl⟩, ⟨rfl, rfl⟩, ⟨rfl, rfl⟩, ⟨rfl, rfl⟩, trivial⟩ ⟨⟨rfl, rfl⟩, trivial⟩⟩)
    | (refine ShX.o hF (fun hF => ?_))
    | (refine slices_BinarySearchFunc_l1_o hF (LeX.of [] rfl ⟨⟨rfl, rfl⟩, ⟨rfl, rfl⟩, ⟨rfl, rfl⟩, ⟨rfl, rfl⟩, ⟨rfl, rfl⟩, ⟨rfl, rfl⟩, trivial⟩ ⟨⟨rfl, rfl⟩, trivial⟩) (fun m v hF => ?_); unfold F_slices_BinarySearchFunc_l1 at hF)
    | (refine And.intro ⟨by kernel_rfl, by kernel_rfl⟩ ?_)
    | (refine EqX.mk (by first | rfl | kernel_rfl) ?_)
    | (exact RetX.o hF (by repeat' first | exact Sub.nil _ | exact Sub.refl _ | refine Sub.agg ?_ | refine Sub.tup ?_ | refine Sub.fn ?_ | exact SubL.nil | refine SubL.cons ?_ ?_ | refine Sub.sl _ ?_ | exact SubE.nil | refine SubE.cons ?_ ?_))

def R_stream_Find (r : Int × Bool × Int) : AV := .tup [aI (r.1), .bool (r.2.1), aI (r.2.2)]
theorem con_stream_Find {n : Nat} {a0 : (List T_api_Event)} {a1 : T_api_Ref} {r : Int × Bool × Int} (hF : F_stream_Find n a0 a1 = some r) : Con E0 true 19 [.sl 5 (List.map e_api_Event (a0)), .agg [aI (a1.fTime), aI (a1.fSource), aI (a1.fSeq)]] (R_stream_Find r) := by
  unfold F_stream_Find at hF
  refine Con.walk _ Try.func19 rfl (enters_of Try.func19 rfl rfl) rfl (Or.inr rfl) ?_
  repeat' first
    | (refine AW.step ?_; conv => whnf)
    | (refine CondX.o hF (fun hF => ?_) (fun hF => ?_))
    | (refine CondX.t ?_)
    | (refine CondX.f ?_)
    | (refine CallX.o hF R_stream_Check (fun a h => con_stream_Check h) (fun a hF => ?_))
    | (refine CallX.o hF R_slices_BinarySearchFunc (fun a h => con_slices_BinarySearchFunc h) (fun a hF => ?_))
    | (refine And.intro ⟨by kernel_rfl, by kernel_rfl⟩ ?_)
    | (refine EqX.mk (by first | rfl | kernel_rfl) ?_)
    | (exact RetX.o hF (by repeat' first | exact Sub.nil _ | exact Sub.refl _ | refine Sub.agg ?_ | refine Sub.tup ?_ | refine Sub.fn ?_ | exact SubL.nil | refine SubL.cons ?_ ?_ | refine Sub.sl _ ?_ | exact SubE.nil | refine SubE.cons ?_ ?_))

def S_tidegateref05_Find_l1 (a1 : T_api_Ref) (a0 : (List T_api_Event)) (v1_0 : Int) : AS := ⟨[(0, .sl 5 (List.map e_api_Event (a0))), (3, .ptr 3 0), (8, aI (v1_0))], [(3, .box 34 [aI (a1.fTime), aI (a1.fSource), aI (a1.fSeq)])]⟩
theorem tidegateref05_Find_l1_o {n N : Nat} {a1 : T_api_Ref} {a0 : (List T_api_Event)} {k1_0_0 : Int → Option (Int × Bool × Int)} {R : Exit → AS → Prop} {K : List KItem} {c : Code} {σ : AS} {v0 : Int} {r : Int × Bool × Int} (hF : F_tidegateref05_Find_l1 n a1 a0 k1_0_0 N v0 = some r) (hl : LeX E0 44 σ (S_tidegateref05_Find_l1 a1 a0 v0)) (round : ∀ m v, F_tidegateref05_Find_l1 n a1 a0 k1_0_0 (m + 1) v = some r → AW E0 44 (thenA (fun σ' => ∃ v', F_tidegateref05_Find_l1 n a1 a0 k1_0_0 m v' = some r ∧ LeX E0 44 σ' (S_tidegateref05_Find_l1 a1 a0 v')) (AW E0 44 R K)) [.code c] .normal (S_tidegateref05_Find_l1 a1 a0 v)) : LoopX E0 44 (fun next σ' => AW E0 44 (thenA next (AW E0 44 R K)) [.code c] .normal σ') σ :=
  LoopA.o (S := S_tidegateref05_Find_l1 a1 a0) hF (fun _ => rfl) hl round
def R_tidegateref05_Find (r : Int × Bool × Int) : AV := .tup [aI (r.1), .bool (r.2.1), aI (r.2.2)]
theorem con_tidegateref05_Find {n : Nat} {a0 : (List T_api_Event)} {a1 : T_api_Ref} {r : Int × Bool × Int} (hF : F_tidegateref05_Find n a0 a1 = some r) : Con E0 true 20 [.sl 5 (List.map e_api_Event (a0)), .agg [aI (a1.fTime), aI (a1.fSource), aI (a1.fSeq)]] (R_tidegateref05_Find r) := by
  unfold F_tidegateref05_Find at hF
  refine Con.walk _ Try.func20 rfl (enters_of Try.func20 rfl rfl) rfl (Or.inr rfl) ?_
  repeat' first
    | (refine AW.step ?_; conv => whnf)
    | (refine CondX.o hF (fun hF => ?_) (fun hF => ?_))
    | (refine CondX.t ?_)
    | (refine CondX.f ?_)
    | (refine CallX.o hF R_tidegateref05_Check (fun a h => con_tidegateref05_Check h) (fun a hF => ?_))
    | (refine IdxX.o e_api_Event hF (fun x hF => ?_))
    | (refine CallX.o hF R_tidegateref05_Ref (fun a h => con_tidegateref05_Ref h) (fun a hF => ?_))
    | (refine CallX.o hF R_tidegateref05_Order (fun a h => con_tidegateref05_Order h) (fun a hF => ?_))
    | (exact ⟨_, hF, LeX.of [] rfl ⟨⟨rfl, rfl⟩, ⟨rfl, rfl⟩, ⟨rfl, rfl⟩, trivial⟩ ⟨⟨rfl, rfl⟩, trivial⟩⟩)
    | (refine tidegateref05_Find_l1_o hF (LeX.of [] rfl ⟨⟨rfl, rfl⟩, ⟨rfl, rfl⟩, ⟨rfl, rfl⟩, trivial⟩ ⟨⟨rfl, rfl⟩, trivial⟩) (fun m v hF => ?_); unfold F_tidegateref05_Find_l1 at hF)
    | (refine And.intro ⟨by kernel_rfl, by kernel_rfl⟩ ?_)
    | (refine EqX.mk (by first | rfl | kernel_rfl) ?_)
    | (exact RetX.o hF (by repeat' first | exact Sub.nil _ | exact Sub.refl _ | refine Sub.agg ?_ | refine Sub.tup ?_ | refine Sub.fn ?_ | exact SubL.nil | refine SubL.cons ?_ ?_ | refine Sub.sl _ ?_ | exact SubE.nil | refine SubE.cons ?_ ?_))

def S_stream_Slice_l1 (a2 : Int) (a1 : Int) (a0 : (List T_api_Event)) (v1_0 : Int × (List T_api_Event)) : AS := ⟨[(1, aI (a1)), (2, aI (a2)), (9, .row 7037), (17, .sl 5 (List.map e_api_Event (a0))), (18, aI ((((List.map e_api_Event (a0)).length : Nat) : Int))), (19, aI (v1_0.1))], [(7037, .row 51 5 (List.map e_api_Event (v1_0.2)))]⟩
theorem stream_Slice_l1_o {n N : Nat} {a2 : Int} {a1 : Int} {a0 : (List T_api_Event)} {k1_0_0 : (List T_api_Event) → Option ((List T_api_Event) × Int)} {R : Exit → AS → Prop} {K : List KItem} {c : Code} {σ : AS} {v0 : Int × (List T_api_Event)} {r : (List T_api_Event) × Int} (hF : F_stream_Slice_l1 n a2 a1 a0 k1_0_0 N v0 = some r) (hl : LeX E0 40 σ (S_stream_Slice_l1 a2 a1 a0 v0)) (round : ∀ m v, F_stream_Slice_l1 n a2 a1 a0 k1_0_0 (m + 1) v = some r → AW E0 40 (thenA (fun σ' => ∃ v', F_stream_Slice_l1 n a2 a1 a0 k1_0_0 m v' = some r ∧ LeX E0 40 σ' (S_stream_Slice_l1 a2 a1 a0 v')) (AW E0 40 R K)) [.code c] .normal (S_stream_Slice_l1 a2 a1 a0 v)) : LoopX E0 40 (fun next σ' => AW E0 40 (thenA next (AW E0 40 R K)) [.code c] .normal σ') σ :=
  LoopA.o (S := S_stream_Slice_l1 a2 a1 a0) hF (fun _ => rfl) hl round
def R_stream_Slice (r : (List T_api_Event) × Int) : AV := .tup [.sl 5 (List.map e_api_Event (r.1)), aI (r.2)]
theorem con_stream_Slice {n : Nat} {a0 : (List T_api_Event)} {a1 : Int} {a2 : Int} {r : (List T_api_Event) × Int} (hF : F_stream_Slice n a0 a1 a2 = some r) : Con E0 false 21 [.sl 5 (List.map e_api_Event (a0)), aI (a1), aI (a2)] (R_stream_Slice r) := by
  unfold F_stream_Slice at hF
  refine Con.walk _ Try.func21 rfl (enters_of Try.func21 rfl rfl) rfl (Or.inl rfl) ?_
  repeat' first
    | (refine AW.step ?_; conv => whnf)
    | (refine CondX.o hF (fun hF => ?_) (fun hF => ?_))
    | (refine CondX.t ?_)
    | (refine CondX.f ?_)
    | (refine CallX.o hF R_stream_Check (fun a h => con_stream_Check h) (fun a hF => ?_))
    | (refine IdxX.o e_api_Event hF (fun x hF => ?_))
    | (refine CallX.o hF R_stream_copied (fun a h => con_stream_copied h) (fun a hF => ?_))
    | (refine AppX.o e_api_Event hF (by first | exact SubR.refl _ | (repeat' first | exact SubR.nil | refine SubR.cons ?_ ?_ | exact SubL.nil | refine SubL.cons ?_ ?_ | exact Sub.refl _ | exact Sub.nil _)) (fun l hF => ?_))
    | (exact ⟨_, hF, LeX.of [(7037, 37)] rfl ⟨⟨rfl, rfl⟩, ⟨rfl, rfl⟩, ⟨rfl, rfl⟩, ⟨rfl, rfl⟩, ⟨rfl, rfl⟩, ⟨rfl, rfl⟩, trivial⟩ ⟨⟨rfl, rfl⟩, trivial⟩⟩)
    | (exact ⟨_, hF, LeX.of [] rfl ⟨⟨rfl, rfl⟩, ⟨rfl, rfl⟩, ⟨rfl, rfl⟩, ⟨rfl, rfl⟩, ⟨rfl, rfl⟩, ⟨rfl, rfl⟩, trivial⟩ ⟨⟨rfl, rfl⟩, trivial⟩⟩)
    | (refine stream_Slice_l1_o hF (LeX.trans (LeX.adopt 9 7037 51 5 rfl rfl) (LeX.of [] rfl ⟨⟨rfl, rfl⟩, ⟨rfl, rfl⟩, ⟨rfl, rfl⟩, ⟨rfl, rfl⟩, ⟨rfl, rfl⟩, ⟨rfl, rfl⟩, trivial⟩ ⟨⟨rfl, rfl⟩, trivial⟩)) (fun m v hF => ?_); unfold F_stream_Slice_l1 at hF)
    | (refine And.intro ⟨by kernel_rfl, by kernel_rfl⟩ ?_)
    | (refine EqX.mk (by first | rfl | kernel_rfl) ?_)
    | (exact RetX.o hF (by repeat' first | exact Sub.nil _ | exact Sub.refl _ | refine Sub.agg ?_ | refine Sub.tup ?_ | refine Sub.fn ?_ | exact SubL.nil | refine SubL.cons ?_ ?_ | refine Sub.sl _ ?_ | exact SubE.nil | refine SubE.cons ?_ ?_))

def T_stream_Slice (r : (List T_api_Event) × Int) : AV := .tup [.row 0, aI (r.2)]
theorem conT_stream_Slice {n : Nat} {a0 : (List T_api_Event)} {a1 : Int} {a2 : Int} {r : (List T_api_Event) × Int} (hF : F_stream_Slice n a0 a1 a2 = some r) : ConT E0 21 [.sl 5 (List.map e_api_Event (a0)), aI (a1), aI (a2)] 51 5 (List.map e_api_Event (r.1)) (T_stream_Slice r) := by
  unfold F_stream_Slice at hF
  refine ConT.walk _ Try.func21 rfl (enters_of Try.func21 rfl rfl) rfl rfl ?_
  repeat' first
    | (refine AW.step ?_; conv => whnf)
    | (refine CondX.o hF (fun hF => ?_) (fun hF => ?_))
    | (refine CondX.t ?_)
    | (refine CondX.f ?_)
    | (refine CallX.o hF R_stream_Check (fun a h => con_stream_Check h) (fun a hF => ?_))
    | (refine IdxX.o e_api_Event hF (fun x hF => ?_))
    | (refine CallX.o hF R_stream_copied (fun a h => con_stream_copied h) (fun a hF => ?_))
    | (refine AppX.o e_api_Event hF (by first | exact SubR.refl _ | (repeat' first | exact SubR.nil | refine SubR.cons ?_ ?_ | exact SubL.nil | refine SubL.cons ?_ ?_ | exact Sub.refl _ | exact Sub.nil _)) (fun l hF => ?_))
    | (exact ⟨_, hF, LeX.of [(7037, 37)] rfl ⟨⟨rfl, rfl⟩, ⟨rfl, rfl⟩, ⟨rfl, rfl⟩, ⟨rfl, rfl⟩, ⟨rfl, rfl⟩, ⟨rfl, rfl⟩, trivial⟩ ⟨⟨rfl, rfl⟩, trivial⟩⟩)
    | (exact ⟨_, hF, LeX.of [] rfl ⟨⟨rfl, rfl⟩, ⟨rfl, rfl⟩, ⟨rfl, rfl⟩, ⟨rfl, rfl⟩, ⟨rfl, rfl⟩, ⟨rfl, rfl⟩, trivial⟩ ⟨⟨rfl, rfl⟩, trivial⟩⟩)
    | (refine stream_Slice_l1_o hF (LeX.trans (LeX.adopt 9 7037 51 5 rfl rfl) (LeX.of [] rfl ⟨⟨rfl, rfl⟩, ⟨rfl, rfl⟩, ⟨rfl, rfl⟩, ⟨rfl, rfl⟩, ⟨rfl, rfl⟩, ⟨rfl, rfl⟩, trivial⟩ ⟨⟨rfl, rfl⟩, trivial⟩)) (fun m v hF => ?_); unfold F_stream_Slice_l1 at hF)
    | (refine And.intro ⟨by kernel_rfl, by kernel_rfl⟩ ?_)
    | (refine EqX.mk (by first | rfl | kernel_rfl) ?_)
    | (refine TX.o (rl := fun r => List.map e_api_Event (r.1)) (res := T_stream_Slice) hF ?_; exact TX.mk _ 7037 (LeX.refl _ _ _) _ rfl rfl (by repeat' first | exact Sub.nil _ | exact Sub.refl _ | refine Sub.agg ?_ | refine Sub.tup ?_ | refine Sub.fn ?_ | exact SubL.nil | refine SubL.cons ?_ ?_ | refine Sub.sl _ ?_ | exact SubE.nil | refine SubE.cons ?_ ?_))
    | (refine TX.o (rl := fun r => List.map e_api_Event (r.1)) (res := T_stream_Slice) hF ?_; exact TX.mk _ 37 (LeX.refl _ _ _) _ rfl rfl (by repeat' first | exact Sub.nil _ | exact Sub.refl _ | refine Sub.agg ?_ | refine Sub.tup ?_ | refine Sub.fn ?_ | exact SubL.nil | refine SubL.cons ?_ ?_ | refine Sub.sl _ ?_ | exact SubE.nil | refine SubE.cons ?_ ?_))
    | (refine TX.o (rl := fun r => List.map e_api_Event (r.1)) (res := T_stream_Slice) hF ?_; exact TX.mk _ 9000 (LeX.adopt 6 9000 51 5 rfl rfl) _ rfl rfl (by repeat' first | exact Sub.nil _ | exact Sub.refl _ | refine Sub.agg ?_ | refine Sub.tup ?_ | refine Sub.fn ?_ | exact SubL.nil | refine SubL.cons ?_ ?_ | refine Sub.sl _ ?_ | exact SubE.nil | refine SubE.cons ?_ ?_))

def S_tidegateref05_Slice_l1 (a2 : Int) (a1 : Int) (a0 : (List T_api_Event)) (v1_0 : Int × (List T_api_Event)) : AS := ⟨[(0, .sl 5 (List.map e_api_Event (a0))), (1, aI (a1)), (2, aI (a2)), (9, .row 7044), (10, aI (v1_0.1))], [(7044, .row 51 5 (List.map e_api_Event (v1_0.2)))]⟩
theorem tidegateref05_Slice_l1_o {n N : Nat} {a2 : Int} {a1 : Int} {a0 : (List T_api_Event)} {k1_0_0 : (List T_api_Event) → Option ((List T_api_Event) × Int)} {R : Exit → AS → Prop} {K : List KItem} {c : Code} {σ : AS} {v0 : Int × (List T_api_Event)} {r : (List T_api_Event) × Int} (hF : F_tidegateref05_Slice_l1 n a2 a1 a0 k1_0_0 N v0 = some r) (hl : LeX E0 46 σ (S_tidegateref05_Slice_l1 a2 a1 a0 v0)) (round : ∀ m v, F_tidegateref05_Slice_l1 n a2 a1 a0 k1_0_0 (m + 1) v = some r → AW E0 46 (thenA (fun σ' => ∃ v', F_tidegateref05_Slice_l1 n a2 a1 a0 k1_0_0 m v' = some r ∧ LeX E0 46 σ' (S_tidegateref05_Slice_l1 a2 a1 a0 v')) (AW E0 46 R K)) [.code c] .normal (S_tidegateref05_Slice_l1 a2 a1 a0 v)) : LoopX E0 46 (fun next σ' => AW E0 46 (thenA next (AW E0 46 R K)) [.code c] .normal σ') σ :=
  LoopA.o (S := S_tidegateref05_Slice_l1 a2 a1 a0) hF (fun _ => rfl) hl round
def R_tidegateref05_Slice (r : (List T_api_Event) × Int) : AV := .tup [.sl 5 (List.map e_api_Event (r.1)), aI (r.2)]
theorem con_tidegateref05_Slice {n : Nat} {a0 : (List T_api_Event)} {a1 : Int} {a2 : Int} {r : (List T_api_Event) × Int} (hF : F_tidegateref05_Slice n a0 a1 a2 = some r) : Con E0 false 22 [.sl 5 (List.map e_api_Event (a0)), aI (a1), aI (a2)] (R_tidegateref05_Slice r) := by
  unfold F_tidegateref05_Slice at hF
  refine Con.walk _ Try.func22 rfl (enters_of Try.func22 rfl rfl) rfl (Or.inl rfl) ?_
  repeat' first
    | (refine AW.step ?_; conv => whnf)
    | (refine CondX.o hF (fun hF => ?_) (fun hF => ?_))
    | (refine CondX.t ?_)
    | (refine CondX.f ?_)
    | (refine CallX.o hF R_tidegateref05_Check (fun a h => con_tidegateref05_Check h) (fun a hF => ?_))
    | (refine IdxX.o e_api_Event hF (fun x hF => ?_))
    | (refine AppX.o e_api_Event hF (by first | exact SubR.refl _ | (repeat' first | exact SubR.nil | refine SubR.cons ?_ ?_ | exact SubL.nil | refine SubL.cons ?_ ?_ | exact Sub.refl _ | exact Sub.nil _)) (fun l hF => ?_))
    | (exact ⟨_, hF, LeX.of [(7044, 44)] rfl ⟨⟨rfl, rfl⟩, ⟨rfl, rfl⟩, ⟨rfl, rfl⟩, ⟨rfl, rfl⟩, ⟨rfl, rfl⟩, trivial⟩ ⟨⟨rfl, rfl⟩, trivial⟩⟩)
    | (exact ⟨_, hF, LeX.of [] rfl ⟨⟨rfl, rfl⟩, ⟨rfl, rfl⟩, ⟨rfl, rfl⟩, ⟨rfl, rfl⟩, ⟨rfl, rfl⟩, trivial⟩ ⟨⟨rfl, rfl⟩, trivial⟩⟩)
    | (refine tidegateref05_Slice_l1_o hF (LeX.trans (LeX.adopt 9 7044 51 5 rfl rfl) (LeX.of [] rfl ⟨⟨rfl, rfl⟩, ⟨rfl, rfl⟩, ⟨rfl, rfl⟩, ⟨rfl, rfl⟩, ⟨rfl, rfl⟩, trivial⟩ ⟨⟨rfl, rfl⟩, trivial⟩)) (fun m v hF => ?_); unfold F_tidegateref05_Slice_l1 at hF)
    | (refine And.intro ⟨by kernel_rfl, by kernel_rfl⟩ ?_)
    | (refine EqX.mk (by first | rfl | kernel_rfl) ?_)
    | (exact RetX.o hF (by repeat' first | exact Sub.nil _ | exact Sub.refl _ | refine Sub.agg ?_ | refine Sub.tup ?_ | refine Sub.fn ?_ | exact SubL.nil | refine SubL.cons ?_ ?_ | refine Sub.sl _ ?_ | exact SubE.nil | refine SubE.cons ?_ ?_))

def T_tidegateref05_Slice (r : (List T_api_Event) × Int) : AV := .tup [.row 0, aI (r.2)]
theorem conT_tidegateref05_Slice {n : Nat} {a0 : (List T_api_Event)} {a1 : Int} {a2 : Int} {r : (List T_api_Event) × Int} (hF : F_tidegateref05_Slice n a0 a1 a2 = some r) : ConT E0 22 [.sl 5 (List.map e_api_Event (a0)), aI (a1), aI (a2)] 51 5 (List.map e_api_Event (r.1)) (T_tidegateref05_Slice r) := by
  unfold F_tidegateref05_Slice at hF
  refine ConT.walk _ Try.func22 rfl (enters_of Try.func22 rfl rfl) rfl rfl ?_
  repeat' first
    | (refine AW.step ?_; conv => whnf)
    | (refine CondX.o hF (fun hF => ?_) (fun hF => ?_))
    | (refine CondX.t ?_)
    | (refine CondX.f ?_)
    | (refine CallX.o hF R_tidegateref05_Check (fun a h => con_tidegateref05_Check h) (fun a hF => ?_))
    | (refine IdxX.o e_api_Event hF (fun x hF => ?_))
    | (refine AppX.o e_api_Event hF (by first | exact SubR.refl _ | (repeat' first | exact SubR.nil | refine SubR.cons ?_ ?_ | exact SubL.nil | refine SubL.cons ?_ ?_ | exact Sub.refl _ | exact Sub.nil _)) (fun l hF => ?_))
    | (exact ⟨_, hF, LeX.of [(7044, 44)] rfl ⟨⟨rfl, rfl⟩, ⟨rfl, rfl⟩, ⟨rfl, rfl⟩, ⟨rfl, rfl⟩, ⟨rfl, rfl⟩, trivial⟩ ⟨⟨rfl, rfl⟩, trivial⟩⟩)
    | (exact ⟨_, hF, LeX.of [] rfl ⟨⟨rfl, rfl⟩, ⟨rfl, rfl⟩, ⟨rfl, rfl⟩, ⟨rfl, rfl⟩, ⟨rfl, rfl⟩, trivial⟩ ⟨⟨rfl, rfl⟩, trivial⟩⟩)
    | (refine tidegateref05_Slice_l1_o hF (LeX.trans (LeX.adopt 9 7044 51 5 rfl rfl) (LeX.of [] rfl ⟨⟨rfl, rfl⟩, ⟨rfl, rfl⟩, ⟨rfl, rfl⟩, ⟨rfl, rfl⟩, ⟨rfl, rfl⟩, trivial⟩ ⟨⟨rfl, rfl⟩, trivial⟩)) (fun m v hF => ?_); unfold F_tidegateref05_Slice_l1 at hF)
    | (refine And.intro ⟨by kernel_rfl, by kernel_rfl⟩ ?_)
    | (refine EqX.mk (by first | rfl | kernel_rfl) ?_)
    | (refine TX.o (rl := fun r => List.map e_api_Event (r.1)) (res := T_tidegateref05_Slice) hF ?_; exact TX.mk _ 7044 (LeX.refl _ _ _) _ rfl rfl (by repeat' first | exact Sub.nil _ | exact Sub.refl _ | refine Sub.agg ?_ | refine Sub.tup ?_ | refine Sub.fn ?_ | exact SubL.nil | refine SubL.cons ?_ ?_ | refine Sub.sl _ ?_ | exact SubE.nil | refine SubE.cons ?_ ?_))
    | (refine TX.o (rl := fun r => List.map e_api_Event (r.1)) (res := T_tidegateref05_Slice) hF ?_; exact TX.mk _ 44 (LeX.refl _ _ _) _ rfl rfl (by repeat' first | exact Sub.nil _ | exact Sub.refl _ | refine Sub.agg ?_ | refine Sub.tup ?_ | refine Sub.fn ?_ | exact SubL.nil | refine SubL.cons ?_ ?_ | refine Sub.sl _ ?_ | exact SubE.nil | refine SubE.cons ?_ ?_))
    | (refine TX.o (rl := fun r => List.map e_api_Event (r.1)) (res := T_tidegateref05_Slice) hF ?_; exact TX.mk _ 9000 (LeX.adopt 6 9000 51 5 rfl rfl) _ rfl rfl (by repeat' first | exact Sub.nil _ | exact Sub.refl _ | refine Sub.agg ?_ | refine Sub.tup ?_ | refine Sub.fn ?_ | exact SubL.nil | refine SubL.cons ?_ ?_ | refine Sub.sl _ ?_ | exact SubE.nil | refine SubE.cons ?_ ?_))

def S_stream_Inversions_l2 (a0 : (List T_api_Event)) (v1_0 : Int × Int) (x43 : T_api_Event) (x44 : (List T_api_Event)) (v2_1 : Int × Int) : AS := ⟨[(0, .sl 5 (List.map e_api_Event (a0))), (5, aI (v2_1.1)), (7, .ptr 7 0), (15, .sl 5 (List.map e_api_Event (a0))), (16, aI ((((List.map e_api_Event (a0)).length : Nat) : Int))), (17, aI (v1_0.2)), (24, .sl 5 (List.map e_api_Event (x44))), (25, aI ((((List.map e_api_Event (x44)).length : Nat) : Int))), (26, aI (v2_1.2))], [(7, .box 51 [aI (x43.fSource), aI (x43.fSeq), aI (x43.fType), aI (x43.fTime), .sl 3 (List.map e_api_Value (x43.fValues))])]⟩
theorem stream_Inversions_l2_o {n N : Nat} {a0 : (List T_api_Event)} {v1_0 : Int × Int} {x43 : T_api_Event} {x44 : (List T_api_Event)} {k2_1_0 : Int → Option (Int × Int)} {R : Exit → AS → Prop} {K : List KItem} {c : Code} {σ : AS} {v0 : Int × Int} {r : Int × Int} (hF : F_stream_Inversions_l2 n a0 v1_0 x43 x44 k2_1_0 N v0 = some r) (hl : LeX E0 39 σ (S_stream_Inversions_l2 a0 v1_0 x43 x44 v0)) (round : ∀ m v, F_stream_Inversions_l2 n a0 v1_0 x43 x44 k2_1_0 (m + 1) v = some r → AW E0 39 (thenA (fun σ' => ∃ v', F_stream_Inversions_l2 n a0 v1_0 x43 x44 k2_1_0 m v' = some r ∧ LeX E0 39 σ' (S_stream_Inversions_l2 a0 v1_0 x43 x44 v')) (AW E0 39 R K)) [.code c] .normal (S_stream_Inversions_l2 a0 v1_0 x43 x44 v)) : LoopX E0 39 (fun next σ' => AW E0 39 (thenA next (AW E0 39 R K)) [.code c] .normal σ') σ :=
  LoopA.o (S := S_stream_Inversions_l2 a0 v1_0 x43 x44) hF (fun _ => rfl) hl round
def S_stream_Inversions_l1 (a0 : (List T_api_Event)) (v1_0 : Int × Int) : AS := ⟨[(0, .sl 5 (List.map e_api_Event (a0))), (5, aI (v1_0.1)), (15, .sl 5 (List.map e_api_Event (a0))), (16, aI ((((List.map e_api_Event (a0)).length : Nat) : Int))), (17, aI (v1_0.2))], []⟩
theorem stream_Inversions_l1_o {n N : Nat} {a0 : (List T_api_Event)} {k1_0_0 : Int → Option (Int × Int)} {R : Exit → AS → Prop} {K : List KItem} {c : Code} {σ : AS} {v0 : Int × Int} {r : Int × Int} (hF : F_stream_Inversions_l1 n a0 k1_0_0 N v0 = some r) (hl : LeX E0 39 σ (S_stream_Inversions_l1 a0 v0)) (round : ∀ m v, F_stream_Inversions_l1 n a0 k1_0_0 (m + 1) v = some r → AW E0 39 (thenA (fun σ' => ∃ v', F_stream_Inversions_l1 n a0 k1_0_0 m v' = some r ∧ LeX E0 39 σ' (S_stream_Inversions_l1 a0 v')) (AW E0 39 R K)) [.code c] .normal (S_stream_Inversions_l1 a0 v)) : LoopX E0 39 (fun next σ' => AW E0 39 (thenA next (AW E0 39 R K)) [.code c] .normal σ') σ :=
  LoopA.o (S := S_stream_Inversions_l1 a0) hF (fun _ => rfl) hl round
def R_stream_Inversions (r : Int × Int) : AV := .tup [aI (r.1), aI (r.2)]
theorem con_stream_Inversions {n : Nat} {a0 : (List T_api_Event)} {r : Int × Int} (hF : F_stream_Inversions n a0 = some r) : Con E0 true 23 [.sl 5 (List.map e_api_Event (a0))] (R_stream_Inversions r) := by
  unfold F_stream_Inversions at hF
  refine Con.walk _ Try.func23 rfl (enters_of Try.func23 rfl rfl) rfl (Or.inr rfl) ?_
  repeat' first
    | (refine AW.step ?_; conv => whnf)
    | (refine CondX.o hF (fun hF => ?_) (fun hF => ?_))
    | (refine CondX.t ?_)
    | (refine CondX.f ?_)
    | (refine CallX.o hF R_stream_all (fun a h => con_stream_all h) (fun a hF => ?_))
    | (refine IdxX.o e_api_Event hF (fun x hF => ?_))
    | (refine SlsX.o e_api_Event hF (fun l hF => ?_))
    | (exact ⟨_, hF, LeX.of [] rfl ⟨⟨rfl, rfl⟩, ⟨rfl, rfl⟩, ⟨rfl, rfl⟩, ⟨rfl, rfl⟩, ⟨rfl, rfl⟩, trivial⟩ trivial⟩)
    | (refine CallX.o hF R_event_Compare_d (fun a h => con_evCmp h) (fun a hF => ?_))
    | (exact ⟨_, hF, LeX.of [] rfl ⟨⟨rfl, rfl⟩, ⟨rfl, rfl⟩, ⟨rfl, rfl⟩, ⟨rfl, rfl⟩, ⟨rfl, rfl⟩, ⟨rfl, rfl⟩, ⟨rfl, rfl⟩, ⟨rfl, rfl⟩, ⟨rfl, rfl⟩, trivial⟩ ⟨⟨rfl, rfl⟩, trivial⟩⟩)
    | (refine stream_Inversions_l2_o hF (LeX.of [] rfl ⟨⟨rfl, rfl⟩, ⟨rfl, rfl⟩, ⟨rfl, rfl⟩, ⟨rfl, rfl⟩, ⟨rfl, rfl⟩, ⟨rfl, rfl⟩, ⟨rfl, rfl⟩, ⟨rfl, rfl⟩, ⟨rfl, rfl⟩, trivial⟩ ⟨⟨rfl, rfl⟩, trivial⟩) (fun m v hF => ?_); unfold F_stream_Inversions_l2 at hF)
    | (refine stream_Inversions_l1_o hF (LeX.of [] rfl ⟨⟨rfl, rfl⟩, ⟨rfl, rfl⟩, ⟨rfl, rfl⟩, ⟨rfl, rfl⟩, ⟨rfl, rfl⟩, trivial⟩ trivial) (fun m v hF => ?_); unfold F_stream_Inversions_l1 at hF)
    | (refine And.intro ⟨by kernel_rfl, by kernel_rfl⟩ ?_)
    | (refine EqX.mk (by first | rfl | kernel_rfl) ?_)
    | (exact RetX.o hF (by repeat' first | exact Sub.nil _ | exact Sub.refl _ | refine Sub.agg ?_ | refine Sub.tup ?_ | refine Sub.fn ?_ | exact SubL.nil | refine SubL.cons ?_ ?_ | refine Sub.sl _ ?_ | exact SubE.nil | refine SubE.cons ?_ ?_))

def S_tidegateref05_Inversions_l2 (a0 : (List T_api_Event)) (v1_0 : Int × Int) (v2_1 : Int × Int) : AS := ⟨[(0, .sl 5 (List.map e_api_Event (a0))), (5, aI (v2_1.1)), (6, aI (v1_0.2)), (7, aI (v2_1.2))], []⟩
theorem tidegateref05_Inversions_l2_o {n N : Nat} {a0 : (List T_api_Event)} {v1_0 : Int × Int} {k2_1_0 : Int → Option (Int × Int)} {R : Exit → AS → Prop} {K : List KItem} {c : Code} {σ : AS} {v0 : Int × Int} {r : Int × Int} (hF : F_tidegateref05_Inversions_l2 n a0 v1_0 k2_1_0 N v0 = some r) (hl : LeX E0 42 σ (S_tidegateref05_Inversions_l2 a0 v1_0 v0)) (round : ∀ m v, F_tidegateref05_Inversions_l2 n a0 v1_0 k2_1_0 (m + 1) v = some r → AW E0 42 (thenA (fun σ' => ∃ v', F_tidegateref05_Inversions_l2 n a0 v1_0 k2_1_0 m v' = some r ∧ LeX E0 42 σ' (S_tidegateref05_Inversions_l2 a0 v1_0 v')) (AW E0 42 R K)) [.code c] .normal (S_tidegateref05_Inversions_l2 a0 v1_0 v)) : LoopX E0 42 (fun next σ' => AW E0 42 (thenA next (AW E0 42 R K)) [.code c] .normal σ') σ :=
  LoopA.o (S := S_tidegateref05_Inversions_l2 a0 v1_0) hF (fun _ => rfl) hl round
def S_tidegateref05_Inversions_l1 (a0 : (List T_api_Event)) (v1_0 : Int × Int) : AS := ⟨[(0, .sl 5 (List.map e_api_Event (a0))), (5, aI (v1_0.1)), (6, aI (v1_0.2))], []⟩
theorem tidegateref05_Inversions_l1_o {n N : Nat} {a0 : (List T_api_Event)} {k1_0_0 : Int → Option (Int × Int)} {R : Exit → AS → Prop} {K : List KItem} {c : Code} {σ : AS} {v0 : Int × Int} {r : Int × Int} (hF : F_tidegateref05_Inversions_l1 n a0 k1_0_0 N v0 = some r) (hl : LeX E0 42 σ (S_tidegateref05_Inversions_l1 a0 v0)) (round : ∀ m v, F_tidegateref05_Inversions_l1 n a0 k1_0_0 (m + 1) v = some r → AW E0 42 (thenA (fun σ' => ∃ v', F_tidegateref05_Inversions_l1 n a0 k1_0_0 m v' = some r ∧ LeX E0 42 σ' (S_tidegateref05_Inversions_l1 a0 v')) (AW E0 42 R K)) [.code c] .normal (S_tidegateref05_Inversions_l1 a0 v)) : LoopX E0 42 (fun next σ' => AW E0 42 (thenA next (AW E0 42 R K)) [.code c] .normal σ') σ :=
  LoopA.o (S := S_tidegateref05_Inversions_l1 a0) hF (fun _ => rfl) hl round
def R_tidegateref05_Inversions (r : Int × Int) : AV := .tup [aI (r.1), aI (r.2)]
theorem con_tidegateref05_Inversions {n : Nat} {a0 : (List T_api_Event)} {r : Int × Int} (hF : F_tidegateref05_Inversions n a0 = some r) : Con E0 true 24 [.sl 5 (List.map e_api_Event (a0))] (R_tidegateref05_Inversions r) := by
  unfold F_tidegateref05_Inversions at hF
  refine Con.walk _ Try.func24 rfl (enters_of Try.func24 rfl rfl) rfl (Or.inr rfl) ?_
  repeat' first
    | (refine AW.step ?_; conv => whnf)
    | (refine CondX.o hF (fun hF => ?_) (fun hF => ?_))
    | (refine CondX.t ?_)
    | (refine CondX.f ?_)
    | (refine CallX.o hF R_tidegateref05_list (fun a h => con_tidegateref05_list h) (fun a hF => ?_))
    | (exact ⟨_, hF, LeX.of [] rfl ⟨⟨rfl, rfl⟩, ⟨rfl, rfl⟩, ⟨rfl, rfl⟩, trivial⟩ trivial⟩)
    | (refine IdxX.o e_api_Event hF (fun x hF => ?_))
    | (refine CallX.o hF R_tidegateref05_Ref (fun a h => con_tidegateref05_Ref h) (fun a hF => ?_))
    | (refine CallX.o hF R_tidegateref05_Order (fun a h => con_tidegateref05_Order h) (fun a hF => ?_))
    | (exact ⟨_, hF, LeX.of [] rfl ⟨⟨rfl, rfl⟩, ⟨rfl, rfl⟩, ⟨rfl, rfl⟩, ⟨rfl, rfl⟩, trivial⟩ trivial⟩)
    | (refine tidegateref05_Inversions_l2_o hF (LeX.of [] rfl ⟨⟨rfl, rfl⟩, ⟨rfl, rfl⟩, ⟨rfl, rfl⟩, ⟨rfl, rfl⟩, trivial⟩ trivial) (fun m v hF => ?_); unfold F_tidegateref05_Inversions_l2 at hF)
    | (refine tidegateref05_Inversions_l1_o hF (LeX.of [] rfl ⟨⟨rfl, rfl⟩, ⟨rfl, rfl⟩, ⟨rfl, rfl⟩, trivial⟩ trivial) (fun m v hF => ?_); unfold F_tidegateref05_Inversions_l1 at hF)
    | (refine And.intro ⟨by kernel_rfl, by kernel_rfl⟩ ?_)
    | (refine EqX.mk (by first | rfl | kernel_rfl) ?_)
    | (exact RetX.o hF (by repeat' first | exact Sub.nil _ | exact Sub.refl _ | refine Sub.agg ?_ | refine Sub.tup ?_ | refine Sub.fn ?_ | exact SubL.nil | refine SubL.cons ?_ ?_ | refine Sub.sl _ ?_ | exact SubE.nil | refine SubE.cons ?_ ?_))

def S_tidegateref01_Few_l1 (a0 : (List T_api_Value)) (v1_0 : Int) : AS := ⟨[(0, .sl 3 (List.map e_api_Value (a0))), (3, aI (v1_0))], []⟩
theorem tidegateref01_Few_l1_o {n N : Nat} {a0 : (List T_api_Value)} {k1_0_0 : Option (Bool)} {R : Exit → AS → Prop} {K : List KItem} {c : Code} {σ : AS} {v0 : Int} {r : Bool} (hF : F_tidegateref01_Few_l1 n a0 k1_0_0 N v0 = some r) (hl : LeX E0 24 σ (S_tidegateref01_Few_l1 a0 v0)) (round : ∀ m v, F_tidegateref01_Few_l1 n a0 k1_0_0 (m + 1) v = some r → AW E0 24 (thenA (fun σ' => ∃ v', F_tidegateref01_Few_l1 n a0 k1_0_0 m v' = some r ∧ LeX E0 24 σ' (S_tidegateref01_Few_l1 a0 v')) (AW E0 24 R K)) [.code c] .normal (S_tidegateref01_Few_l1 a0 v)) : LoopX E0 24 (fun next σ' => AW E0 24 (thenA next (AW E0 24 R K)) [.code c] .normal σ') σ :=
  LoopA.o (S := S_tidegateref01_Few_l1 a0) hF (fun _ => rfl) hl round
def R_tidegateref01_Few (r : Bool) : AV := .bool (r)
theorem con_tidegateref01_Few {n : Nat} {a0 : (List T_api_Value)} {r : Bool} (hF : F_tidegateref01_Few n a0 = some r) : Con E0 true 47 [.sl 3 (List.map e_api_Value (a0))] (R_tidegateref01_Few r) := by
  unfold F_tidegateref01_Few at hF
  refine Con.walk _ Try.func47 rfl (enters_of Try.func47 rfl rfl) rfl (Or.inr rfl) ?_
  repeat' first
    | (refine AW.step ?_; conv => whnf)
    | (refine CondX.o hF (fun hF => ?_) (fun hF => ?_))
    | (refine CondX.t ?_)
    | (refine CondX.f ?_)
    | (refine IdxX.o e_api_Value hF (fun x hF => ?_))
    | (exact ⟨_, hF, LeX.of [] rfl ⟨⟨rfl, rfl⟩, ⟨rfl, rfl⟩, trivial⟩ trivial⟩)
    | (refine tidegateref01_Few_l1_o hF (LeX.of [] rfl ⟨⟨rfl, rfl⟩, ⟨rfl, rfl⟩, trivial⟩ trivial) (fun m v hF => ?_); unfold F_tidegateref01_Few_l1 at hF)
    | (refine And.intro ⟨by kernel_rfl, by kernel_rfl⟩ ?_)
    | (refine EqX.mk (by first | rfl | kernel_rfl) ?_)
    | (exact RetX.o hF (by repeat' first | exact Sub.nil _ | exact Sub.refl _ | refine Sub.agg ?_ | refine Sub.tup ?_ | refine Sub.fn ?_ | exact SubL.nil | refine SubL.cons ?_ ?_ | refine Sub.sl _ ?_ | exact SubE.nil | refine SubE.cons ?_ ?_))

def S_tidegateref05_Few_l1 (a0 : (List T_api_Event)) (v1_0 : Int) : AS := ⟨[(0, .sl 5 (List.map e_api_Event (a0))), (3, aI (v1_0))], []⟩
theorem tidegateref05_Few_l1_o {n N : Nat} {a0 : (List T_api_Event)} {k1_0_0 : Option (Bool)} {R : Exit → AS → Prop} {K : List KItem} {c : Code} {σ : AS} {v0 : Int} {r : Bool} (hF : F_tidegateref05_Few_l1 n a0 k1_0_0 N v0 = some r) (hl : LeX E0 33 σ (S_tidegateref05_Few_l1 a0 v0)) (round : ∀ m v, F_tidegateref05_Few_l1 n a0 k1_0_0 (m + 1) v = some r → AW E0 33 (thenA (fun σ' => ∃ v', F_tidegateref05_Few_l1 n a0 k1_0_0 m v' = some r ∧ LeX E0 33 σ' (S_tidegateref05_Few_l1 a0 v')) (AW E0 33 R K)) [.code c] .normal (S_tidegateref05_Few_l1 a0 v)) : LoopX E0 33 (fun next σ' => AW E0 33 (thenA next (AW E0 33 R K)) [.code c] .normal σ') σ :=
  LoopA.o (S := S_tidegateref05_Few_l1 a0) hF (fun _ => rfl) hl round
def R_tidegateref05_Few (r : Bool) : AV := .bool (r)
theorem con_tidegateref05_Few {n : Nat} {a0 : (List T_api_Event)} {r : Bool} (hF : F_tidegateref05_Few n a0 = some r) : Con E0 true 12 [.sl 5 (List.map e_api_Event (a0))] (R_tidegateref05_Few r) := by
  unfold F_tidegateref05_Few at hF
  refine Con.walk _ Try.func12 rfl (enters_of Try.func12 rfl rfl) rfl (Or.inr rfl) ?_
  repeat' first
    | (refine AW.step ?_; conv => whnf)
    | (refine CondX.o hF (fun hF => ?_) (fun hF => ?_))
    | (refine CondX.t ?_)
    | (refine CondX.f ?_)
    | (refine IdxX.o e_api_Event hF (fun x hF => ?_))
    | (refine CallX.o hF R_tidegateref01_Few (fun a h => con_tidegateref01_Few h) (fun a hF => ?_))
    | (exact ⟨_, hF, LeX.of [] rfl ⟨⟨rfl, rfl⟩, ⟨rfl, rfl⟩, trivial⟩ trivial⟩)
    | (refine tidegateref05_Few_l1_o hF (LeX.of [] rfl ⟨⟨rfl, rfl⟩, ⟨rfl, rfl⟩, trivial⟩ trivial) (fun m v hF => ?_); unfold F_tidegateref05_Few_l1 at hF)
    | (refine And.intro ⟨by kernel_rfl, by kernel_rfl⟩ ?_)
    | (refine EqX.mk (by first | rfl | kernel_rfl) ?_)
    | (exact RetX.o hF (by repeat' first | exact Sub.nil _ | exact Sub.refl _ | refine Sub.agg ?_ | refine Sub.tup ?_ | refine Sub.fn ?_ | exact SubL.nil | refine SubL.cons ?_ ?_ | refine Sub.sl _ ?_ | exact SubE.nil | refine SubE.cons ?_ ?_))

def S_tidegateref05_Same_l1 (a1 : (List T_api_Event)) (a0 : (List T_api_Event)) (v1_0 : Int) : AS := ⟨[(0, .sl 5 (List.map e_api_Event (a0))), (1, .sl 5 (List.map e_api_Event (a1))), (5, aI (v1_0))], []⟩
theorem tidegateref05_Same_l1_o {n N : Nat} {a1 : (List T_api_Event)} {a0 : (List T_api_Event)} {k1_0_0 : Option (Bool)} {R : Exit → AS → Prop} {K : List KItem} {c : Code} {σ : AS} {v0 : Int} {r : Bool} (hF : F_tidegateref05_Same_l1 n a1 a0 k1_0_0 N v0 = some r) (hl : LeX E0 27 σ (S_tidegateref05_Same_l1 a1 a0 v0)) (round : ∀ m v, F_tidegateref05_Same_l1 n a1 a0 k1_0_0 (m + 1) v = some r → AW E0 27 (thenA (fun σ' => ∃ v', F_tidegateref05_Same_l1 n a1 a0 k1_0_0 m v' = some r ∧ LeX E0 27 σ' (S_tidegateref05_Same_l1 a1 a0 v')) (AW E0 27 R K)) [.code c] .normal (S_tidegateref05_Same_l1 a1 a0 v)) : LoopX E0 27 (fun next σ' => AW E0 27 (thenA next (AW E0 27 R K)) [.code c] .normal σ') σ :=
  LoopA.o (S := S_tidegateref05_Same_l1 a1 a0) hF (fun _ => rfl) hl round
def R_tidegateref05_Same (r : Bool) : AV := .bool (r)
theorem con_tidegateref05_Same {n : Nat} {a0 : (List T_api_Event)} {a1 : (List T_api_Event)} {r : Bool} (hF : F_tidegateref05_Same n a0 a1 = some r) : Con E0 true 18 [.sl 5 (List.map e_api_Event (a0)), .sl 5 (List.map e_api_Event (a1))] (R_tidegateref05_Same r) := by
  unfold F_tidegateref05_Same at hF
  refine Con.walk _ Try.func18 rfl (enters_of Try.func18 rfl rfl) rfl (Or.inr rfl) ?_
  repeat' first
    | (refine AW.step ?_; conv => whnf)
    | (refine CondX.o hF (fun hF => ?_) (fun hF => ?_))
    | (refine CondX.t ?_)
    | (refine CondX.f ?_)
    | (refine IdxX.o e_api_Event hF (fun x hF => ?_))
    | (refine CallX.o hF R_tidegateref05_Equal (fun a h => con_tidegateref05_Equal h) (fun a hF => ?_))
    | (exact ⟨_, hF, LeX.of [] rfl ⟨⟨rfl, rfl⟩, ⟨rfl, rfl⟩, ⟨rfl, rfl⟩, trivial⟩ trivial⟩)
    | (refine tidegateref05_Same_l1_o hF (LeX.of [] rfl ⟨⟨rfl, rfl⟩, ⟨rfl, rfl⟩, ⟨rfl, rfl⟩, trivial⟩ trivial) (fun m v hF => ?_); unfold F_tidegateref05_Same_l1 at hF)
    | (refine And.intro ⟨by kernel_rfl, by kernel_rfl⟩ ?_)
    | (refine EqX.mk (by first | rfl | kernel_rfl) ?_)
    | (exact RetX.o hF (by repeat' first | exact Sub.nil _ | exact Sub.refl _ | refine Sub.agg ?_ | refine Sub.tup ?_ | refine Sub.fn ?_ | exact SubL.nil | refine SubL.cons ?_ ?_ | refine Sub.sl _ ?_ | exact SubE.nil | refine SubE.cons ?_ ?_))

def R_slices_Grow (r : (List T_api_Event)) : AV := .sl 5 (List.map e_api_Event (r))
theorem con_slices_Grow {n : Nat} {a1 : Int} {r : (List T_api_Event)} (hF : F_slices_Grow n a1 = some r) : Con E0 false 85 [.nils, aI (a1)] (R_slices_Grow r) := by
  unfold F_slices_Grow at hF
  refine Con.walk _ Try.func85 rfl (enters_of Try.func85 rfl rfl) rfl (Or.inl rfl) ?_
  repeat' first
    | (refine AW.step ?_; conv => whnf)
    | (refine CondX.o hF (fun hF => ?_) (fun hF => ?_))
    | (refine CondX.t ?_)
    | (refine CondX.f ?_)
    | (cases hF; done)
    | (refine PosX.o hF (fun hF => ?_))
    | (refine MakX.o e_api_Event hF (by first | exact SubL.refl _ | (repeat' first | exact SubL.nil | refine SubL.cons ?_ ?_ | exact Sub.refl _ | exact Sub.nil _ | refine Sub.agg ?_)) (fun l hF => ?_))
    | (refine SlsX.o e_api_Event hF (fun l hF => ?_))
    | (refine And.intro ⟨by kernel_rfl, by kernel_rfl⟩ ?_)
    | (refine EqX.mk (by first | rfl | kernel_rfl) ?_)
    | (exact RetX.o hF (by repeat' first | exact Sub.nil _ | exact Sub.refl _ | refine Sub.agg ?_ | refine Sub.tup ?_ | refine Sub.fn ?_ | exact SubL.nil | refine SubL.cons ?_ ?_ | refine Sub.sl _ ?_ | exact SubE.nil | refine SubE.cons ?_ ?_))

def T_slices_Grow (r : (List T_api_Event)) : AV := .row 0
theorem conT_slices_Grow {n : Nat} {a1 : Int} {r : (List T_api_Event)} (hF : F_slices_Grow n a1 = some r) : ConT E0 85 [.nils, aI (a1)] 51 5 (List.map e_api_Event (r)) (T_slices_Grow r) := by
  unfold F_slices_Grow at hF
  refine ConT.walk _ Try.func85 rfl (enters_of Try.func85 rfl rfl) rfl rfl ?_
  repeat' first
    | (refine AW.step ?_; conv => whnf)
    | (refine CondX.o hF (fun hF => ?_) (fun hF => ?_))
    | (refine CondX.t ?_)
    | (refine CondX.f ?_)
    | (cases hF; done)
    | (refine PosX.o hF (fun hF => ?_))
    | (refine MakX.o e_api_Event hF (by first | exact SubL.refl _ | (repeat' first | exact SubL.nil | refine SubL.cons ?_ ?_ | exact Sub.refl _ | exact Sub.nil _ | refine Sub.agg ?_)) (fun l hF => ?_))
    | (refine SlsX.o e_api_Event hF (fun l hF => ?_))
    | (refine And.intro ⟨by kernel_rfl, by kernel_rfl⟩ ?_)
    | (refine EqX.mk (by first | rfl | kernel_rfl) ?_)
    | (refine TX.o (rl := fun r => List.map e_api_Event (r)) (res := T_slices_Grow) hF ?_; exact TX.mk _ 25 (LeX.refl _ _ _) _ rfl rfl (by repeat' first | exact Sub.nil _ | exact Sub.refl _ | refine Sub.agg ?_ | refine Sub.tup ?_ | refine Sub.fn ?_ | exact SubL.nil | refine SubL.cons ?_ ?_ | refine Sub.sl _ ?_ | exact SubE.nil | refine SubE.cons ?_ ?_))
    | (refine TX.o (rl := fun r => List.map e_api_Event (r)) (res := T_slices_Grow) hF ?_; exact TX.mk _ 22 (LeX.refl _ _ _) _ rfl rfl (by repeat' first | exact Sub.nil _ | exact Sub.refl _ | refine Sub.agg ?_ | refine Sub.tup ?_ | refine Sub.fn ?_ | exact SubL.nil | refine SubL.cons ?_ ?_ | refine Sub.sl _ ?_ | exact SubE.nil | refine SubE.cons ?_ ?_))
    | (refine TX.o (rl := fun r => List.map e_api_Event (r)) (res := T_slices_Grow) hF ?_; exact TX.mk _ 9000 (LeX.adopt 4 9000 51 5 rfl rfl) _ rfl rfl (by repeat' first | exact Sub.nil _ | exact Sub.refl _ | refine Sub.agg ?_ | refine Sub.tup ?_ | refine Sub.fn ?_ | exact SubL.nil | refine SubL.cons ?_ ?_ | refine Sub.sl _ ?_ | exact SubE.nil | refine SubE.cons ?_ ?_))

def S_slices_Concat_l2 (a0 : (List (List T_api_Event))) (v2_1 : Int × (List T_api_Event)) : AS := ⟨[(6, .row 7024), (25, .sl 1 (List.map (fun q => AV.sl 5 (List.map e_api_Event q)) (a0))), (26, aI ((((List.map (fun q => AV.sl 5 (List.map e_api_Event q)) (a0)).length : Nat) : Int))), (27, aI (v2_1.1))], [(7024, .row 51 5 (List.map e_api_Event (v2_1.2)))]⟩
theorem slices_Concat_l2_o {n N : Nat} {a0 : (List (List T_api_Event))} {k2_1_0 : (List T_api_Event) → Option ((List T_api_Event))} {R : Exit → AS → Prop} {K : List KItem} {c : Code} {σ : AS} {v0 : Int × (List T_api_Event)} {r : (List T_api_Event)} (hF : F_slices_Concat_l2 n a0 k2_1_0 N v0 = some r) (hl : LeX E0 36 σ (S_slices_Concat_l2 a0 v0)) (round : ∀ m v, F_slices_Concat_l2 n a0 k2_1_0 (m + 1) v = some r → AW E0 36 (thenA (fun σ' => ∃ v', F_slices_Concat_l2 n a0 k2_1_0 m v' = some r ∧ LeX E0 36 σ' (S_slices_Concat_l2 a0 v')) (AW E0 36 R K)) [.code c] .normal (S_slices_Concat_l2 a0 v)) : LoopX E0 36 (fun next σ' => AW E0 36 (thenA next (AW E0 36 R K)) [.code c] .normal σ') σ :=
  LoopA.o (S := S_slices_Concat_l2 a0) hF (fun _ => rfl) hl round
def S_slices_Concat_l1 (a0 : (List (List T_api_Event))) (v1_0 : Int × Int) : AS := ⟨[(0, .sl 1 (List.map (fun q => AV.sl 5 (List.map e_api_Event q)) (a0))), (3, aI (v1_0.1)), (9, .sl 1 (List.map (fun q => AV.sl 5 (List.map e_api_Event q)) (a0))), (10, aI ((((List.map (fun q => AV.sl 5 (List.map e_api_Event q)) (a0)).length : Nat) : Int))), (11, aI (v1_0.2))], []⟩
theorem slices_Concat_l1_o {n N : Nat} {a0 : (List (List T_api_Event))} {k1_0_0 : Int → Option ((List T_api_Event))} {R : Exit → AS → Prop} {K : List KItem} {c : Code} {σ : AS} {v0 : Int × Int} {r : (List T_api_Event)} (hF : F_slices_Concat_l1 n a0 k1_0_0 N v0 = some r) (hl : LeX E0 36 σ (S_slices_Concat_l1 a0 v0)) (round : ∀ m v, F_slices_Concat_l1 n a0 k1_0_0 (m + 1) v = some r → AW E0 36 (thenA (fun σ' => ∃ v', F_slices_Concat_l1 n a0 k1_0_0 m v' = some r ∧ LeX E0 36 σ' (S_slices_Concat_l1 a0 v')) (AW E0 36 R K)) [.code c] .normal (S_slices_Concat_l1 a0 v)) : LoopX E0 36 (fun next σ' => AW E0 36 (thenA next (AW E0 36 R K)) [.code c] .normal σ') σ :=
  LoopA.o (S := S_slices_Concat_l1 a0) hF (fun _ => rfl) hl round
def R_slices_Concat (r : (List T_api_Event)) : AV := .sl 5 (List.map e_api_Event (r))
end Go.Proofs.Ytdbapaofibgfcaa
