/- What some functions compute, over plain values. Printed by a program of mine (gen_fun.lean). -/
import Derived.Test.YtdbapaofibgfcaaH05B
set_option linter.unusedVariables false
set_option linter.unusedSimpArgs false
set_option maxRecDepth 100000
set_option maxHeartbeats 8000000
namespace Go.Proofs.Ytdbapaofibgfcaa
open Go.RowKit
theorem con_slices_Concat {n : Nat} {a0 : (List (List T_api_Event))} {r : (List T_api_Event)} (hF : F_slices_Concat n a0 = some r) : Con E0 false 76 [.sl 1 (List.map (fun q => AV.sl 5 (List.map e_api_Event q)) (a0))] (R_slices_Concat r) := by
  unfold F_slices_Concat at hF
  refine Con.walk _ Try.func76 rfl (enters_of Try.func76 rfl rfl) rfl (Or.inl rfl) ?_
  repeat' first
    | (refine AW.step ?_; conv => whnf)
    | (refine CondX.o hF (fun hF => ?_) (fun hF => ?_))
    | (refine CondX.t ?_)
    | (refine CondX.f ?_)
    | (refine CallX.oR hF (fun r => r) e_api_Event T_slices_Grow rfl (fun a h => conT_slices_Grow h) (fun a hF => ?_))
    | (refine CallX.oR hF (fun r => r) e_api_Event T_slices_Grow rfl (fun a h => ConT.sub (by repeat' first | exact Sub.nil _ | exact Sub.refl _ | refine Sub.agg ?_ | refine Sub.tup ?_ | refine Sub.fn ?_ | exact SubL.nil | refine SubL.cons ?_ ?_ | refine Sub.sl _ ?_ | exact SubE.nil | refine SubE.cons ?_ ?_) (conT_slices_Grow h)) (fun a hF => ?_))
    | (refine IdxX.o (fun q => AV.sl 5 (List.map e_api_Event q)) hF (fun x hF => ?_))
    | (refine AppX.o e_api_Event hF (by first | exact SubR.refl _ | (repeat' first | exact SubR.nil | refine SubR.cons ?_ ?_ | exact SubL.nil | refine SubL.cons ?_ ?_ | exact Sub.refl _ | exact Sub.nil _)) (fun l hF => ?_))
    | (exact ⟨_, hF, LeX.of [(7024, 33)] rfl ⟨⟨rfl, rfl⟩, ⟨rfl, rfl⟩, ⟨rfl, rfl⟩, ⟨rfl, rfl⟩, trivial⟩ ⟨⟨rfl, rfl⟩, trivial⟩⟩)
    | (refine slices_Concat_l2_o hF (LeX.of [(7024, 24)] rfl ⟨⟨rfl, rfl⟩, ⟨rfl, rfl⟩, ⟨rfl, rfl⟩, ⟨rfl, rfl⟩, trivial⟩ ⟨⟨rfl, rfl⟩, trivial⟩) (fun m v hF => ?_); unfold F_slices_Concat_l2 at hF)
    | (cases hF; done)
    | (exact ⟨_, hF, LeX.of [] rfl ⟨⟨rfl, rfl⟩, ⟨rfl, rfl⟩, ⟨rfl, rfl⟩, ⟨rfl, rfl⟩, ⟨rfl, rfl⟩, trivial⟩ trivial⟩)
    | (refine slices_Concat_l1_o hF (LeX.of [] rfl ⟨⟨rfl, rfl⟩, ⟨rfl, rfl⟩, ⟨rfl, rfl⟩, ⟨rfl, rfl⟩, ⟨rfl, rfl⟩, trivial⟩ trivial) (fun m v hF => ?_); unfold F_slices_Concat_l1 at hF)
    | (refine And.intro ⟨by kernel_rfl, by kernel_rfl⟩ ?_)
    | (refine EqX.mk (by first | rfl | kernel_rfl) ?_)
    | (exact RetX.o hF (by repeat' first | exact Sub.nil _ | exact Sub.refl _ | refine Sub.agg ?_ | refine Sub.tup ?_ | refine Sub.fn ?_ | exact SubL.nil | refine SubL.cons ?_ ?_ | refine Sub.sl _ ?_ | exact SubE.nil | refine SubE.cons ?_ ?_))

def T_slices_Concat (r : (List T_api_Event)) : AV := .row 0
theorem conT_slices_Concat {n : Nat} {a0 : (List (List T_api_Event))} {r : (List T_api_Event)} (hF : F_slices_Concat n a0 = some r) : ConT E0 76 [.sl 1 (List.map (fun q => AV.sl 5 (List.map e_api_Event q)) (a0))] 51 5 (List.map e_api_Event (r)) (T_slices_Concat r) := by
  unfold F_slices_Concat at hF
  refine ConT.walk _ Try.func76 rfl (enters_of Try.func76 rfl rfl) rfl rfl ?_
  repeat' first
    | (refine AW.step ?_; conv => whnf)
    | (refine CondX.o hF (fun hF => ?_) (fun hF => ?_))
    | (refine CondX.t ?_)
    | (refine CondX.f ?_)
    | (refine CallX.oR hF (fun r => r) e_api_Event T_slices_Grow rfl (fun a h => conT_slices_Grow h) (fun a hF => ?_))
    | (refine CallX.oR hF (fun r => r) e_api_Event T_slices_Grow rfl (fun a h => ConT.sub (by repeat' first | exact Sub.nil _ | exact Sub.refl _ | refine Sub.agg ?_ | refine Sub.tup ?_ | refine Sub.fn ?_ | exact SubL.nil | refine SubL.cons ?_ ?_ | refine Sub.sl _ ?_ | exact SubE.nil | refine SubE.cons ?_ ?_) (conT_slices_Grow h)) (fun a hF => ?_))
    | (refine IdxX.o (fun q => AV.sl 5 (List.map e_api_Event q)) hF (fun x hF => ?_))
    | (refine AppX.o e_api_Event hF (by first | exact SubR.refl _ | (repeat' first | exact SubR.nil | refine SubR.cons ?_ ?_ | exact SubL.nil | refine SubL.cons ?_ ?_ | exact Sub.refl _ | exact Sub.nil _)) (fun l hF => ?_))
    | (exact ⟨_, hF, LeX.of [(7024, 33)] rfl ⟨⟨rfl, rfl⟩, ⟨rfl, rfl⟩, ⟨rfl, rfl⟩, ⟨rfl, rfl⟩, trivial⟩ ⟨⟨rfl, rfl⟩, trivial⟩⟩)
    | (refine slices_Concat_l2_o hF (LeX.of [(7024, 24)] rfl ⟨⟨rfl, rfl⟩, ⟨rfl, rfl⟩, ⟨rfl, rfl⟩, ⟨rfl, rfl⟩, trivial⟩ ⟨⟨rfl, rfl⟩, trivial⟩) (fun m v hF => ?_); unfold F_slices_Concat_l2 at hF)
    | (cases hF; done)
    | (exact ⟨_, hF, LeX.of [] rfl ⟨⟨rfl, rfl⟩, ⟨rfl, rfl⟩, ⟨rfl, rfl⟩, ⟨rfl, rfl⟩, ⟨rfl, rfl⟩, trivial⟩ trivial⟩)
    | (refine slices_Concat_l1_o hF (LeX.of [] rfl ⟨⟨rfl, rfl⟩, ⟨rfl, rfl⟩, ⟨rfl, rfl⟩, ⟨rfl, rfl⟩, ⟨rfl, rfl⟩, trivial⟩ trivial) (fun m v hF => ?_); unfold F_slices_Concat_l1 at hF)
    | (refine And.intro ⟨by kernel_rfl, by kernel_rfl⟩ ?_)
    | (refine EqX.mk (by first | rfl | kernel_rfl) ?_)
    | (refine TX.o (rl := fun r => List.map e_api_Event (r)) (res := T_slices_Concat) hF ?_; exact TX.mk _ 7024 (LeX.refl _ _ _) _ rfl rfl (by repeat' first | exact Sub.nil _ | exact Sub.refl _ | refine Sub.agg ?_ | refine Sub.tup ?_ | refine Sub.fn ?_ | exact SubL.nil | refine SubL.cons ?_ ?_ | refine Sub.sl _ ?_ | exact SubE.nil | refine SubE.cons ?_ ?_))
    | (refine TX.o (rl := fun r => List.map e_api_Event (r)) (res := T_slices_Concat) hF ?_; exact TX.mk _ 33 (LeX.refl _ _ _) _ rfl rfl (by repeat' first | exact Sub.nil _ | exact Sub.refl _ | refine Sub.agg ?_ | refine Sub.tup ?_ | refine Sub.fn ?_ | exact SubL.nil | refine SubL.cons ?_ ?_ | refine Sub.sl _ ?_ | exact SubE.nil | refine SubE.cons ?_ ?_))
    | (refine TX.o (rl := fun r => List.map e_api_Event (r)) (res := T_slices_Concat) hF ?_; exact TX.mk _ 24 (LeX.refl _ _ _) _ rfl rfl (by repeat' first | exact Sub.nil _ | exact Sub.refl _ | refine Sub.agg ?_ | refine Sub.tup ?_ | refine Sub.fn ?_ | exact SubL.nil | refine SubL.cons ?_ ?_ | refine Sub.sl _ ?_ | exact SubE.nil | refine SubE.cons ?_ ?_))
    | (refine TX.o (rl := fun r => List.map e_api_Event (r)) (res := T_slices_Concat) hF ?_; exact TX.mk _ 9000 (LeX.adopt 2 9000 51 5 rfl rfl) _ rfl rfl (by repeat' first | exact Sub.nil _ | exact Sub.refl _ | refine Sub.agg ?_ | refine Sub.tup ?_ | refine Sub.fn ?_ | exact SubL.nil | refine SubL.cons ?_ ?_ | refine Sub.sl _ ?_ | exact SubE.nil | refine SubE.cons ?_ ?_))

def R_stream_joined (r : (List T_api_Event) × Int) : AV := .tup [.sl 5 (List.map e_api_Event (r.1)), aI (r.2)]
theorem con_stream_joined {n : Nat} {a0 : (List T_api_Event)} {a1 : (List T_api_Event)} {r : (List T_api_Event) × Int} (hF : F_stream_joined n a0 a1 = some r) : Con E0 false 61 [.sl 5 (List.map e_api_Event (a0)), .sl 5 (List.map e_api_Event (a1))] (R_stream_joined r) := by
  unfold F_stream_joined at hF
  refine Con.walk _ Try.func61 rfl (enters_of Try.func61 rfl rfl) rfl (Or.inl rfl) ?_
  repeat' first
    | (refine AW.step ?_; conv => whnf)
    | (refine CondX.o hF (fun hF => ?_) (fun hF => ?_))
    | (refine CondX.t ?_)
    | (refine CondX.f ?_)
    | (refine CallX.o hF R_slices_Concat (fun a h => con_slices_Concat h) (fun a hF => ?_))
    | (refine CallX.o hF R_stream_sorted (fun a h => con_stream_sorted h) (fun a hF => ?_))
    | (refine And.intro ⟨by kernel_rfl, by kernel_rfl⟩ ?_)
    | (refine EqX.mk (by first | rfl | kernel_rfl) ?_)
    | (exact RetX.o hF (by repeat' first | exact Sub.nil _ | exact Sub.refl _ | refine Sub.agg ?_ | refine Sub.tup ?_ | refine Sub.fn ?_ | exact SubL.nil | refine SubL.cons ?_ ?_ | refine Sub.sl _ ?_ | exact SubE.nil | refine SubE.cons ?_ ?_))

def R_stream_Merge (r : (List T_api_Event) × Int) : AV := .tup [.sl 5 (List.map e_api_Event (r.1)), aI (r.2)]
theorem con_stream_Merge {n : Nat} {a0 : (List T_api_Event)} {a1 : (List T_api_Event)} {r : (List T_api_Event) × Int} (hF : F_stream_Merge n a0 a1 = some r) : Con E0 false 25 [.sl 5 (List.map e_api_Event (a0)), .sl 5 (List.map e_api_Event (a1))] (R_stream_Merge r) := by
  unfold F_stream_Merge at hF
  refine Con.walk _ Try.func25 rfl (enters_of Try.func25 rfl rfl) rfl (Or.inl rfl) ?_
  repeat' first
    | (refine AW.step ?_; conv => whnf)
    | (refine CondX.o hF (fun hF => ?_) (fun hF => ?_))
    | (refine CondX.t ?_)
    | (refine CondX.f ?_)
    | (refine CallX.o hF R_stream_Check (fun a h => con_stream_Check h) (fun a hF => ?_))
    | (refine CallX.o hF R_stream_joined (fun a h => con_stream_joined h) (fun a hF => ?_))
    | (refine And.intro ⟨by kernel_rfl, by kernel_rfl⟩ ?_)
    | (refine EqX.mk (by first | rfl | kernel_rfl) ?_)
    | (exact RetX.o hF (by repeat' first | exact Sub.nil _ | exact Sub.refl _ | refine Sub.agg ?_ | refine Sub.tup ?_ | refine Sub.fn ?_ | exact SubL.nil | refine SubL.cons ?_ ?_ | refine Sub.sl _ ?_ | exact SubE.nil | refine SubE.cons ?_ ?_))

def S_tidegateref05_Merge_l1 (a1 : (List T_api_Event)) (a0 : (List T_api_Event)) (v1_0 : Int) : AS := ⟨[(0, .sl 5 (List.map e_api_Event (a0))), (1, .sl 5 (List.map e_api_Event (a1))), (8, aI (v1_0))], []⟩
theorem tidegateref05_Merge_l1_o {n N : Nat} {a1 : (List T_api_Event)} {a0 : (List T_api_Event)} {k1_0_0 : Option ((List T_api_Event) × Int)} {R : Exit → AS → Prop} {K : List KItem} {c : Code} {σ : AS} {v0 : Int} {r : (List T_api_Event) × Int} (hF : F_tidegateref05_Merge_l1 n a1 a0 k1_0_0 N v0 = some r) (hl : LeX E0 42 σ (S_tidegateref05_Merge_l1 a1 a0 v0)) (round : ∀ m v, F_tidegateref05_Merge_l1 n a1 a0 k1_0_0 (m + 1) v = some r → AW E0 42 (thenA (fun σ' => ∃ v', F_tidegateref05_Merge_l1 n a1 a0 k1_0_0 m v' = some r ∧ LeX E0 42 σ' (S_tidegateref05_Merge_l1 a1 a0 v')) (AW E0 42 R K)) [.code c] .normal (S_tidegateref05_Merge_l1 a1 a0 v)) : LoopX E0 42 (fun next σ' => AW E0 42 (thenA next (AW E0 42 R K)) [.code c] .normal σ') σ :=
  LoopA.o (S := S_tidegateref05_Merge_l1 a1 a0) hF (fun _ => rfl) hl round
def R_tidegateref05_Merge (r : (List T_api_Event) × Int) : AV := .tup [.sl 5 (List.map e_api_Event (r.1)), aI (r.2)]
theorem con_tidegateref05_Merge {n : Nat} {a0 : (List T_api_Event)} {a1 : (List T_api_Event)} {r : (List T_api_Event) × Int} (hF : F_tidegateref05_Merge n a0 a1 = some r) : Con E0 false 34 [.sl 5 (List.map e_api_Event (a0)), .sl 5 (List.map e_api_Event (a1))] (R_tidegateref05_Merge r) := by
  unfold F_tidegateref05_Merge at hF
  refine Con.walk _ Try.func34 rfl (enters_of Try.func34 rfl rfl) rfl (Or.inl rfl) ?_
  repeat' first
    | (refine AW.step ?_; conv => whnf)
    | (refine CondX.o hF (fun hF => ?_) (fun hF => ?_))
    | (refine CondX.t ?_)
    | (refine CondX.f ?_)
    | (refine CallX.o hF R_tidegateref05_Check (fun a h => con_tidegateref05_Check h) (fun a hF => ?_))
    | (refine AppX.o e_api_Event hF (by first | exact SubR.refl _ | (repeat' first | exact SubR.nil | refine SubR.cons ?_ ?_ | exact SubL.nil | refine SubL.cons ?_ ?_ | exact Sub.refl _ | exact Sub.nil _)) (fun l hF => ?_))
    | (refine CallC.oE hF 36 R_tidegateref05_Sorted rfl (fun a h => con_tidegateref05_Sorted h) rfl rfl (fun a hF => ?_))
    | (refine CallC.oE hF 36 R_tidegateref05_Sorted rfl (fun a h => Con.sub (by repeat' first | exact Sub.nil _ | exact Sub.refl _ | refine Sub.agg ?_ | refine Sub.tup ?_ | refine Sub.fn ?_ | exact SubL.nil | refine SubL.cons ?_ ?_ | refine Sub.sl _ ?_ | exact SubE.nil | refine SubE.cons ?_ ?_) (con_tidegateref05_Sorted h)) rfl rfl (fun a hF => ?_))
    | (refine IdxX.o e_api_Event hF (fun x hF => ?_))
    | (refine CallX.o hF R_tidegateref05_conflict (fun a h => con_tidegateref05_conflict h) (fun a hF => ?_))
    | (exact ⟨_, hF, LeX.of [] rfl ⟨⟨rfl, rfl⟩, ⟨rfl, rfl⟩, ⟨rfl, rfl⟩, trivial⟩ trivial⟩)
    | (refine tidegateref05_Merge_l1_o hF (LeX.of [] rfl ⟨⟨rfl, rfl⟩, ⟨rfl, rfl⟩, ⟨rfl, rfl⟩, trivial⟩ trivial) (fun m v hF => ?_); unfold F_tidegateref05_Merge_l1 at hF)
    | (refine And.intro ⟨by kernel_rfl, by kernel_rfl⟩ ?_)
    | (refine EqX.mk (by first | rfl | kernel_rfl) ?_)
    | (exact RetX.o hF (by repeat' first | exact Sub.nil _ | exact Sub.refl _ | refine Sub.agg ?_ | refine Sub.tup ?_ | refine Sub.fn ?_ | exact SubL.nil | refine SubL.cons ?_ ?_ | refine Sub.sl _ ?_ | exact SubE.nil | refine SubE.cons ?_ ?_))

def R_stream_Insert (r : (List T_api_Event) × Int) : AV := .tup [.sl 5 (List.map e_api_Event (r.1)), aI (r.2)]
theorem con_stream_Insert {n : Nat} {a0 : (List T_api_Event)} {a1 : T_api_Event} {r : (List T_api_Event) × Int} (hF : F_stream_Insert n a0 a1 = some r) : Con E0 false 35 [.sl 5 (List.map e_api_Event (a0)), .agg [aI (a1.fSource), aI (a1.fSeq), aI (a1.fType), aI (a1.fTime), .sl 3 (List.map e_api_Value (a1.fValues))]] (R_stream_Insert r) := by
  unfold F_stream_Insert at hF
  refine Con.walk _ Try.func35 rfl (enters_of Try.func35 rfl rfl) rfl (Or.inl rfl) ?_
  repeat' first
    | (refine AW.step ?_; conv => whnf)
    | (refine CondX.o hF (fun hF => ?_) (fun hF => ?_))
    | (refine CondX.t ?_)
    | (refine CondX.f ?_)
    | (refine CallX.o hF R_stream_Check (fun a h => con_stream_Check h) (fun a hF => ?_))
    | (refine CallX.o hF R_stream_placed (fun a h => con_stream_placed h) (fun a hF => ?_))
    | (refine CallX.o hF R_stream_joined (fun a h => con_stream_joined h) (fun a hF => ?_))
    | (refine And.intro ⟨by kernel_rfl, by kernel_rfl⟩ ?_)
    | (refine EqX.mk (by first | rfl | kernel_rfl) ?_)
    | (exact RetX.o hF (by repeat' first | exact Sub.nil _ | exact Sub.refl _ | refine Sub.agg ?_ | refine Sub.tup ?_ | refine Sub.fn ?_ | exact SubL.nil | refine SubL.cons ?_ ?_ | refine Sub.sl _ ?_ | exact SubE.nil | refine SubE.cons ?_ ?_))

def R_tidegateref05_Insert (r : (List T_api_Event) × Int) : AV := .tup [.sl 5 (List.map e_api_Event (r.1)), aI (r.2)]
theorem con_tidegateref05_Insert {n : Nat} {a0 : (List T_api_Event)} {a1 : T_api_Event} {r : (List T_api_Event) × Int} (hF : F_tidegateref05_Insert n a0 a1 = some r) : Con E0 false 36 [.sl 5 (List.map e_api_Event (a0)), .agg [aI (a1.fSource), aI (a1.fSeq), aI (a1.fType), aI (a1.fTime), .sl 3 (List.map e_api_Value (a1.fValues))]] (R_tidegateref05_Insert r) := by
  unfold F_tidegateref05_Insert at hF
  refine Con.walk _ Try.func36 rfl (enters_of Try.func36 rfl rfl) rfl (Or.inl rfl) ?_
  repeat' first
    | (refine AW.step ?_; conv => whnf)
    | (refine CondX.o hF (fun hF => ?_) (fun hF => ?_))
    | (refine CondX.t ?_)
    | (refine CondX.f ?_)
    | (refine CallX.o hF R_tidegateref05_Check (fun a h => con_tidegateref05_Check h) (fun a hF => ?_))
    | (refine CallX.o hF R_tidegateref05_Placed (fun a h => con_tidegateref05_Placed h) (fun a hF => ?_))
    | (refine CallX.o hF R_tidegateref05_conflict (fun a h => con_tidegateref05_conflict h) (fun a hF => ?_))
    | (refine CallX.o hF R_tidegateref05_Has (fun a h => con_tidegateref05_Has h) (fun a hF => ?_))
    | (refine CallX.o hF R_tidegateref05_put (fun a h => con_tidegateref05_put h) (fun a hF => ?_))
    | (refine And.intro ⟨by kernel_rfl, by kernel_rfl⟩ ?_)
    | (refine EqX.mk (by first | rfl | kernel_rfl) ?_)
    | (exact RetX.o hF (by repeat' first | exact Sub.nil _ | exact Sub.refl _ | refine Sub.agg ?_ | refine Sub.tup ?_ | refine Sub.fn ?_ | exact SubL.nil | refine SubL.cons ?_ ?_ | refine Sub.sl _ ?_ | exact SubE.nil | refine SubE.cons ?_ ?_))

def R_tidegatelaw05_awake (r : Bool) : AV := .bool (r)
theorem con_tidegatelaw05_awake {n : Nat} {r : Bool} (hF : F_tidegatelaw05_awake n = some r) : Con E0 true 13 [] (R_tidegatelaw05_awake r) := by
  unfold F_tidegatelaw05_awake at hF
  refine Con.walk _ Try.func13 rfl (enters_of Try.func13 rfl rfl) rfl (Or.inr rfl) ?_
  repeat' first
    | (refine AW.step ?_; conv => whnf)
    | (refine CondX.o hF (fun hF => ?_) (fun hF => ?_))
    | (refine CondX.t ?_)
    | (refine CondX.f ?_)
    | (refine CallX.o hF R_stream_Sort (fun a h => con_stream_Sort h) (fun a hF => ?_))
    | (refine CallX.o hF R_stream_Sort (fun a h => Con.sub (by repeat' first | exact Sub.nil _ | exact Sub.refl _ | refine Sub.agg ?_ | refine Sub.tup ?_ | refine Sub.fn ?_ | exact SubL.nil | refine SubL.cons ?_ ?_ | refine Sub.sl _ ?_ | exact SubE.nil | refine SubE.cons ?_ ?_) (con_stream_Sort h)) (fun a hF => ?_))
    | (refine CallX.o hF R_stream_Inversions (fun a h => con_stream_Inversions h) (fun a hF => ?_))
    | (refine CallX.o hF R_stream_Inversions (fun a h => Con.sub (by repeat' first | exact Sub.nil _ | exact Sub.refl _ | refine Sub.agg ?_ | refine Sub.tup ?_ | refine Sub.fn ?_ | exact SubL.nil | refine SubL.cons ?_ ?_ | refine Sub.sl _ ?_ | exact SubE.nil | refine SubE.cons ?_ ?_) (con_stream_Inversions h)) (fun a hF => ?_))
    | (refine CallX.o hF R_stream_Find (fun a h => con_stream_Find h) (fun a hF => ?_))
    | (refine CallX.o hF R_stream_Slice (fun a h => con_stream_Slice h) (fun a hF => ?_))
    | (refine CallX.o hF R_stream_Merge (fun a h => con_stream_Merge h) (fun a hF => ?_))
    | (refine CallX.o hF R_stream_Merge (fun a h => Con.sub (by repeat' first | exact Sub.nil _ | exact Sub.refl _ | refine Sub.agg ?_ | refine Sub.tup ?_ | refine Sub.fn ?_ | exact SubL.nil | refine SubL.cons ?_ ?_ | refine Sub.sl _ ?_ | exact SubE.nil | refine SubE.cons ?_ ?_) (con_stream_Merge h)) (fun a hF => ?_))
    | (refine CallX.o hF R_tidegateref05_Same (fun a h => con_tidegateref05_Same h) (fun a hF => ?_))
    | (refine CallX.o hF R_tidegateref05_Same (fun a h => Con.sub (by repeat' first | exact Sub.nil _ | exact Sub.refl _ | refine Sub.agg ?_ | refine Sub.tup ?_ | refine Sub.fn ?_ | exact SubL.nil | refine SubL.cons ?_ ?_ | refine Sub.sl _ ?_ | exact SubE.nil | refine SubE.cons ?_ ?_) (con_tidegateref05_Same h)) (fun a hF => ?_))
    | (refine And.intro ⟨by kernel_rfl, by kernel_rfl⟩ ?_)
    | (refine EqX.mk (by first | rfl | kernel_rfl) ?_)
    | (exact RetX.o hF (by repeat' first | exact Sub.nil _ | exact Sub.refl _ | refine Sub.agg ?_ | refine Sub.tup ?_ | refine Sub.fn ?_ | exact SubL.nil | refine SubL.cons ?_ ?_ | refine Sub.sl _ ?_ | exact SubE.nil | refine SubE.cons ?_ ?_))

def R_tidegatelaw05_StreamChecks (r : Bool) : AV := .bool (r)
theorem con_tidegatelaw05_StreamChecks {n : Nat} {a0 : (List T_api_Event)} {r : Bool} (hF : F_tidegatelaw05_StreamChecks n a0 = some r) : Con E0 true 3 [.sl 5 (List.map e_api_Event (a0))] (R_tidegatelaw05_StreamChecks r) := by
  unfold F_tidegatelaw05_StreamChecks at hF
  refine Con.walk _ Try.func3 rfl (enters_of Try.func3 rfl rfl) rfl (Or.inr rfl) ?_
  repeat' first
    | (refine AW.step ?_; conv => whnf)
    | (refine CondX.o hF (fun hF => ?_) (fun hF => ?_))
    | (refine CondX.t ?_)
    | (refine CondX.f ?_)
    | (refine CallX.o hF R_tidegateref05_Few (fun a h => con_tidegateref05_Few h) (fun a hF => ?_))
    | (refine CallX.o hF R_tidegatelaw05_awake (fun a h => con_tidegatelaw05_awake h) (fun a hF => ?_))
    | (refine CallX.o hF R_stream_Sort (fun a h => con_stream_Sort h) (fun a hF => ?_))
    | (refine CallX.o hF R_tidegateref05_Sort (fun a h => con_tidegateref05_Sort h) (fun a hF => ?_))
    | (refine CallX.o hF R_stream_Check (fun a h => con_stream_Check h) (fun a hF => ?_))
    | (refine CallX.o hF R_tidegateref05_Check (fun a h => con_tidegateref05_Check h) (fun a hF => ?_))
    | (refine CallX.o hF R_tidegateref05_Same (fun a h => con_tidegateref05_Same h) (fun a hF => ?_))
    | (refine And.intro ⟨by kernel_rfl, by kernel_rfl⟩ ?_)
    | (refine EqX.mk (by first | rfl | kernel_rfl) ?_)
    | (exact RetX.o hF (by repeat' first | exact Sub.nil _ | exact Sub.refl _ | refine Sub.agg ?_ | refine Sub.tup ?_ | refine Sub.fn ?_ | exact SubL.nil | refine SubL.cons ?_ ?_ | refine Sub.sl _ ?_ | exact SubE.nil | refine SubE.cons ?_ ?_))

def R_tidegatelaw05_StreamFinds (r : Bool) : AV := .bool (r)
theorem con_tidegatelaw05_StreamFinds {n : Nat} {a0 : (List T_api_Event)} {a1 : T_api_Ref} {r : Bool} (hF : F_tidegatelaw05_StreamFinds n a0 a1 = some r) : Con E0 true 4 [.sl 5 (List.map e_api_Event (a0)), .agg [aI (a1.fTime), aI (a1.fSource), aI (a1.fSeq)]] (R_tidegatelaw05_StreamFinds r) := by
  unfold F_tidegatelaw05_StreamFinds at hF
  refine Con.walk _ Try.func4 rfl (enters_of Try.func4 rfl rfl) rfl (Or.inr rfl) ?_
  repeat' first
    | (refine AW.step ?_; conv => whnf)
    | (refine CondX.o hF (fun hF => ?_) (fun hF => ?_))
    | (refine CondX.t ?_)
    | (refine CondX.f ?_)
    | (refine CallX.o hF R_tidegateref05_Few (fun a h => con_tidegateref05_Few h) (fun a hF => ?_))
    | (refine CallX.o hF R_tidegatelaw05_awake (fun a h => con_tidegatelaw05_awake h) (fun a hF => ?_))
    | (refine CallX.o hF R_stream_Find (fun a h => con_stream_Find h) (fun a hF => ?_))
    | (refine CallX.o hF R_tidegateref05_Find (fun a h => con_tidegateref05_Find h) (fun a hF => ?_))
    | (refine And.intro ⟨by kernel_rfl, by kernel_rfl⟩ ?_)
    | (refine EqX.mk (by first | rfl | kernel_rfl) ?_)
    | (exact RetX.o hF (by repeat' first | exact Sub.nil _ | exact Sub.refl _ | refine Sub.agg ?_ | refine Sub.tup ?_ | refine Sub.fn ?_ | exact SubL.nil | refine SubL.cons ?_ ?_ | refine Sub.sl _ ?_ | exact SubE.nil | refine SubE.cons ?_ ?_))

def R_tidegatelaw05_StreamSlices (r : Bool) : AV := .bool (r)
theorem con_tidegatelaw05_StreamSlices {n : Nat} {a0 : (List T_api_Event)} {a1 : Int} {a2 : Int} {r : Bool} (hF : F_tidegatelaw05_StreamSlices n a0 a1 a2 = some r) : Con E0 true 5 [.sl 5 (List.map e_api_Event (a0)), aI (a1), aI (a2)] (R_tidegatelaw05_StreamSlices r) := by
  unfold F_tidegatelaw05_StreamSlices at hF
  refine Con.walk _ Try.func5 rfl (enters_of Try.func5 rfl rfl) rfl (Or.inr rfl) ?_
  repeat' first
    | (refine AW.step ?_; conv => whnf)
    | (refine CondX.o hF (fun hF => ?_) (fun hF => ?_))
    | (refine CondX.t ?_)
    | (refine CondX.f ?_)
    | (refine CallX.o hF R_tidegateref05_Few (fun a h => con_tidegateref05_Few h) (fun a hF => ?_))
    | (refine CallX.o hF R_tidegatelaw05_awake (fun a h => con_tidegatelaw05_awake h) (fun a hF => ?_))
    | (refine CallX.o hF R_stream_Slice (fun a h => con_stream_Slice h) (fun a hF => ?_))
    | (refine CallX.o hF R_tidegateref05_Slice (fun a h => con_tidegateref05_Slice h) (fun a hF => ?_))
    | (refine CallX.o hF R_stream_Inversions (fun a h => con_stream_Inversions h) (fun a hF => ?_))
    | (refine CallX.o hF R_tidegateref05_Inversions (fun a h => con_tidegateref05_Inversions h) (fun a hF => ?_))
    | (refine CallX.o hF R_tidegateref05_Same (fun a h => con_tidegateref05_Same h) (fun a hF => ?_))
    | (refine And.intro ⟨by kernel_rfl, by kernel_rfl⟩ ?_)
    | (refine EqX.mk (by first | rfl | kernel_rfl) ?_)
    | (exact RetX.o hF (by repeat' first | exact Sub.nil _ | exact Sub.refl _ | refine Sub.agg ?_ | refine Sub.tup ?_ | refine Sub.fn ?_ | exact SubL.nil | refine SubL.cons ?_ ?_ | refine Sub.sl _ ?_ | exact SubE.nil | refine SubE.cons ?_ ?_))

def R_tidegatelaw05_StreamMerges (r : Bool) : AV := .bool (r)
theorem con_tidegatelaw05_StreamMerges {n : Nat} {a0 : (List T_api_Event)} {a1 : (List T_api_Event)} {a2 : T_api_Event} {r : Bool} (hF : F_tidegatelaw05_StreamMerges n a0 a1 a2 = some r) : Con E0 true 8 [.sl 5 (List.map e_api_Event (a0)), .sl 5 (List.map e_api_Event (a1)), .agg [aI (a2.fSource), aI (a2.fSeq), aI (a2.fType), aI (a2.fTime), .sl 3 (List.map e_api_Value (a2.fValues))]] (R_tidegatelaw05_StreamMerges r) := by
  unfold F_tidegatelaw05_StreamMerges at hF
  refine Con.walk _ Try.func8 rfl (enters_of Try.func8 rfl rfl) rfl (Or.inr rfl) ?_
  repeat' first
    | (refine AW.step ?_; conv => whnf)
    | (refine CondX.o hF (fun hF => ?_) (fun hF => ?_))
    | (refine CondX.t ?_)
    | (refine CondX.f ?_)
    | (refine CallX.o hF R_tidegateref05_Few (fun a h => con_tidegateref05_Few h) (fun a hF => ?_))
    | (refine CallX.o hF R_tidegatelaw05_awake (fun a h => con_tidegatelaw05_awake h) (fun a hF => ?_))
    | (refine CallX.o hF R_stream_Merge (fun a h => con_stream_Merge h) (fun a hF => ?_))
    | (refine CallX.o hF R_tidegateref05_Merge (fun a h => con_tidegateref05_Merge h) (fun a hF => ?_))
    | (refine CallX.o hF R_stream_Insert (fun a h => con_stream_Insert h) (fun a hF => ?_))
    | (refine CallX.o hF R_tidegateref05_Insert (fun a h => con_tidegateref05_Insert h) (fun a hF => ?_))
    | (refine CallX.o hF R_tidegateref05_Same (fun a h => con_tidegateref05_Same h) (fun a hF => ?_))
    | (refine And.intro ⟨by kernel_rfl, by kernel_rfl⟩ ?_)
    | (refine EqX.mk (by first | rfl | kernel_rfl) ?_)
    | (exact RetX.o hF (by repeat' first | exact Sub.nil _ | exact Sub.refl _ | refine Sub.agg ?_ | refine Sub.tup ?_ | refine Sub.fn ?_ | exact SubL.nil | refine SubL.cons ?_ ?_ | refine Sub.sl _ ?_ | exact SubE.nil | refine SubE.cons ?_ ?_))

set_option maxHeartbeats 400000 in
theorem clone26_any (l : List (Cel 5)) (S : Nat → Prop) (v : Value) (w : World) (h : Sl w S 5 encC v l) (hl : l.length ≤ 1000000000) :
    Calls Try.prog 26 #[v] w (RetOwn 51 5 encC l w) := by
  have eok : EOk Try.prog 22 51 5 56 (encC (n := 5)) := eokC (sz := 5) tyOk22 rfl tyOk51 (by omega) rfl
  obtain ⟨A, c, rfl, hc, _⟩ := h.form
  have hq := fun (W : World) => Lib.run_eql_slice_nil W 22 51 A l.length c 0 0 Try.underlying22
  have H := hide h
  cases A with
  | none =>
    have h0 : l = [] := h.none_nil
    subst h0
    clear h H hl hc
    simp only [List.length_nil, Option.isNone_none] at hq ⊢
    go_enter Try.func26, Try.ntmps26
    go_wp2
    go_ret
    exact ⟨none, 0, rfl, Own.nil_, by go_grown⟩
  | some ad =>
    clear h
    go_enter Try.func26, Try.ntmps26
    go_wp2_with (at_builtin; refine wpList_append_sl rfl _ _ rfl eok rfl Own.made_ rfl (H.out.alloc _) (by simp; omega) (by omega) (by simp) ?_; intro A' c' w1 ho hg _)
    go_ret
    exact ⟨A', c', rfl, ho, (Own.made_ (sz := 5) (enc := encC (n := 5))).grown ((Below.refl _ _).alloc (Nat.le_refl _) _) (Nat.le_refl _) (by simp) hg⟩
theorem conT_clone26 {n : Nat} {a r : List T_api_Event} (hF : F_clone n a = some r) : ConT E0 26 [.sl 5 (List.map e_api_Event a)] 51 5 (List.map e_api_Event r) (.row 0) := clone_gen rfl (enters_of Try.func26 rfl rfl) clone26_any hF
theorem con_clone26 {n : Nat} {a r : List T_api_Event} (hF : F_clone n a = some r) : Con E0 false 26 [.sl 5 (List.map e_api_Event a)] (.sl 5 (List.map e_api_Event r)) := (conT_clone26 hF).close rfl
def R_tidegatelaw05_StreamUnites (r : Bool) : AV := .bool (r)
theorem con_tidegatelaw05_StreamUnites {n : Nat} {a0 : (List T_api_Event)} {a1 : (List T_api_Event)} {a2 : (List T_api_Event)} {r : Bool} (hF : F_tidegatelaw05_StreamUnites n a0 a1 a2 = some r) : Con E0 true 6 [.sl 5 (List.map e_api_Event (a0)), .sl 5 (List.map e_api_Event (a1)), .sl 5 (List.map e_api_Event (a2))] (R_tidegatelaw05_StreamUnites r) := by
  unfold F_tidegatelaw05_StreamUnites at hF
  refine Con.walk _ Try.func6 rfl (enters_of Try.func6 rfl rfl) rfl (Or.inr rfl) ?_
  repeat' first
    | (refine AW.step ?_; conv => whnf)
    | (refine CondX.o hF (fun hF => ?_) (fun hF => ?_))
    | (refine CondX.t ?_)
    | (refine CondX.f ?_)
    | (refine CallX.o hF R_tidegateref05_Few (fun a h => con_tidegateref05_Few h) (fun a hF => ?_))
    | (refine CallX.o hF R_tidegatelaw05_awake (fun a h => con_tidegatelaw05_awake h) (fun a hF => ?_))
    | (refine CallX.o hF R_stream_Merge (fun a h => con_stream_Merge h) (fun a hF => ?_))
    | (refine CallX.oR hF (fun r => r) e_api_Event (fun _ => AV.row 0) rfl (fun a h => conT_clone26 h) (fun a hF => ?_))
    | (refine CallX.oR hF (fun r => r) e_api_Event (fun _ => AV.row 0) rfl (fun a h => ConT.sub (by repeat' first | exact Sub.nil _ | exact Sub.refl _ | refine Sub.agg ?_ | refine Sub.tup ?_ | refine Sub.fn ?_ | exact SubL.nil | refine SubL.cons ?_ ?_ | refine Sub.sl _ ?_ | exact SubE.nil | refine SubE.cons ?_ ?_) (conT_clone26 h)) (fun a hF => ?_))
    | (refine AppX.o e_api_Event hF (by first | exact SubR.refl _ | (repeat' first | exact SubR.nil | refine SubR.cons ?_ ?_ | exact SubL.nil | refine SubL.cons ?_ ?_ | exact Sub.refl _ | exact Sub.nil _)) (fun l hF => ?_))
    | (refine CallC.oE hF 62 R_stream_Sort rfl (fun a h => con_stream_Sort h) rfl rfl (fun a hF => ?_))
    | (refine CallC.oE hF 62 R_stream_Sort rfl (fun a h => Con.sub (by repeat' first | exact Sub.nil _ | exact Sub.refl _ | refine Sub.agg ?_ | refine Sub.tup ?_ | refine Sub.fn ?_ | exact SubL.nil | refine SubL.cons ?_ ?_ | refine Sub.sl _ ?_ | exact SubE.nil | refine SubE.cons ?_ ?_) (con_stream_Sort h)) rfl rfl (fun a hF => ?_))
    | (refine CallX.o hF R_tidegateref05_Same (fun a h => con_tidegateref05_Same h) (fun a hF => ?_))
    | (refine And.intro ⟨by kernel_rfl, by kernel_rfl⟩ ?_)
    | (refine EqX.mk (by first | rfl | kernel_rfl) ?_)
    | (exact RetX.o hF (by repeat' first | exact Sub.nil _ | exact Sub.refl _ | refine Sub.agg ?_ | refine Sub.tup ?_ | refine Sub.fn ?_ | exact SubL.nil | refine SubL.cons ?_ ?_ | refine Sub.sl _ ?_ | exact SubE.nil | refine SubE.cons ?_ ?_))

def R_tidegatelaw05_StreamDisorders_1 (r : Bool) : AV := .bool (r)
theorem con_tidegatelaw05_StreamDisorders_1 {n : Nat} {a0 : T_api_Event} {r : Bool} (hF : F_tidegatelaw05_StreamDisorders_1 n a0 = some r) : Con E0 true 28 [.agg [aI (a0.fSource), aI (a0.fSeq), aI (a0.fType), aI (a0.fTime), .sl 3 (List.map e_api_Value (a0.fValues))]] (R_tidegatelaw05_StreamDisorders_1 r) := by
  unfold F_tidegatelaw05_StreamDisorders_1 at hF
  refine Con.walk _ Try.func28 rfl (enters_of Try.func28 rfl rfl) rfl (Or.inr rfl) ?_
  repeat' first
    | (refine AW.step ?_; conv => whnf)
    | (refine CondX.o hF (fun hF => ?_) (fun hF => ?_))
    | (refine CondX.t ?_)
    | (refine CondX.f ?_)
    | (refine CallX.o hF R_tidegateref05_Placed (fun a h => con_tidegateref05_Placed h) (fun a hF => ?_))
    | (refine And.intro ⟨by kernel_rfl, by kernel_rfl⟩ ?_)
    | (refine EqX.mk (by first | rfl | kernel_rfl) ?_)
    | (exact RetX.o hF (by repeat' first | exact Sub.nil _ | exact Sub.refl _ | refine Sub.agg ?_ | refine Sub.tup ?_ | refine Sub.fn ?_ | exact SubL.nil | refine SubL.cons ?_ ?_ | refine Sub.sl _ ?_ | exact SubE.nil | refine SubE.cons ?_ ?_))

def S_slices_IndexFunc_s52_l1 (a0 : (List T_api_Event)) (v1_0 : Int) : AS := ⟨[(0, .sl 5 (List.map e_api_Event (a0))), (1, .fn 28 []), (7, aI ((((List.map e_api_Event (a0)).length : Nat) : Int))), (8, aI (v1_0))], []⟩
theorem slices_IndexFunc_s52_l1_o {n N : Nat} {a0 : (List T_api_Event)} {k1_0_0 : Option (Int)} {R : Exit → AS → Prop} {K : List KItem} {c : Code} {σ : AS} {v0 : Int} {r : Int} (hF : F_slices_IndexFunc_s52_l1 n a0 k1_0_0 N v0 = some r) (hl : LeX E0 19 σ (S_slices_IndexFunc_s52_l1 a0 v0)) (round : ∀ m v, F_slices_IndexFunc_s52_l1 n a0 k1_0_0 (m + 1) v = some r → AW E0 19 (thenA (fun σ' => ∃ v', F_slices_IndexFunc_s52_l1 n a0 k1_0_0 m v' = some r ∧ LeX E0 19 σ' (S_slices_IndexFunc_s52_l1 a0 v')) (AW E0 19 R K)) [.code c] .normal (S_slices_IndexFunc_s52_l1 a0 v)) : LoopX E0 19 (fun next σ' => AW E0 19 (thenA next (AW E0 19 R K)) [.code c] .normal σ') σ :=
  LoopA.o (S := S_slices_IndexFunc_s52_l1 a0) hF (fun _ => rfl) hl round
def R_slices_IndexFunc_s52 (r : Int) : AV := aI (r)
theorem con_slices_IndexFunc_s52 {n : Nat} {a0 : (List T_api_Event)} {r : Int} (hF : F_slices_IndexFunc_s52 n a0 = some r) : Con E0 true 62 [.sl 5 (List.map e_api_Event (a0)), .fn 28 []] (R_slices_IndexFunc_s52 r) := by
  unfold F_slices_IndexFunc_s52 at hF
  refine Con.walk _ Try.func62 rfl (enters_of Try.func62 rfl rfl) rfl (Or.inr rfl) ?_
  repeat' first
    | (refine AW.step ?_; conv => whnf)
    | (refine CondX.o hF (fun hF => ?_) (fun hF => ?_))
    | (refine CondX.t ?_)
    | (refine CondX.f ?_)
    | (refine IdxX.o e_api_Event hF (fun x hF => ?_))
    | (refine CallX.o hF R_tidegatelaw05_StreamDisorders_1 (fun a h => con_tidegatelaw05_StreamDisorders_1 h) (fun a hF => ?_))
    | (exact ⟨_, hF, LeX.of [] rfl ⟨⟨rfl, rfl⟩, ⟨rfl, rfl⟩, ⟨rfl, rfl⟩, ⟨rfl, rfl⟩, trivial⟩ trivial⟩)
    | (refine slices_IndexFunc_s52_l1_o hF (LeX.of [] rfl ⟨⟨rfl, rfl⟩, ⟨rfl, rfl⟩, ⟨rfl, rfl⟩, ⟨rfl, rfl⟩, trivial⟩ trivial) (fun m v hF => ?_); unfold F_slices_IndexFunc_s52_l1 at hF)
    | (refine And.intro ⟨by kernel_rfl, by kernel_rfl⟩ ?_)
    | (refine EqX.mk (by first | rfl | kernel_rfl) ?_)
    | (exact RetX.o hF (by repeat' first | exact Sub.nil _ | exact Sub.refl _ | refine Sub.agg ?_ | refine Sub.tup ?_ | refine Sub.fn ?_ | exact SubL.nil | refine SubL.cons ?_ ?_ | refine Sub.sl _ ?_ | exact SubE.nil | refine SubE.cons ?_ ?_))

def R_slices_ContainsFunc_s52 (r : Bool) : AV := .bool (r)
theorem con_slices_ContainsFunc_s52 {n : Nat} {a0 : (List T_api_Event)} {r : Bool} (hF : F_slices_ContainsFunc_s52 n a0 = some r) : Con E0 true 27 [.sl 5 (List.map e_api_Event (a0)), .fn 28 []] (R_slices_ContainsFunc_s52 r) := by
  unfold F_slices_ContainsFunc_s52 at hF
  refine Con.walk _ Try.func27 rfl (enters_of Try.func27 rfl rfl) rfl (Or.inr rfl) ?_
  repeat' first
    | (refine AW.step ?_; conv => whnf)
    | (refine CondX.o hF (fun hF => ?_) (fun hF => ?_))
    | (refine CondX.t ?_)
    | (refine CondX.f ?_)
    | (refine CallX.o hF R_slices_IndexFunc_s52 (fun a h => con_slices_IndexFunc_s52 h) (fun a hF => ?_))
    | (refine And.intro ⟨by kernel_rfl, by kernel_rfl⟩ ?_)
    | (refine EqX.mk (by first | rfl | kernel_rfl) ?_)
    | (exact RetX.o hF (by repeat' first | exact Sub.nil _ | exact Sub.refl _ | refine Sub.agg ?_ | refine Sub.tup ?_ | refine Sub.fn ?_ | exact SubL.nil | refine SubL.cons ?_ ?_ | refine Sub.sl _ ?_ | exact SubE.nil | refine SubE.cons ?_ ?_))

def R_tidegatelaw05_StreamDisorders_2 (r : Int) : AV := aI (r)
theorem con_tidegatelaw05_StreamDisorders_2 {n : Nat} {a0 : T_api_Event} {a1 : T_api_Event} {r : Int} (hF : F_tidegatelaw05_StreamDisorders_2 n a0 a1 = some r) : Con E0 true 31 [.agg [aI (a0.fSource), aI (a0.fSeq), aI (a0.fType), aI (a0.fTime), .sl 3 (List.map e_api_Value (a0.fValues))], .agg [aI (a1.fSource), aI (a1.fSeq), aI (a1.fType), aI (a1.fTime), .sl 3 (List.map e_api_Value (a1.fValues))]] (R_tidegatelaw05_StreamDisorders_2 r) := by
  unfold F_tidegatelaw05_StreamDisorders_2 at hF
  refine Con.walk _ Try.func31 rfl (enters_of Try.func31 rfl rfl) rfl (Or.inr rfl) ?_
  repeat' first
    | (refine AW.step ?_; conv => whnf)
    | (refine CondX.o hF (fun hF => ?_) (fun hF => ?_))
    | (refine CondX.t ?_)
    | (refine CondX.f ?_)
    | (refine CallX.o hF R_tidegateref05_Ref (fun a h => con_tidegateref05_Ref h) (fun a hF => ?_))
    | (refine CallX.o hF R_tidegateref05_Order (fun a h => con_tidegateref05_Order h) (fun a hF => ?_))
    | (refine And.intro ⟨by kernel_rfl, by kernel_rfl⟩ ?_)
    | (refine EqX.mk (by first | rfl | kernel_rfl) ?_)
    | (exact RetX.o hF (by repeat' first | exact Sub.nil _ | exact Sub.refl _ | refine Sub.agg ?_ | refine Sub.tup ?_ | refine Sub.fn ?_ | exact SubL.nil | refine SubL.cons ?_ ?_ | refine Sub.sl _ ?_ | exact SubE.nil | refine SubE.cons ?_ ?_))

def S_slices_IsSortedFunc_l1 (a0 : (List T_api_Event)) (v1_0 : Int) : AS := ⟨[(0, .sl 5 (List.map e_api_Event (a0))), (1, .fn 31 []), (5, aI (v1_0))], []⟩
theorem slices_IsSortedFunc_l1_o {n N : Nat} {a0 : (List T_api_Event)} {k1_0_0 : Option (Bool)} {R : Exit → AS → Prop} {K : List KItem} {c : Code} {σ : AS} {v0 : Int} {r : Bool} (hF : F_slices_IsSortedFunc_l1 n a0 k1_0_0 N v0 = some r) (hl : LeX E0 25 σ (S_slices_IsSortedFunc_l1 a0 v0)) (round : ∀ m v, F_slices_IsSortedFunc_l1 n a0 k1_0_0 (m + 1) v = some r → AW E0 25 (thenA (fun σ' => ∃ v', F_slices_IsSortedFunc_l1 n a0 k1_0_0 m v' = some r ∧ LeX E0 25 σ' (S_slices_IsSortedFunc_l1 a0 v')) (AW E0 25 R K)) [.code c] .normal (S_slices_IsSortedFunc_l1 a0 v)) : LoopX E0 25 (fun next σ' => AW E0 25 (thenA next (AW E0 25 R K)) [.code c] .normal σ') σ :=
  LoopA.o (S := S_slices_IsSortedFunc_l1 a0) hF (fun _ => rfl) hl round
def R_slices_IsSortedFunc (r : Bool) : AV := .bool (r)
theorem con_slices_IsSortedFunc {n : Nat} {a0 : (List T_api_Event)} {r : Bool} (hF : F_slices_IsSortedFunc n a0 = some r) : Con E0 true 30 [.sl 5 (List.map e_api_Event (a0)), .fn 31 []] (R_slices_IsSortedFunc r) := by
  unfold F_slices_IsSortedFunc at hF
  refine Con.walk _ Try.func30 rfl (enters_of Try.func30 rfl rfl) rfl (Or.inr rfl) ?_
  repeat' first
    | (refine AW.step ?_; conv => whnf)
    | (refine CondX.o hF (fun hF => ?_) (fun hF => ?_))
    | (refine CondX.t ?_)
    | (refine CondX.f ?_)
    | (refine IdxX.o e_api_Event hF (fun x hF => ?_))
    | (refine CallX.o hF R_tidegatelaw05_StreamDisorders_2 (fun a h => con_tidegatelaw05_StreamDisorders_2 h) (fun a hF => ?_))
    | (exact ⟨_, hF, LeX.of [] rfl ⟨⟨rfl, rfl⟩, ⟨rfl, rfl⟩, ⟨rfl, rfl⟩, trivial⟩ trivial⟩)
    | (refine slices_IsSortedFunc_l1_o hF (LeX.of [] rfl ⟨⟨rfl, rfl⟩, ⟨rfl, rfl⟩, ⟨rfl, rfl⟩, trivial⟩ trivial) (fun m v hF => ?_); unfold F_slices_IsSortedFunc_l1 at hF)
    | (refine And.intro ⟨by kernel_rfl, by kernel_rfl⟩ ?_)
    | (refine EqX.mk (by first | rfl | kernel_rfl) ?_)
    | (exact RetX.o hF (by repeat' first | exact Sub.nil _ | exact Sub.refl _ | refine Sub.agg ?_ | refine Sub.tup ?_ | refine Sub.fn ?_ | exact SubL.nil | refine SubL.cons ?_ ?_ | refine Sub.sl _ ?_ | exact SubE.nil | refine SubE.cons ?_ ?_))

def R_tidegatelaw05_StreamDisorders (r : Bool) : AV := .bool (r)
theorem con_tidegatelaw05_StreamDisorders {n : Nat} {a0 : (List T_api_Event)} {a1 : Int} {r : Bool} (hF : F_tidegatelaw05_StreamDisorders n a0 a1 = some r) : Con E0 true 7 [.sl 5 (List.map e_api_Event (a0)), .int .u8 (a1)] (R_tidegatelaw05_StreamDisorders r) := by
  unfold F_tidegatelaw05_StreamDisorders at hF
  refine Con.walk _ Try.func7 rfl (enters_of Try.func7 rfl rfl) rfl (Or.inr rfl) ?_
  repeat' first
    | (refine AW.step ?_; conv => whnf)
    | (refine CondX.o hF (fun hF => ?_) (fun hF => ?_))
    | (refine CondX.t ?_)
    | (refine CondX.f ?_)
    | (refine CallX.o hF R_tidegateref05_Few (fun a h => con_tidegateref05_Few h) (fun a hF => ?_))
    | (refine CallX.o hF R_tidegatelaw05_awake (fun a h => con_tidegatelaw05_awake h) (fun a hF => ?_))
    | (refine CallX.o hF R_slices_ContainsFunc_s52 (fun a h => con_slices_ContainsFunc_s52 h) (fun a hF => ?_))
    | (refine CallX.o hF R_stream_Inversions (fun a h => con_stream_Inversions h) (fun a hF => ?_))
    | (refine CallX.o hF R_slices_IsSortedFunc (fun a h => con_slices_IsSortedFunc h) (fun a hF => ?_))
    | (refine NzX.o hF (fun hF => ?_))
    | (refine CallX.oR hF (fun r => r) e_api_Event (fun _ => AV.row 0) rfl (fun a h => conT_clone26 h) (fun a hF => ?_))
    | (refine CallX.oR hF (fun r => r) e_api_Event (fun _ => AV.row 0) rfl (fun a h => ConT.sub (by repeat' first | exact Sub.nil _ | exact Sub.refl _ | refine Sub.agg ?_ | refine Sub.tup ?_ | refine Sub.fn ?_ | exact SubL.nil | refine SubL.cons ?_ ?_ | refine Sub.sl _ ?_ | exact SubE.nil | refine SubE.cons ?_ ?_) (conT_clone26 h)) (fun a hF => ?_))
    | (refine NatX.o hF (fun m hF => ?_))
    | (refine EltX.o e_api_Event hF (fun x hF => ?_))
    | (refine SetX.o e_api_Event hF (fun x => rfl) (fun x => (by first | exact SubL.refl _ | (repeat' first | exact SubL.nil | refine SubL.cons ?_ ?_ | exact Sub.refl _ | exact Sub.nil _ | refine Sub.agg ?_))) (fun l hF => ?_))
    | (refine CallC.o hF R_stream_Inversions (fun a h => con_stream_Inversions h) (fun _ => Or.inr rfl) (fun a hF => ?_))
    | (refine IdxX.o e_api_Event hF (fun x hF => ?_))
    | (refine CallX.o hF R_tidegateref05_Ref (fun a h => con_tidegateref05_Ref h) (fun a hF => ?_))
    | (refine CallX.o hF R_tidegateref05_Order (fun a h => con_tidegateref05_Order h) (fun a hF => ?_))
    | (refine And.intro ⟨by kernel_rfl, by kernel_rfl⟩ ?_)
    | (refine EqX.mk (by first | rfl | kernel_rfl) ?_)
    | (exact RetX.o hF (by repeat' first | exact Sub.nil _ | exact Sub.refl _ | refine Sub.agg ?_ | refine Sub.tup ?_ | refine Sub.fn ?_ | exact SubL.nil | refine SubL.cons ?_ ?_ | refine Sub.sl _ ?_ | exact SubE.nil | refine SubE.cons ?_ ?_))

def R_tidegateref05_Key (r : T_api_Value × Bool × Int) : AV := .tup [.agg [aI (r.1.fKind), aI (r.1.fNum), .str (r.1.fText)], .bool (r.2.1), aI (r.2.2)]
theorem con_tidegateref05_Key {n : Nat} {a0 : T_api_Event} {a1 : (List Int)} {r : T_api_Value × Bool × Int} (hF : F_tidegateref05_Key n a0 a1 = some r) : Con E0 true 44 [.agg [aI (a0.fSource), aI (a0.fSeq), aI (a0.fType), aI (a0.fTime), .sl 3 (List.map e_api_Value (a0.fValues))], .sl 1 (List.map aI (a1))] (R_tidegateref05_Key r) := by
  unfold F_tidegateref05_Key at hF
  refine Con.walk _ Try.func44 rfl (enters_of Try.func44 rfl rfl) rfl (Or.inr rfl) ?_
  repeat' first
    | (refine AW.step ?_; conv => whnf)
    | (refine CondX.o hF (fun hF => ?_) (fun hF => ?_))
    | (refine CondX.t ?_)
    | (refine CondX.f ?_)
    | (refine IdxX.o aI hF (fun x hF => ?_))
    | (refine IdxX.o e_api_Value hF (fun x hF => ?_))
    | (refine And.intro ⟨by kernel_rfl, by kernel_rfl⟩ ?_)
    | (refine EqX.mk (by first | rfl | kernel_rfl) ?_)
    | (exact RetX.o hF (by repeat' first | exact Sub.nil _ | exact Sub.refl _ | refine Sub.agg ?_ | refine Sub.tup ?_ | refine Sub.fn ?_ | exact SubL.nil | refine SubL.cons ?_ ?_ | refine Sub.sl _ ?_ | exact SubE.nil | refine SubE.cons ?_ ?_))

def R_tidegateref01_order (r : Int) : AV := aI (r)
theorem con_tidegateref01_order {n : Nat} {a0 : Int} {a1 : Int} {r : Int} (hF : F_tidegateref01_order n a0 a1 = some r) : Con E0 true 68 [aI (a0), aI (a1)] (R_tidegateref01_order r) := by
  unfold F_tidegateref01_order at hF
  refine Con.walk _ Try.func68 rfl (enters_of Try.func68 rfl rfl) rfl (Or.inr rfl) ?_
  repeat' first
    | (refine AW.step ?_; conv => whnf)
    | (refine CondX.o hF (fun hF => ?_) (fun hF => ?_))
    | (refine CondX.t ?_)
    | (refine CondX.f ?_)
    | (refine And.intro ⟨by kernel_rfl, by kernel_rfl⟩ ?_)
    | (refine EqX.mk (by first | rfl | kernel_rfl) ?_)
    | (exact RetX.o hF (by repeat' first | exact Sub.nil _ | exact Sub.refl _ | refine Sub.agg ?_ | refine Sub.tup ?_ | refine Sub.fn ?_ | exact SubL.nil | refine SubL.cons ?_ ?_ | refine Sub.sl _ ?_ | exact SubE.nil | refine SubE.cons ?_ ?_))

def R_tidegateref01_Compare (r : Int) : AV := aI (r)
theorem con_tidegateref01_Compare {n : Nat} {a0 : T_api_Value} {a1 : T_api_Value} {r : Int} (hF : F_tidegateref01_Compare n a0 a1 = some r) : Con E0 true 43 [.agg [aI (a0.fKind), aI (a0.fNum), .str (a0.fText)], .agg [aI (a1.fKind), aI (a1.fNum), .str (a1.fText)]] (R_tidegateref01_Compare r) := by
  unfold F_tidegateref01_Compare at hF
  refine Con.walk _ Try.func43 rfl (enters_of Try.func43 rfl rfl) rfl (Or.inr rfl) ?_
  repeat' first
    | (refine AW.step ?_; conv => whnf)
    | (refine CondX.o hF (fun hF => ?_) (fun hF => ?_))
    | (refine CondX.t ?_)
    | (refine CondX.f ?_)
    | (refine CallX.o hF R_tidegateref01_order (fun a h => con_tidegateref01_order h) (fun a hF => ?_))
    | (refine And.intro ⟨by kernel_rfl, by kernel_rfl⟩ ?_)
    | (refine EqX.mk (by first | rfl | kernel_rfl) ?_)
    | (exact RetX.o hF (by repeat' first | exact Sub.nil _ | exact Sub.refl _ | refine Sub.agg ?_ | refine Sub.tup ?_ | refine Sub.fn ?_ | exact SubL.nil | refine SubL.cons ?_ ?_ | refine Sub.sl _ ?_ | exact SubE.nil | refine SubE.cons ?_ ?_))

def S_tidegateref05_keys_l1 (a1 : T_api_Value) (a0 : (List T_api_Value)) (v1_0 : Int × (List T_api_Value)) : AS := ⟨[(0, .sl 3 (List.map e_api_Value (a0))), (3, .ptr 3 0), (5, .row 7026), (6, aI (v1_0.1))], [(3, .box 77 [aI (a1.fKind), aI (a1.fNum), .str (a1.fText)]), (7026, .row 77 3 (List.map e_api_Value (v1_0.2)))]⟩
theorem tidegateref05_keys_l1_o {n N : Nat} {a1 : T_api_Value} {a0 : (List T_api_Value)} {k1_0_0 : Int → (List T_api_Value) → Option ((List T_api_Value))} {R : Exit → AS → Prop} {K : List KItem} {c : Code} {σ : AS} {v0 : Int × (List T_api_Value)} {r : (List T_api_Value)} (hF : F_tidegateref05_keys_l1 n a1 a0 k1_0_0 N v0 = some r) (hl : LeX E0 50 σ (S_tidegateref05_keys_l1 a1 a0 v0)) (round : ∀ m v, F_tidegateref05_keys_l1 n a1 a0 k1_0_0 (m + 1) v = some r → AW E0 50 (thenA (fun σ' => ∃ v', F_tidegateref05_keys_l1 n a1 a0 k1_0_0 m v' = some r ∧ LeX E0 50 σ' (S_tidegateref05_keys_l1 a1 a0 v')) (AW E0 50 R K)) [.code c] .normal (S_tidegateref05_keys_l1 a1 a0 v)) : LoopX E0 50 (fun next σ' => AW E0 50 (thenA next (AW E0 50 R K)) [.code c] .normal σ') σ :=
  LoopA.o (S := S_tidegateref05_keys_l1 a1 a0) hF (fun _ => rfl) hl round
def R_tidegateref05_keys (r : (List T_api_Value)) : AV := .sl 3 (List.map e_api_Value (r))
theorem con_tidegateref05_keys {n : Nat} {a0 : (List T_api_Value)} {a1 : T_api_Value} {r : (List T_api_Value)} (hF : F_tidegateref05_keys n a0 a1 = some r) : Con E0 false 67 [.sl 3 (List.map e_api_Value (a0)), .agg [aI (a1.fKind), aI (a1.fNum), .str (a1.fText)]] (R_tidegateref05_keys r) := by
  unfold F_tidegateref05_keys at hF
  refine Con.walk _ Try.func67 rfl (enters_of Try.func67 rfl rfl) rfl (Or.inl rfl) ?_
  repeat' first
    | (refine AW.step ?_; conv => whnf)
    | (refine CondX.o hF (fun hF => ?_) (fun hF => ?_))
    | (refine CondX.t ?_)
    | (refine CondX.f ?_)
    | (refine AppX.o e_api_Value hF (by first | exact SubR.refl _ | (repeat' first | exact SubR.nil | refine SubR.cons ?_ ?_ | exact SubL.nil | refine SubL.cons ?_ ?_ | exact Sub.refl _ | exact Sub.nil _)) (fun l hF => ?_))
    | (refine SlsX.o e_api_Value hF (fun l hF => ?_))
    | (refine IdxX.o e_api_Value hF (fun x hF => ?_))
    | (refine CallX.o hF R_tidegateref01_Compare (fun a h => con_tidegateref01_Compare h) (fun a hF => ?_))
    | (exact ⟨_, hF, LeX.of [(7026, 26)] rfl ⟨⟨rfl, rfl⟩, ⟨rfl, rfl⟩, ⟨rfl, rfl⟩, ⟨rfl, rfl⟩, trivial⟩ ⟨⟨rfl, rfl⟩, ⟨rfl, rfl⟩, trivial⟩⟩)
    | (refine tidegateref05_keys_l1_o hF (LeX.trans (LeX.adopt 5 7026 77 3 rfl rfl) (LeX.of [] rfl ⟨⟨rfl, rfl⟩, ⟨rfl, rfl⟩, ⟨rfl, rfl⟩, ⟨rfl, rfl⟩, trivial⟩ ⟨⟨rfl, rfl⟩, ⟨rfl, rfl⟩, trivial⟩)) (fun m v hF => ?_); unfold F_tidegateref05_keys_l1 at hF)
    | (refine And.intro ⟨by kernel_rfl, by kernel_rfl⟩ ?_)
    | (refine EqX.mk (by first | rfl | kernel_rfl) ?_)
    | (exact RetX.o hF (by repeat' first | exact Sub.nil _ | exact Sub.refl _ | refine Sub.agg ?_ | refine Sub.tup ?_ | refine Sub.fn ?_ | exact SubL.nil | refine SubL.cons ?_ ?_ | refine Sub.sl _ ?_ | exact SubE.nil | refine SubE.cons ?_ ?_))

def T_tidegateref05_keys (r : (List T_api_Value)) : AV := .row 0
theorem conT_tidegateref05_keys {n : Nat} {a0 : (List T_api_Value)} {a1 : T_api_Value} {r : (List T_api_Value)} (hF : F_tidegateref05_keys n a0 a1 = some r) : ConT E0 67 [.sl 3 (List.map e_api_Value (a0)), .agg [aI (a1.fKind), aI (a1.fNum), .str (a1.fText)]] 77 3 (List.map e_api_Value (r)) (T_tidegateref05_keys r) := by
  unfold F_tidegateref05_keys at hF
  refine ConT.walk _ Try.func67 rfl (enters_of Try.func67 rfl rfl) rfl rfl ?_
  repeat' first
    | (refine AW.step ?_; conv => whnf)
    | (refine CondX.o hF (fun hF => ?_) (fun hF => ?_))
    | (refine CondX.t ?_)
    | (refine CondX.f ?_)
    | (refine AppX.o e_api_Value hF (by first | exact SubR.refl _ | (repeat' first | exact SubR.nil | refine SubR.cons ?_ ?_ | exact SubL.nil | refine SubL.cons ?_ ?_ | exact Sub.refl _ | exact Sub.nil _)) (fun l hF => ?_))
    | (refine SlsX.o e_api_Value hF (fun l hF => ?_))
    | (refine IdxX.o e_api_Value hF (fun x hF => ?_))
    | (refine CallX.o hF R_tidegateref01_Compare (fun a h => con_tidegateref01_Compare h) (fun a hF => ?_))
    | (exact ⟨_, hF, LeX.of [(7026, 26)] rfl ⟨⟨rfl, rfl⟩, ⟨rfl, rfl⟩, ⟨rfl, rfl⟩, ⟨rfl, rfl⟩, trivial⟩ ⟨⟨rfl, rfl⟩, ⟨rfl, rfl⟩, trivial⟩⟩)
    | (refine tidegateref05_keys_l1_o hF (LeX.trans (LeX.adopt 5 7026 77 3 rfl rfl) (LeX.of [] rfl ⟨⟨rfl, rfl⟩, ⟨rfl, rfl⟩, ⟨rfl, rfl⟩, ⟨rfl, rfl⟩, trivial⟩ ⟨⟨rfl, rfl⟩, ⟨rfl, rfl⟩, trivial⟩)) (fun m v hF => ?_); unfold F_tidegateref05_keys_l1 at hF)
    | (refine And.intro ⟨by kernel_rfl, by kernel_rfl⟩ ?_)
    | (refine EqX.mk (by first | rfl | kernel_rfl) ?_)
    | (refine TX.o (rl := fun r => List.map e_api_Value (r)) (res := T_tidegateref05_keys) hF ?_; exact TX.mk _ 49 (LeX.refl _ _ _) _ rfl rfl (by repeat' first | exact Sub.nil _ | exact Sub.refl _ | refine Sub.agg ?_ | refine Sub.tup ?_ | refine Sub.fn ?_ | exact SubL.nil | refine SubL.cons ?_ ?_ | refine Sub.sl _ ?_ | exact SubE.nil | refine SubE.cons ?_ ?_))
    | (refine TX.o (rl := fun r => List.map e_api_Value (r)) (res := T_tidegateref05_keys) hF ?_; exact TX.mk _ 44 (LeX.refl _ _ _) _ rfl rfl (by repeat' first | exact Sub.nil _ | exact Sub.refl _ | refine Sub.agg ?_ | refine Sub.tup ?_ | refine Sub.fn ?_ | exact SubL.nil | refine SubL.cons ?_ ?_ | refine Sub.sl _ ?_ | exact SubE.nil | refine SubE.cons ?_ ?_))
    | (refine TX.o (rl := fun r => List.map e_api_Value (r)) (res := T_tidegateref05_keys) hF ?_; exact TX.mk _ 7026 (LeX.refl _ _ _) _ rfl rfl (by repeat' first | exact Sub.nil _ | exact Sub.refl _ | refine Sub.agg ?_ | refine Sub.tup ?_ | refine Sub.fn ?_ | exact SubL.nil | refine SubL.cons ?_ ?_ | refine Sub.sl _ ?_ | exact SubE.nil | refine SubE.cons ?_ ?_))
    | (refine TX.o (rl := fun r => List.map e_api_Value (r)) (res := T_tidegateref05_keys) hF ?_; exact TX.mk _ 26 (LeX.refl _ _ _) _ rfl rfl (by repeat' first | exact Sub.nil _ | exact Sub.refl _ | refine Sub.agg ?_ | refine Sub.tup ?_ | refine Sub.fn ?_ | exact SubL.nil | refine SubL.cons ?_ ?_ | refine Sub.sl _ ?_ | exact SubE.nil | refine SubE.cons ?_ ?_))
    | (refine TX.o (rl := fun r => List.map e_api_Value (r)) (res := T_tidegateref05_keys) hF ?_; exact TX.mk _ 9000 (LeX.adopt 4 9000 77 3 rfl rfl) _ rfl rfl (by repeat' first | exact Sub.nil _ | exact Sub.refl _ | refine Sub.agg ?_ | refine Sub.tup ?_ | refine Sub.fn ?_ | exact SubL.nil | refine SubL.cons ?_ ?_ | refine Sub.sl _ ?_ | exact SubE.nil | refine SubE.cons ?_ ?_))

def S_tidegateref05_Split_l3 (a1 : (List Int)) (a0 : (List T_api_Event)) (k1_0_0y : (List T_api_Value)) (v2_1 : Int × (List (List T_api_Event))) (v3_2 : Int × (List T_api_Event)) : AS := ⟨[(0, .sl 5 (List.map e_api_Event (a0))), (1, .sl 1 (List.map aI (a1))), (8, .sl 3 (List.map e_api_Value (k1_0_0y))), (13, .row 7089), (14, aI (v2_1.1)), (15, .row 7085), (16, aI (v3_2.1))], [(7089, .row 22 1 (List.map (fun q => AV.sl 5 (List.map e_api_Event q)) (v2_1.2))), (7085, .row 51 5 (List.map e_api_Event (v3_2.2)))]⟩
end Go.Proofs.Ytdbapaofibgfcaa
