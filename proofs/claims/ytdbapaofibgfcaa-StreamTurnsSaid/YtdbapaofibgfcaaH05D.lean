/- What some functions compute, over plain values. Printed by a program of mine (gen_fun.lean). -/
import Derived.Test.YtdbapaofibgfcaaH05C
set_option linter.unusedVariables false
set_option linter.unusedSimpArgs false
set_option maxRecDepth 100000
set_option maxHeartbeats 8000000
namespace Go.Proofs.Ytdbapaofibgfcaa
open Go.RowKit
theorem tidegateref05_Split_l3_o {n N : Nat} {a1 : (List Int)} {a0 : (List T_api_Event)} {k1_0_0y : (List T_api_Value)} {v2_1 : Int × (List (List T_api_Event))} {k3_2_0 : (List T_api_Event) → Option ((List T_api_Value) × (List (List T_api_Event)) × Int)} {R : Exit → AS → Prop} {K : List KItem} {c : Code} {σ : AS} {v0 : Int × (List T_api_Event)} {r : (List T_api_Value) × (List (List T_api_Event)) × Int} (hF : F_tidegateref05_Split_l3 n a1 a0 k1_0_0y v2_1 k3_2_0 N v0 = some r) (hl : LeX E0 92 σ (S_tidegateref05_Split_l3 a1 a0 k1_0_0y v2_1 v0)) (round : ∀ m v, F_tidegateref05_Split_l3 n a1 a0 k1_0_0y v2_1 k3_2_0 (m + 1) v = some r → AW E0 92 (thenA (fun σ' => ∃ v', F_tidegateref05_Split_l3 n a1 a0 k1_0_0y v2_1 k3_2_0 m v' = some r ∧ LeX E0 92 σ' (S_tidegateref05_Split_l3 a1 a0 k1_0_0y v2_1 v')) (AW E0 92 R K)) [.code c] .normal (S_tidegateref05_Split_l3 a1 a0 k1_0_0y v2_1 v)) : LoopX E0 92 (fun next σ' => AW E0 92 (thenA next (AW E0 92 R K)) [.code c] .normal σ') σ :=
  LoopA.o (S := S_tidegateref05_Split_l3 a1 a0 k1_0_0y v2_1) hF (fun _ => rfl) hl round
def S_tidegateref05_Split_l2 (a1 : (List Int)) (a0 : (List T_api_Event)) (k1_0_0y : (List T_api_Value)) (v2_1 : Int × (List (List T_api_Event))) : AS := ⟨[(0, .sl 5 (List.map e_api_Event (a0))), (1, .sl 1 (List.map aI (a1))), (8, .sl 3 (List.map e_api_Value (k1_0_0y))), (13, .row 7089), (14, aI (v2_1.1))], [(7089, .row 22 1 (List.map (fun q => AV.sl 5 (List.map e_api_Event q)) (v2_1.2)))]⟩
theorem tidegateref05_Split_l2_o {n N : Nat} {a1 : (List Int)} {a0 : (List T_api_Event)} {k1_0_0y : (List T_api_Value)} {k2_1_0 : (List (List T_api_Event)) → Option ((List T_api_Value) × (List (List T_api_Event)) × Int)} {R : Exit → AS → Prop} {K : List KItem} {c : Code} {σ : AS} {v0 : Int × (List (List T_api_Event))} {r : (List T_api_Value) × (List (List T_api_Event)) × Int} (hF : F_tidegateref05_Split_l2 n a1 a0 k1_0_0y k2_1_0 N v0 = some r) (hl : LeX E0 92 σ (S_tidegateref05_Split_l2 a1 a0 k1_0_0y v0)) (round : ∀ m v, F_tidegateref05_Split_l2 n a1 a0 k1_0_0y k2_1_0 (m + 1) v = some r → AW E0 92 (thenA (fun σ' => ∃ v', F_tidegateref05_Split_l2 n a1 a0 k1_0_0y k2_1_0 m v' = some r ∧ LeX E0 92 σ' (S_tidegateref05_Split_l2 a1 a0 k1_0_0y v')) (AW E0 92 R K)) [.code c] .normal (S_tidegateref05_Split_l2 a1 a0 k1_0_0y v)) : LoopX E0 92 (fun next σ' => AW E0 92 (thenA next (AW E0 92 R K)) [.code c] .normal σ') σ :=
  LoopA.o (S := S_tidegateref05_Split_l2 a1 a0 k1_0_0y) hF (fun _ => rfl) hl round
def S_tidegateref05_Split_l1 (a1 : (List Int)) (a0 : (List T_api_Event)) (v1_0 : (List T_api_Value) × Int) : AS := ⟨[(0, .sl 5 (List.map e_api_Event (a0))), (1, .sl 1 (List.map aI (a1))), (8, .sl 3 (List.map e_api_Value (v1_0.1))), (9, aI (v1_0.2))], []⟩
theorem tidegateref05_Split_l1_o {n N : Nat} {a1 : (List Int)} {a0 : (List T_api_Event)} {k1_0_0 : (List T_api_Value) → Option ((List T_api_Value) × (List (List T_api_Event)) × Int)} {R : Exit → AS → Prop} {K : List KItem} {c : Code} {σ : AS} {v0 : (List T_api_Value) × Int} {r : (List T_api_Value) × (List (List T_api_Event)) × Int} (hF : F_tidegateref05_Split_l1 n a1 a0 k1_0_0 N v0 = some r) (hl : LeX E0 92 σ (S_tidegateref05_Split_l1 a1 a0 v0)) (round : ∀ m v, F_tidegateref05_Split_l1 n a1 a0 k1_0_0 (m + 1) v = some r → AW E0 92 (thenA (fun σ' => ∃ v', F_tidegateref05_Split_l1 n a1 a0 k1_0_0 m v' = some r ∧ LeX E0 92 σ' (S_tidegateref05_Split_l1 a1 a0 v')) (AW E0 92 R K)) [.code c] .normal (S_tidegateref05_Split_l1 a1 a0 v)) : LoopX E0 92 (fun next σ' => AW E0 92 (thenA next (AW E0 92 R K)) [.code c] .normal σ') σ :=
  LoopA.o (S := S_tidegateref05_Split_l1 a1 a0) hF (fun _ => rfl) hl round
def R_tidegateref05_Split (r : (List T_api_Value) × (List (List T_api_Event)) × Int) : AV := .tup [.sl 3 (List.map e_api_Value (r.1)), .sl 1 (List.map (fun q => AV.sl 5 (List.map e_api_Event q)) (r.2.1)), aI (r.2.2)]
theorem con_tidegateref05_Split {n : Nat} {a0 : (List T_api_Event)} {a1 : (List Int)} {r : (List T_api_Value) × (List (List T_api_Event)) × Int} (hF : F_tidegateref05_Split n a0 a1 = some r) : Con E0 false 40 [.sl 5 (List.map e_api_Event (a0)), .sl 1 (List.map aI (a1))] (R_tidegateref05_Split r) := by
  unfold F_tidegateref05_Split at hF
  refine Con.walk _ Try.func40 rfl (enters_of Try.func40 rfl rfl) rfl (Or.inl rfl) ?_
  repeat' first
    | (refine AW.regO hF (fun hF => ?_))
    | (refine AW.frzO hF 7085 rfl (fun hF => ?_))
    | (refine AW.stepU [24] ?_; conv => whnf)
    | (refine CondX.o hF (fun hF => ?_) (fun hF => ?_))
    | (refine CondX.t ?_)
    | (refine CondX.f ?_)
    | (refine CallX.o hF R_tidegateref05_Check (fun a h => con_tidegateref05_Check h) (fun a hF => ?_))
    | (refine AppX.o (fun q => AV.sl 5 (List.map e_api_Event q)) hF (by first | exact SubR.refl _ | (repeat' first | exact SubR.nil | refine SubR.cons ?_ ?_ | exact SubL.nil | refine SubL.cons ?_ ?_ | exact Sub.refl _ | exact Sub.nil _)) (fun l hF => ?_))
    | (exact ⟨_, hF, LeX.of [(7089, 89)] rfl ⟨⟨rfl, rfl⟩, ⟨rfl, rfl⟩, ⟨rfl, rfl⟩, ⟨rfl, rfl⟩, ⟨rfl, rfl⟩, trivial⟩ ⟨⟨rfl, rfl⟩, trivial⟩⟩)
    | (refine IdxX.o e_api_Event hF (fun x hF => ?_))
    | (refine CallX.o hF R_tidegateref05_Key (fun a h => con_tidegateref05_Key h) (fun a hF => ?_))
    | (refine IdxX.o e_api_Value hF (fun x hF => ?_))
    | (refine AppX.o e_api_Event hF (by first | exact SubR.refl _ | (repeat' first | exact SubR.nil | refine SubR.cons ?_ ?_ | exact SubL.nil | refine SubL.cons ?_ ?_ | exact Sub.refl _ | exact Sub.nil _)) (fun l hF => ?_))
    | (exact ⟨_, hF, LeX.of [(7085, 85)] rfl ⟨⟨rfl, rfl⟩, ⟨rfl, rfl⟩, ⟨rfl, rfl⟩, ⟨rfl, rfl⟩, ⟨rfl, rfl⟩, ⟨rfl, rfl⟩, ⟨rfl, rfl⟩, trivial⟩ ⟨⟨rfl, rfl⟩, ⟨rfl, rfl⟩, trivial⟩⟩)
    | (exact ⟨_, hF, LeX.of [] rfl ⟨⟨rfl, rfl⟩, ⟨rfl, rfl⟩, ⟨rfl, rfl⟩, ⟨rfl, rfl⟩, ⟨rfl, rfl⟩, ⟨rfl, rfl⟩, ⟨rfl, rfl⟩, trivial⟩ ⟨⟨rfl, rfl⟩, ⟨rfl, rfl⟩, trivial⟩⟩)
    | (refine tidegateref05_Split_l3_o hF (LeX.trans (LeX.adopt 15 7085 51 5 rfl rfl) (LeX.of [] rfl ⟨⟨rfl, rfl⟩, ⟨rfl, rfl⟩, ⟨rfl, rfl⟩, ⟨rfl, rfl⟩, ⟨rfl, rfl⟩, ⟨rfl, rfl⟩, ⟨rfl, rfl⟩, trivial⟩ ⟨⟨rfl, rfl⟩, ⟨rfl, rfl⟩, trivial⟩)) (fun m v hF => ?_); unfold F_tidegateref05_Split_l3 at hF)
    | (refine tidegateref05_Split_l2_o hF (LeX.trans (LeX.adopt 13 7089 22 1 rfl rfl) (LeX.of [] rfl ⟨⟨rfl, rfl⟩, ⟨rfl, rfl⟩, ⟨rfl, rfl⟩, ⟨rfl, rfl⟩, ⟨rfl, rfl⟩, trivial⟩ ⟨⟨rfl, rfl⟩, trivial⟩)) (fun m v hF => ?_); unfold F_tidegateref05_Split_l2 at hF)
    | (refine CallX.o hF R_tidegateref05_keys (fun a h => con_tidegateref05_keys h) (fun a hF => ?_))
    | (exact ⟨_, hF, LeX.of [] rfl ⟨⟨rfl, rfl⟩, ⟨rfl, rfl⟩, ⟨rfl, rfl⟩, ⟨rfl, rfl⟩, trivial⟩ trivial⟩)
    | (refine tidegateref05_Split_l1_o hF (LeX.trans (LeX.put 8 _ (by repeat' first | exact Sub.nil _ | exact Sub.refl _ | refine Sub.agg ?_ | refine Sub.tup ?_ | refine Sub.fn ?_ | exact SubL.nil | refine SubL.cons ?_ ?_ | refine Sub.sl _ ?_ | exact SubE.nil | refine SubE.cons ?_ ?_)) (LeX.of [] rfl ⟨⟨rfl, rfl⟩, ⟨rfl, rfl⟩, ⟨rfl, rfl⟩, ⟨rfl, rfl⟩, trivial⟩ trivial)) (fun m v hF => ?_); unfold F_tidegateref05_Split_l1 at hF)
    | (refine And.intro ⟨by kernel_rfl, by kernel_rfl⟩ ?_)
    | (refine EqX.mk (by first | rfl | kernel_rfl) ?_)
    | (exact RetX.o hF (by repeat' first | exact Sub.nil _ | exact Sub.refl _ | refine Sub.agg ?_ | refine Sub.tup ?_ | refine Sub.fn ?_ | exact SubL.nil | refine SubL.cons ?_ ?_ | refine Sub.sl _ ?_ | exact SubE.nil | refine SubE.cons ?_ ?_))

def T_tidegateref05_Split (r : (List T_api_Value) × (List (List T_api_Event)) × Int) : AV := .tup [.sl 3 (List.map e_api_Value (r.1)), .row 0, aI (r.2.2)]
theorem conT_tidegateref05_Split {n : Nat} {a0 : (List T_api_Event)} {a1 : (List Int)} {r : (List T_api_Value) × (List (List T_api_Event)) × Int} (hF : F_tidegateref05_Split n a0 a1 = some r) : ConT E0 40 [.sl 5 (List.map e_api_Event (a0)), .sl 1 (List.map aI (a1))] 22 1 (List.map (fun q => AV.sl 5 (List.map e_api_Event q)) (r.2.1)) (T_tidegateref05_Split r) := by
  unfold F_tidegateref05_Split at hF
  refine ConT.walk _ Try.func40 rfl (enters_of Try.func40 rfl rfl) rfl rfl ?_
  repeat' first
    | (refine AW.regO hF (fun hF => ?_))
    | (refine AW.frzO hF 7085 rfl (fun hF => ?_))
    | (refine AW.stepU [24] ?_; conv => whnf)
    | (refine CondX.o hF (fun hF => ?_) (fun hF => ?_))
    | (refine CondX.t ?_)
    | (refine CondX.f ?_)
    | (refine CallX.o hF R_tidegateref05_Check (fun a h => con_tidegateref05_Check h) (fun a hF => ?_))
    | (refine AppX.o (fun q => AV.sl 5 (List.map e_api_Event q)) hF (by first | exact SubR.refl _ | (repeat' first | exact SubR.nil | refine SubR.cons ?_ ?_ | exact SubL.nil | refine SubL.cons ?_ ?_ | exact Sub.refl _ | exact Sub.nil _)) (fun l hF => ?_))
    | (exact ⟨_, hF, LeX.of [(7089, 89)] rfl ⟨⟨rfl, rfl⟩, ⟨rfl, rfl⟩, ⟨rfl, rfl⟩, ⟨rfl, rfl⟩, ⟨rfl, rfl⟩, trivial⟩ ⟨⟨rfl, rfl⟩, trivial⟩⟩)
    | (refine IdxX.o e_api_Event hF (fun x hF => ?_))
    | (refine CallX.o hF R_tidegateref05_Key (fun a h => con_tidegateref05_Key h) (fun a hF => ?_))
    | (refine IdxX.o e_api_Value hF (fun x hF => ?_))
    | (refine AppX.o e_api_Event hF (by first | exact SubR.refl _ | (repeat' first | exact SubR.nil | refine SubR.cons ?_ ?_ | exact SubL.nil | refine SubL.cons ?_ ?_ | exact Sub.refl _ | exact Sub.nil _)) (fun l hF => ?_))
    | (exact ⟨_, hF, LeX.of [(7085, 85)] rfl ⟨⟨rfl, rfl⟩, ⟨rfl, rfl⟩, ⟨rfl, rfl⟩, ⟨rfl, rfl⟩, ⟨rfl, rfl⟩, ⟨rfl, rfl⟩, ⟨rfl, rfl⟩, trivial⟩ ⟨⟨rfl, rfl⟩, ⟨rfl, rfl⟩, trivial⟩⟩)
    | (exact ⟨_, hF, LeX.of [] rfl ⟨⟨rfl, rfl⟩, ⟨rfl, rfl⟩, ⟨rfl, rfl⟩, ⟨rfl, rfl⟩, ⟨rfl, rfl⟩, ⟨rfl, rfl⟩, ⟨rfl, rfl⟩, trivial⟩ ⟨⟨rfl, rfl⟩, ⟨rfl, rfl⟩, trivial⟩⟩)
    | (refine tidegateref05_Split_l3_o hF (LeX.trans (LeX.adopt 15 7085 51 5 rfl rfl) (LeX.of [] rfl ⟨⟨rfl, rfl⟩, ⟨rfl, rfl⟩, ⟨rfl, rfl⟩, ⟨rfl, rfl⟩, ⟨rfl, rfl⟩, ⟨rfl, rfl⟩, ⟨rfl, rfl⟩, trivial⟩ ⟨⟨rfl, rfl⟩, ⟨rfl, rfl⟩, trivial⟩)) (fun m v hF => ?_); unfold F_tidegateref05_Split_l3 at hF)
    | (refine tidegateref05_Split_l2_o hF (LeX.trans (LeX.adopt 13 7089 22 1 rfl rfl) (LeX.of [] rfl ⟨⟨rfl, rfl⟩, ⟨rfl, rfl⟩, ⟨rfl, rfl⟩, ⟨rfl, rfl⟩, ⟨rfl, rfl⟩, trivial⟩ ⟨⟨rfl, rfl⟩, trivial⟩)) (fun m v hF => ?_); unfold F_tidegateref05_Split_l2 at hF)
    | (refine CallX.o hF R_tidegateref05_keys (fun a h => con_tidegateref05_keys h) (fun a hF => ?_))
    | (exact ⟨_, hF, LeX.of [] rfl ⟨⟨rfl, rfl⟩, ⟨rfl, rfl⟩, ⟨rfl, rfl⟩, ⟨rfl, rfl⟩, trivial⟩ trivial⟩)
    | (refine tidegateref05_Split_l1_o hF (LeX.trans (LeX.put 8 _ (by repeat' first | exact Sub.nil _ | exact Sub.refl _ | refine Sub.agg ?_ | refine Sub.tup ?_ | refine Sub.fn ?_ | exact SubL.nil | refine SubL.cons ?_ ?_ | refine Sub.sl _ ?_ | exact SubE.nil | refine SubE.cons ?_ ?_)) (LeX.of [] rfl ⟨⟨rfl, rfl⟩, ⟨rfl, rfl⟩, ⟨rfl, rfl⟩, ⟨rfl, rfl⟩, trivial⟩ trivial)) (fun m v hF => ?_); unfold F_tidegateref05_Split_l1 at hF)
    | (refine And.intro ⟨by kernel_rfl, by kernel_rfl⟩ ?_)
    | (refine EqX.mk (by first | rfl | kernel_rfl) ?_)
    | (refine TX.o (rl := fun r => List.map (fun q => AV.sl 5 (List.map e_api_Event q)) (r.2.1)) (res := T_tidegateref05_Split) hF ?_; exact TX.mk _ 7089 (LeX.refl _ _ _) _ rfl rfl (by repeat' first | exact Sub.nil _ | exact Sub.refl _ | refine Sub.agg ?_ | refine Sub.tup ?_ | refine Sub.fn ?_ | exact SubL.nil | refine SubL.cons ?_ ?_ | refine Sub.sl _ ?_ | exact SubE.nil | refine SubE.cons ?_ ?_))
    | (refine TX.o (rl := fun r => List.map (fun q => AV.sl 5 (List.map e_api_Event q)) (r.2.1)) (res := T_tidegateref05_Split) hF ?_; exact TX.mk _ 89 (LeX.refl _ _ _) _ rfl rfl (by repeat' first | exact Sub.nil _ | exact Sub.refl _ | refine Sub.agg ?_ | refine Sub.tup ?_ | refine Sub.fn ?_ | exact SubL.nil | refine SubL.cons ?_ ?_ | refine Sub.sl _ ?_ | exact SubE.nil | refine SubE.cons ?_ ?_))
    | (refine TX.o (rl := fun r => List.map (fun q => AV.sl 5 (List.map e_api_Event q)) (r.2.1)) (res := T_tidegateref05_Split) hF ?_; exact TX.mk _ 7085 (LeX.refl _ _ _) _ rfl rfl (by repeat' first | exact Sub.nil _ | exact Sub.refl _ | refine Sub.agg ?_ | refine Sub.tup ?_ | refine Sub.fn ?_ | exact SubL.nil | refine SubL.cons ?_ ?_ | refine Sub.sl _ ?_ | exact SubE.nil | refine SubE.cons ?_ ?_))
    | (refine TX.o (rl := fun r => List.map (fun q => AV.sl 5 (List.map e_api_Event q)) (r.2.1)) (res := T_tidegateref05_Split) hF ?_; exact TX.mk _ 85 (LeX.refl _ _ _) _ rfl rfl (by repeat' first | exact Sub.nil _ | exact Sub.refl _ | refine Sub.agg ?_ | refine Sub.tup ?_ | refine Sub.fn ?_ | exact SubL.nil | refine SubL.cons ?_ ?_ | refine Sub.sl _ ?_ | exact SubE.nil | refine SubE.cons ?_ ?_))
    | (refine TX.o (rl := fun r => List.map (fun q => AV.sl 5 (List.map e_api_Event q)) (r.2.1)) (res := T_tidegateref05_Split) hF ?_; exact TX.mk _ 9000 (LeX.adopt 5 9000 22 1 rfl rfl) _ rfl rfl (by repeat' first | exact Sub.nil _ | exact Sub.refl _ | refine Sub.agg ?_ | refine Sub.tup ?_ | refine Sub.fn ?_ | exact SubL.nil | refine SubL.cons ?_ ?_ | refine Sub.sl _ ?_ | exact SubE.nil | refine SubE.cons ?_ ?_))

def S_tidegateref05_SameAll_l1 (a1 : (List (List T_api_Event))) (a0 : (List (List T_api_Event))) (v1_0 : Int) : AS := ⟨[(0, .sl 1 (List.map (fun q => AV.sl 5 (List.map e_api_Event q)) (a0))), (1, .sl 1 (List.map (fun q => AV.sl 5 (List.map e_api_Event q)) (a1))), (5, aI (v1_0))], []⟩
theorem tidegateref05_SameAll_l1_o {n N : Nat} {a1 : (List (List T_api_Event))} {a0 : (List (List T_api_Event))} {k1_0_0 : Option (Bool)} {R : Exit → AS → Prop} {K : List KItem} {c : Code} {σ : AS} {v0 : Int} {r : Bool} (hF : F_tidegateref05_SameAll_l1 n a1 a0 k1_0_0 N v0 = some r) (hl : LeX E0 27 σ (S_tidegateref05_SameAll_l1 a1 a0 v0)) (round : ∀ m v, F_tidegateref05_SameAll_l1 n a1 a0 k1_0_0 (m + 1) v = some r → AW E0 27 (thenA (fun σ' => ∃ v', F_tidegateref05_SameAll_l1 n a1 a0 k1_0_0 m v' = some r ∧ LeX E0 27 σ' (S_tidegateref05_SameAll_l1 a1 a0 v')) (AW E0 27 R K)) [.code c] .normal (S_tidegateref05_SameAll_l1 a1 a0 v)) : LoopX E0 27 (fun next σ' => AW E0 27 (thenA next (AW E0 27 R K)) [.code c] .normal σ') σ :=
  LoopA.o (S := S_tidegateref05_SameAll_l1 a1 a0) hF (fun _ => rfl) hl round
def R_tidegateref05_SameAll (r : Bool) : AV := .bool (r)
theorem con_tidegateref05_SameAll {n : Nat} {a0 : (List (List T_api_Event))} {a1 : (List (List T_api_Event))} {r : Bool} (hF : F_tidegateref05_SameAll n a0 a1 = some r) : Con E0 true 42 [.sl 1 (List.map (fun q => AV.sl 5 (List.map e_api_Event q)) (a0)), .sl 1 (List.map (fun q => AV.sl 5 (List.map e_api_Event q)) (a1))] (R_tidegateref05_SameAll r) := by
  unfold F_tidegateref05_SameAll at hF
  refine Con.walk _ Try.func42 rfl (enters_of Try.func42 rfl rfl) rfl (Or.inr rfl) ?_
  repeat' first
    | (refine AW.step ?_; conv => whnf)
    | (refine CondX.o hF (fun hF => ?_) (fun hF => ?_))
    | (refine CondX.t ?_)
    | (refine CondX.f ?_)
    | (refine IdxX.o (fun q => AV.sl 5 (List.map e_api_Event q)) hF (fun x hF => ?_))
    | (refine CallX.o hF R_tidegateref05_Same (fun a h => con_tidegateref05_Same h) (fun a hF => ?_))
    | (exact ⟨_, hF, LeX.of [] rfl ⟨⟨rfl, rfl⟩, ⟨rfl, rfl⟩, ⟨rfl, rfl⟩, trivial⟩ trivial⟩)
    | (refine tidegateref05_SameAll_l1_o hF (LeX.of [] rfl ⟨⟨rfl, rfl⟩, ⟨rfl, rfl⟩, ⟨rfl, rfl⟩, trivial⟩ trivial) (fun m v hF => ?_); unfold F_tidegateref05_SameAll_l1 at hF)
    | (refine And.intro ⟨by kernel_rfl, by kernel_rfl⟩ ?_)
    | (refine EqX.mk (by first | rfl | kernel_rfl) ?_)
    | (exact RetX.o hF (by repeat' first | exact Sub.nil _ | exact Sub.refl _ | refine Sub.agg ?_ | refine Sub.tup ?_ | refine Sub.fn ?_ | exact SubL.nil | refine SubL.cons ?_ ?_ | refine Sub.sl _ ?_ | exact SubE.nil | refine SubE.cons ?_ ?_))

end Go.Proofs.Ytdbapaofibgfcaa
