/- What some functions compute, over plain values. Printed by a program of mine (gen_fun.lean). Layer 5: the contract of StreamSplits. Layer 5: the parts of a split stream; DeleteFunc, plainly. Layer 5: StreamDivides. -/
import Derived.Test.YtkbopbgcjfcjjaaK10
set_option linter.unusedVariables false
set_option linter.unusedSimpArgs false
set_option maxRecDepth 100000
set_option maxHeartbeats 8000000
namespace Go.Proofs.Ytkbopbgcjfcjjaa
open Go.RowKit
def S_stream_Split_l2 (k1_0_0y0 : (List (T_api_Value × (List T_api_Event)))) (x44 : (List T_api_Value)) (v2_1 : Int × (List (List T_api_Event))) : AS := ⟨[(8, .row 23), (9, .row 7050), (15, .row 7074), (63, .row 7050), (64, aI ((((List.map e_api_Value (x44)).length : Nat) : Int))), (65, aI (v2_1.1))], [(23, .mp (List.map (encM e_api_Value (fun q => AV.sl 5 (List.map e_api_Event q))) (k1_0_0y0))), (7050, .row 39 3 (List.map e_api_Value (x44))), (7074, .row 22 1 (List.map (fun q => AV.sl 5 (List.map e_api_Event q)) (v2_1.2)))]⟩
theorem stream_Split_l2_o {n N : Nat} {k1_0_0y0 : (List (T_api_Value × (List T_api_Event)))} {x44 : (List T_api_Value)} {k2_1_0 : (List T_api_Value) → (List (List T_api_Event)) → Option ((List T_api_Value) × (List (List T_api_Event)) × Int)} {R : Exit → AS → Prop} {K : List KItem} {c : Code} {σ : AS} {v0 : Int × (List (List T_api_Event))} {r : (List T_api_Value) × (List (List T_api_Event)) × Int} (hF : F_stream_Split_l2 n k1_0_0y0 x44 k2_1_0 N v0 = some r) (hl : LeX E0 78 σ (S_stream_Split_l2 k1_0_0y0 x44 v0)) (round : ∀ m v, F_stream_Split_l2 n k1_0_0y0 x44 k2_1_0 (m + 1) v = some r → AW E0 78 (thenA (fun σ' => ∃ v', F_stream_Split_l2 n k1_0_0y0 x44 k2_1_0 m v' = some r ∧ LeX E0 78 σ' (S_stream_Split_l2 k1_0_0y0 x44 v')) (AW E0 78 R K)) [.code c] .normal (S_stream_Split_l2 k1_0_0y0 x44 v)) : LoopX E0 78 (fun next σ' => AW E0 78 (thenA next (AW E0 78 R K)) [.code c] .normal σ') σ :=
  LoopA.o (S := S_stream_Split_l2 k1_0_0y0 x44) hF (fun _ => rfl) hl round
def S_stream_Split_l1 (a1 : (List Int)) (a0 : (List T_api_Event)) (v1_0 : Int × (List (T_api_Value × (List T_api_Event))) × (List T_api_Value)) : AS := ⟨[(1, .sl 1 (List.map aI (a1))), (8, .der .con 23), (9, .row 7050), (24, .sl 5 (List.map e_api_Event (a0))), (25, aI ((((List.map e_api_Event (a0)).length : Nat) : Int))), (26, aI (v1_0.1))], [(23, .mpn (List.map (encN e_api_Value e_api_Event 41 5) (v1_0.2.1))), (7050, .row 39 3 (List.map e_api_Value (v1_0.2.2)))]⟩
theorem stream_Split_l1_o {n N : Nat} {a1 : (List Int)} {a0 : (List T_api_Event)} {k1_0_0 : (List (T_api_Value × (List T_api_Event))) → (List T_api_Value) → Option ((List T_api_Value) × (List (List T_api_Event)) × Int)} {R : Exit → AS → Prop} {K : List KItem} {c : Code} {σ : AS} {v0 : Int × (List (T_api_Value × (List T_api_Event))) × (List T_api_Value)} {r : (List T_api_Value) × (List (List T_api_Event)) × Int} (hF : F_stream_Split_l1 n a1 a0 k1_0_0 N v0 = some r) (hl : LeX E0 78 σ (S_stream_Split_l1 a1 a0 v0)) (round : ∀ m v, F_stream_Split_l1 n a1 a0 k1_0_0 (m + 1) v = some r → AW E0 78 (thenA (fun σ' => ∃ v', F_stream_Split_l1 n a1 a0 k1_0_0 m v' = some r ∧ LeX E0 78 σ' (S_stream_Split_l1 a1 a0 v')) (AW E0 78 R K)) [.code c] .normal (S_stream_Split_l1 a1 a0 v)) : LoopX E0 78 (fun next σ' => AW E0 78 (thenA next (AW E0 78 R K)) [.code c] .normal σ') σ :=
  LoopA.o (S := S_stream_Split_l1 a1 a0) hF (fun _ => rfl) hl round
def R_stream_Split (r : (List T_api_Value) × (List (List T_api_Event)) × Int) : AV := .tup [.sl 3 (List.map e_api_Value (r.1)), .sl 1 (List.map (fun q => AV.sl 5 (List.map e_api_Event q)) (r.2.1)), aI (r.2.2)]
theorem con_stream_Split {n : Nat} {a0 : (List T_api_Event)} {a1 : (List Int)} {r : (List T_api_Value) × (List (List T_api_Event)) × Int} (hF : F_stream_Split n a0 a1 = some r) : Con E0 false 7 [.sl 5 (List.map e_api_Event (a0)), .sl 1 (List.map aI (a1))] (R_stream_Split r) := by
  unfold F_stream_Split at hF
  refine Con.walk _ Try.func7 rfl (enters_of Try.func7 rfl rfl) rfl (Or.inl rfl) ?_
  repeat' first
    | (refine AW.regO hF (fun hF => ?_))
    | (refine AW.frzO hF 23 rfl (fun hF => ?_))
    | (refine AW.stepU [22] ?_; conv => whnf)
    | (refine CondX.o hF (fun hF => ?_) (fun hF => ?_))
    | (refine CondX.t ?_)
    | (refine CondX.f ?_)
    | (refine CallX.o hF R_stream_Check (fun a h => con_stream_Check h) (fun a hF => ?_))
    | (refine OpX.mmn rfl rfl rfl rfl ?_)
    | (refine CallC.oI hF 7050 (fun r => r) e_api_Value (fun _ => AV.tup []) rfl (fun a h => sortVa_con h) rfl rfl rfl (fun a hF => ?_))
    | (refine NatX.o hF (fun m hF => ?_))
    | (refine EltX.o e_api_Value hF (fun x hF => ?_))
    | (refine LkX.o e_api_Value (fun q => AV.sl 5 (List.map e_api_Event q)) hF (by first | rfl | kernel_rfl) eqK_39 (by repeat' first | exact Sub.nil _ | exact Sub.refl _ | refine Sub.agg ?_ | refine Sub.tup ?_ | refine Sub.fn ?_ | exact SubL.nil | refine SubL.cons ?_ ?_ | refine Sub.sl _ ?_ | exact SubE.nil | refine SubE.cons ?_ ?_) (fun v b hF => ?_))
    | (refine AppX.o (fun q => AV.sl 5 (List.map e_api_Event q)) hF (by first | exact SubR.refl _ | (repeat' first | exact SubR.nil | refine SubR.cons ?_ ?_ | exact SubL.nil | refine SubL.cons ?_ ?_ | exact Sub.refl _ | exact Sub.nil _)) (fun l hF => ?_))
    | (exact ⟨_, hF, LeX.of [(7074, 74)] rfl ⟨⟨rfl, rfl⟩, ⟨rfl, rfl⟩, ⟨rfl, rfl⟩, ⟨rfl, rfl⟩, ⟨rfl, rfl⟩, ⟨rfl, rfl⟩, trivial⟩ ⟨⟨rfl, rfl⟩, ⟨rfl, rfl⟩, ⟨rfl, rfl⟩, trivial⟩⟩)
    | (refine stream_Split_l2_o hF (LeX.trans (LeX.frzN 23 e_api_Value e_api_Event 41 5 rfl) (LeX.trans (LeX.adopt 15 7074 22 1 rfl rfl) (LeX.of [] rfl ⟨⟨rfl, rfl⟩, ⟨rfl, rfl⟩, ⟨rfl, rfl⟩, ⟨rfl, rfl⟩, ⟨rfl, rfl⟩, ⟨rfl, rfl⟩, trivial⟩ ⟨⟨rfl, rfl⟩, ⟨rfl, rfl⟩, ⟨rfl, rfl⟩, trivial⟩))) (fun m v hF => ?_); unfold F_stream_Split_l2 at hF)
    | (refine IdxX.o e_api_Event hF (fun x hF => ?_))
    | (refine CallX.o hF R_stream_keyed (fun a h => con_stream_keyed h) (fun a hF => ?_))
    | (exact ⟨_, hF, LeX.of [] rfl ⟨⟨rfl, rfl⟩, ⟨rfl, rfl⟩, ⟨rfl, rfl⟩, ⟨rfl, rfl⟩, ⟨rfl, rfl⟩, ⟨rfl, rfl⟩, trivial⟩ ⟨⟨rfl, rfl⟩, ⟨rfl, rfl⟩, trivial⟩⟩)
    | (refine OpX.lkn e_api_Value e_api_Event hF eqK_39 rfl rfl rfl rfl rfl rfl rfl rfl rfl rfl rfl (by first | rfl | kernel_rfl) (fun hF => ?_))
    | (refine OpX.lnl rfl rfl rfl rfl rfl rfl ?_)
    | (refine AppX.o e_api_Value hF (by first | exact SubR.refl _ | (repeat' first | exact SubR.nil | refine SubR.cons ?_ ?_ | exact SubL.nil | refine SubL.cons ?_ ?_ | exact Sub.refl _ | exact Sub.nil _)) (fun l hF => ?_))
    | (refine CallX.o hF R_stream_copied (fun a h => con_stream_copied h) (fun a hF => ?_))
    | (refine OpX.men e_api_Value e_api_Event hF eqK_39 rfl rfl rfl rfl rfl rfl rfl rfl rfl rfl rfl rfl rfl rfl (by first | rfl | kernel_rfl) (fun v hF => ?_))
    | (refine AppX.o e_api_Event hF (by first | exact SubR.refl _ | (repeat' first | exact SubR.nil | refine SubR.cons ?_ ?_ | exact SubL.nil | refine SubL.cons ?_ ?_ | exact Sub.refl _ | exact Sub.nil _)) (fun l hF => ?_))
    | (refine OpX.mes e_api_Value e_api_Event hF eqK_39 rfl rfl rfl rfl rfl rfl rfl rfl rfl rfl rfl (fun l hF => ?_))
    | (exact ⟨_, hF, LeX.of [(7050, 50)] rfl ⟨⟨rfl, rfl⟩, ⟨rfl, rfl⟩, ⟨rfl, rfl⟩, ⟨rfl, rfl⟩, ⟨rfl, rfl⟩, ⟨rfl, rfl⟩, trivial⟩ ⟨⟨rfl, rfl⟩, ⟨rfl, rfl⟩, trivial⟩⟩)
    | (refine stream_Split_l1_o hF (LeX.trans (LeX.adopt 9 7050 39 3 rfl rfl) (LeX.of [] rfl ⟨⟨rfl, rfl⟩, ⟨rfl, rfl⟩, ⟨rfl, rfl⟩, ⟨rfl, rfl⟩, ⟨rfl, rfl⟩, ⟨rfl, rfl⟩, trivial⟩ ⟨⟨rfl, rfl⟩, ⟨rfl, rfl⟩, trivial⟩)) (fun m v hF => ?_); unfold F_stream_Split_l1 at hF)
    | (refine And.intro ⟨by kernel_rfl, by kernel_rfl⟩ ?_)
    | (refine EqX.mk (by first | rfl | kernel_rfl) ?_)
    | (exact RetX.o hF (by repeat' first | exact Sub.nil _ | exact Sub.refl _ | refine Sub.agg ?_ | refine Sub.tup ?_ | refine Sub.fn ?_ | exact SubL.nil | refine SubL.cons ?_ ?_ | refine Sub.sl _ ?_ | exact SubE.nil | refine SubE.cons ?_ ?_))

def S_tidegateref01_Few_l1 (a0 : (List T_api_Value)) (v1_0 : Int) : AS := ⟨[(0, .sl 3 (List.map e_api_Value (a0))), (3, aI (v1_0))], []⟩
theorem tidegateref01_Few_l1_o {n N : Nat} {a0 : (List T_api_Value)} {k1_0_0 : Option (Bool)} {R : Exit → AS → Prop} {K : List KItem} {c : Code} {σ : AS} {v0 : Int} {r : Bool} (hF : F_tidegateref01_Few_l1 n a0 k1_0_0 N v0 = some r) (hl : LeX E0 24 σ (S_tidegateref01_Few_l1 a0 v0)) (round : ∀ m v, F_tidegateref01_Few_l1 n a0 k1_0_0 (m + 1) v = some r → AW E0 24 (thenA (fun σ' => ∃ v', F_tidegateref01_Few_l1 n a0 k1_0_0 m v' = some r ∧ LeX E0 24 σ' (S_tidegateref01_Few_l1 a0 v')) (AW E0 24 R K)) [.code c] .normal (S_tidegateref01_Few_l1 a0 v)) : LoopX E0 24 (fun next σ' => AW E0 24 (thenA next (AW E0 24 R K)) [.code c] .normal σ') σ :=
  LoopA.o (S := S_tidegateref01_Few_l1 a0) hF (fun _ => rfl) hl round
def R_tidegateref01_Few (r : Bool) : AV := .bool (r)
theorem con_tidegateref01_Few {n : Nat} {a0 : (List T_api_Value)} {r : Bool} (hF : F_tidegateref01_Few n a0 = some r) : Con E0 true 21 [.sl 3 (List.map e_api_Value (a0))] (R_tidegateref01_Few r) := by
  unfold F_tidegateref01_Few at hF
  refine Con.walk _ Try.func21 rfl (enters_of Try.func21 rfl rfl) rfl (Or.inr rfl) ?_
  repeat' first
    | (refine AW.step ?_; conv => whnf)
    | (refine CondX.o hF (fun hF => ?_) (fun hF => ?_))
    | (refine CondX.t ?_)
    | (refine CondX.f ?_)
    | (refine IdxX.o e_api_Value hF (fun x hF => ?_))
    | (exact ⟨_, hF, LeX.of [] rfl ⟨⟨rfl, rfl⟩, ⟨rfl, rfl⟩, trivial⟩ trivial⟩)
    | (refine tidegateref01_Few_l1_o hF (LeX.of [] rfl ⟨⟨rfl, rfl⟩, ⟨rfl, rfl⟩, trivial⟩ trivial) (fun m v hF => ?_); unfold F_tidegateref01_Few_l1 at hF)
    | (refine And.intro ⟨by kernel_rfl, by kernel_rfl⟩ ?_)
    | (refine EqX.mk (by first | rfl | kernel_rfl) ?_)
    | (exact RetX.o hF (by repeat' first | exact Sub.nil _ | exact Sub.refl _ | refine Sub.agg ?_ | refine Sub.tup ?_ | refine Sub.fn ?_ | exact SubL.nil | refine SubL.cons ?_ ?_ | refine Sub.sl _ ?_ | exact SubE.nil | refine SubE.cons ?_ ?_))

def S_tidegateref05_Few_l1 (a0 : (List T_api_Event)) (v1_0 : Int) : AS := ⟨[(0, .sl 5 (List.map e_api_Event (a0))), (3, aI (v1_0))], []⟩
theorem tidegateref05_Few_l1_o {n N : Nat} {a0 : (List T_api_Event)} {k1_0_0 : Option (Bool)} {R : Exit → AS → Prop} {K : List KItem} {c : Code} {σ : AS} {v0 : Int} {r : Bool} (hF : F_tidegateref05_Few_l1 n a0 k1_0_0 N v0 = some r) (hl : LeX E0 33 σ (S_tidegateref05_Few_l1 a0 v0)) (round : ∀ m v, F_tidegateref05_Few_l1 n a0 k1_0_0 (m + 1) v = some r → AW E0 33 (thenA (fun σ' => ∃ v', F_tidegateref05_Few_l1 n a0 k1_0_0 m v' = some r ∧ LeX E0 33 σ' (S_tidegateref05_Few_l1 a0 v')) (AW E0 33 R K)) [.code c] .normal (S_tidegateref05_Few_l1 a0 v)) : LoopX E0 33 (fun next σ' => AW E0 33 (thenA next (AW E0 33 R K)) [.code c] .normal σ') σ :=
  LoopA.o (S := S_tidegateref05_Few_l1 a0) hF (fun _ => rfl) hl round
def R_tidegateref05_Few (r : Bool) : AV := .bool (r)
theorem con_tidegateref05_Few {n : Nat} {a0 : (List T_api_Event)} {r : Bool} (hF : F_tidegateref05_Few n a0 = some r) : Con E0 true 5 [.sl 5 (List.map e_api_Event (a0))] (R_tidegateref05_Few r) := by
  unfold F_tidegateref05_Few at hF
  refine Con.walk _ Try.func5 rfl (enters_of Try.func5 rfl rfl) rfl (Or.inr rfl) ?_
  repeat' first
    | (refine AW.step ?_; conv => whnf)
    | (refine CondX.o hF (fun hF => ?_) (fun hF => ?_))
    | (refine CondX.t ?_)
    | (refine CondX.f ?_)
    | (refine IdxX.o e_api_Event hF (fun x hF => ?_))
    | (refine CallX.o hF R_tidegateref01_Few (fun a h => con_tidegateref01_Few h) (fun a hF => ?_))
    | (exact ⟨_, hF, LeX.of [] rfl ⟨⟨rfl, rfl⟩, ⟨rfl, rfl⟩, trivial⟩ trivial⟩)
    | (refine tidegateref05_Few_l1_o hF (LeX.of [] rfl ⟨⟨rfl, rfl⟩, ⟨rfl, rfl⟩, trivial⟩ trivial) (fun m v hF => ?_); unfold F_tidegateref05_Few_l1 at hF)
    | (refine And.intro ⟨by kernel_rfl, by kernel_rfl⟩ ?_)
    | (refine EqX.mk (by first | rfl | kernel_rfl) ?_)
    | (exact RetX.o hF (by repeat' first | exact Sub.nil _ | exact Sub.refl _ | refine Sub.agg ?_ | refine Sub.tup ?_ | refine Sub.fn ?_ | exact SubL.nil | refine SubL.cons ?_ ?_ | refine Sub.sl _ ?_ | exact SubE.nil | refine SubE.cons ?_ ?_))

def R_stream_all_1 (r : Bool) : AV := .bool (r)
theorem con_stream_all_1 {n : Nat} {a0 : T_api_Event} {r : Bool} (hF : F_stream_all_1 n a0 = some r) : Con E0 true 53 [.agg [aI (a0.fSource), aI (a0.fSeq), aI (a0.fType), aI (a0.fTime), .sl 3 (List.map e_api_Value (a0.fValues))]] (R_stream_all_1 r) := by
  unfold F_stream_all_1 at hF
  refine Con.walk _ Try.func53 rfl (enters_of Try.func53 rfl rfl) rfl (Or.inr rfl) ?_
  repeat' first
    | (refine AW.step ?_; conv => whnf)
    | (refine CondX.o hF (fun hF => ?_) (fun hF => ?_))
    | (refine CondX.t ?_)
    | (refine CondX.f ?_)
    | (refine CallX.o hF R_stream_placed (fun a h => con_stream_placed h) (fun a hF => ?_))
    | (refine And.intro ⟨by kernel_rfl, by kernel_rfl⟩ ?_)
    | (refine EqX.mk (by first | rfl | kernel_rfl) ?_)
    | (exact RetX.o hF (by repeat' first | exact Sub.nil _ | exact Sub.refl _ | refine Sub.agg ?_ | refine Sub.tup ?_ | refine Sub.fn ?_ | exact SubL.nil | refine SubL.cons ?_ ?_ | refine Sub.sl _ ?_ | exact SubE.nil | refine SubE.cons ?_ ?_))

def S_slices_IndexFunc_l1 (a0 : (List T_api_Event)) (v1_0 : Int) : AS := ⟨[(0, .sl 5 (List.map e_api_Event (a0))), (1, .fn 53 []), (7, aI ((((List.map e_api_Event (a0)).length : Nat) : Int))), (8, aI (v1_0))], []⟩
theorem slices_IndexFunc_l1_o {n N : Nat} {a0 : (List T_api_Event)} {k1_0_0 : Option (Int)} {R : Exit → AS → Prop} {K : List KItem} {c : Code} {σ : AS} {v0 : Int} {r : Int} (hF : F_slices_IndexFunc_l1 n a0 k1_0_0 N v0 = some r) (hl : LeX E0 19 σ (S_slices_IndexFunc_l1 a0 v0)) (round : ∀ m v, F_slices_IndexFunc_l1 n a0 k1_0_0 (m + 1) v = some r → AW E0 19 (thenA (fun σ' => ∃ v', F_slices_IndexFunc_l1 n a0 k1_0_0 m v' = some r ∧ LeX E0 19 σ' (S_slices_IndexFunc_l1 a0 v')) (AW E0 19 R K)) [.code c] .normal (S_slices_IndexFunc_l1 a0 v)) : LoopX E0 19 (fun next σ' => AW E0 19 (thenA next (AW E0 19 R K)) [.code c] .normal σ') σ :=
  LoopA.o (S := S_slices_IndexFunc_l1 a0) hF (fun _ => rfl) hl round
def R_slices_IndexFunc (r : Int) : AV := aI (r)
theorem con_slices_IndexFunc {n : Nat} {a0 : (List T_api_Event)} {r : Int} (hF : F_slices_IndexFunc n a0 = some r) : Con E0 true 35 [.sl 5 (List.map e_api_Event (a0)), .fn 53 []] (R_slices_IndexFunc r) := by
  unfold F_slices_IndexFunc at hF
  refine Con.walk _ Try.func35 rfl (enters_of Try.func35 rfl rfl) rfl (Or.inr rfl) ?_
  repeat' first
    | (refine AW.step ?_; conv => whnf)
    | (refine CondX.o hF (fun hF => ?_) (fun hF => ?_))
    | (refine CondX.t ?_)
    | (refine CondX.f ?_)
    | (refine IdxX.o e_api_Event hF (fun x hF => ?_))
    | (refine CallX.o hF R_stream_all_1 (fun a h => con_stream_all_1 h) (fun a hF => ?_))
    | (exact ⟨_, hF, LeX.of [] rfl ⟨⟨rfl, rfl⟩, ⟨rfl, rfl⟩, ⟨rfl, rfl⟩, ⟨rfl, rfl⟩, trivial⟩ trivial⟩)
    | (refine slices_IndexFunc_l1_o hF (LeX.of [] rfl ⟨⟨rfl, rfl⟩, ⟨rfl, rfl⟩, ⟨rfl, rfl⟩, ⟨rfl, rfl⟩, trivial⟩ trivial) (fun m v hF => ?_); unfold F_slices_IndexFunc_l1 at hF)
    | (refine And.intro ⟨by kernel_rfl, by kernel_rfl⟩ ?_)
    | (refine EqX.mk (by first | rfl | kernel_rfl) ?_)
    | (exact RetX.o hF (by repeat' first | exact Sub.nil _ | exact Sub.refl _ | refine Sub.agg ?_ | refine Sub.tup ?_ | refine Sub.fn ?_ | exact SubL.nil | refine SubL.cons ?_ ?_ | refine Sub.sl _ ?_ | exact SubE.nil | refine SubE.cons ?_ ?_))

def R_slices_ContainsFunc (r : Bool) : AV := .bool (r)
theorem con_slices_ContainsFunc {n : Nat} {a0 : (List T_api_Event)} {r : Bool} (hF : F_slices_ContainsFunc n a0 = some r) : Con E0 true 52 [.sl 5 (List.map e_api_Event (a0)), .fn 53 []] (R_slices_ContainsFunc r) := by
  unfold F_slices_ContainsFunc at hF
  refine Con.walk _ Try.func52 rfl (enters_of Try.func52 rfl rfl) rfl (Or.inr rfl) ?_
  repeat' first
    | (refine AW.step ?_; conv => whnf)
    | (refine CondX.o hF (fun hF => ?_) (fun hF => ?_))
    | (refine CondX.t ?_)
    | (refine CondX.f ?_)
    | (refine CallX.o hF R_slices_IndexFunc (fun a h => con_slices_IndexFunc h) (fun a hF => ?_))
    | (refine And.intro ⟨by kernel_rfl, by kernel_rfl⟩ ?_)
    | (refine EqX.mk (by first | rfl | kernel_rfl) ?_)
    | (exact RetX.o hF (by repeat' first | exact Sub.nil _ | exact Sub.refl _ | refine Sub.agg ?_ | refine Sub.tup ?_ | refine Sub.fn ?_ | exact SubL.nil | refine SubL.cons ?_ ?_ | refine Sub.sl _ ?_ | exact SubE.nil | refine SubE.cons ?_ ?_))

def R_stream_all (r : Int) : AV := aI (r)
theorem con_stream_all {n : Nat} {a0 : (List T_api_Event)} {r : Int} (hF : F_stream_all n a0 = some r) : Con E0 true 36 [.sl 5 (List.map e_api_Event (a0))] (R_stream_all r) := by
  unfold F_stream_all at hF
  refine Con.walk _ Try.func36 rfl (enters_of Try.func36 rfl rfl) rfl (Or.inr rfl) ?_
  repeat' first
    | (refine AW.step ?_; conv => whnf)
    | (refine CondX.o hF (fun hF => ?_) (fun hF => ?_))
    | (refine CondX.t ?_)
    | (refine CondX.f ?_)
    | (refine CallX.o hF R_slices_ContainsFunc (fun a h => con_slices_ContainsFunc h) (fun a hF => ?_))
    | (refine And.intro ⟨by kernel_rfl, by kernel_rfl⟩ ?_)
    | (refine EqX.mk (by first | rfl | kernel_rfl) ?_)
    | (exact RetX.o hF (by repeat' first | exact Sub.nil _ | exact Sub.refl _ | refine Sub.agg ?_ | refine Sub.tup ?_ | refine Sub.fn ?_ | exact SubL.nil | refine SubL.cons ?_ ?_ | refine Sub.sl _ ?_ | exact SubE.nil | refine SubE.cons ?_ ?_))

def S_slices_Equal_l1 (a1 : (List T_api_Value)) (a0 : (List T_api_Value)) (v1_0 : Int) : AS := ⟨[(0, .sl 3 (List.map e_api_Value (a0))), (1, .sl 3 (List.map e_api_Value (a1))), (12, aI ((((List.map e_api_Value (a0)).length : Nat) : Int))), (13, aI (v1_0))], []⟩
theorem slices_Equal_l1_o {n N : Nat} {a1 : (List T_api_Value)} {a0 : (List T_api_Value)} {k1_0_0 : Option (Bool)} {R : Exit → AS → Prop} {K : List KItem} {c : Code} {σ : AS} {v0 : Int} {r : Bool} (hF : F_slices_Equal_l1 n a1 a0 k1_0_0 N v0 = some r) (hl : LeX E0 26 σ (S_slices_Equal_l1 a1 a0 v0)) (round : ∀ m v, F_slices_Equal_l1 n a1 a0 k1_0_0 (m + 1) v = some r → AW E0 26 (thenA (fun σ' => ∃ v', F_slices_Equal_l1 n a1 a0 k1_0_0 m v' = some r ∧ LeX E0 26 σ' (S_slices_Equal_l1 a1 a0 v')) (AW E0 26 R K)) [.code c] .normal (S_slices_Equal_l1 a1 a0 v)) : LoopX E0 26 (fun next σ' => AW E0 26 (thenA next (AW E0 26 R K)) [.code c] .normal σ') σ :=
  LoopA.o (S := S_slices_Equal_l1 a1 a0) hF (fun _ => rfl) hl round
def R_slices_Equal (r : Bool) : AV := .bool (r)
theorem con_slices_Equal {n : Nat} {a0 : (List T_api_Value)} {a1 : (List T_api_Value)} {r : Bool} (hF : F_slices_Equal n a0 a1 = some r) : Con E0 true 71 [.sl 3 (List.map e_api_Value (a0)), .sl 3 (List.map e_api_Value (a1))] (R_slices_Equal r) := by
  unfold F_slices_Equal at hF
  refine Con.walk _ Try.func71 rfl (enters_of Try.func71 rfl rfl) rfl (Or.inr rfl) ?_
  repeat' first
    | (refine AW.step ?_; conv => whnf)
    | (refine CondX.o hF (fun hF => ?_) (fun hF => ?_))
    | (refine CondX.t ?_)
    | (refine CondX.f ?_)
    | (refine IdxX.o e_api_Value hF (fun x hF => ?_))
    | (exact ⟨_, hF, LeX.of [] rfl ⟨⟨rfl, rfl⟩, ⟨rfl, rfl⟩, ⟨rfl, rfl⟩, ⟨rfl, rfl⟩, trivial⟩ trivial⟩)
    | (refine slices_Equal_l1_o hF (LeX.of [] rfl ⟨⟨rfl, rfl⟩, ⟨rfl, rfl⟩, ⟨rfl, rfl⟩, ⟨rfl, rfl⟩, trivial⟩ trivial) (fun m v hF => ?_); unfold F_slices_Equal_l1 at hF)
    | (refine And.intro ⟨by kernel_rfl, by kernel_rfl⟩ ?_)
    | (refine EqX.mk (by first | rfl | kernel_rfl) ?_)
    | (exact RetX.o hF (by repeat' first | exact Sub.nil _ | exact Sub.refl _ | refine Sub.agg ?_ | refine Sub.tup ?_ | refine Sub.fn ?_ | exact SubL.nil | refine SubL.cons ?_ ?_ | refine Sub.sl _ ?_ | exact SubE.nil | refine SubE.cons ?_ ?_))

def R_stream_equal (r : Bool) : AV := .bool (r)
theorem con_stream_equal {n : Nat} {a0 : T_api_Event} {a1 : T_api_Event} {r : Bool} (hF : F_stream_equal n a0 a1 = some r) : Con E0 true 54 [.agg [aI (a0.fSource), aI (a0.fSeq), aI (a0.fType), aI (a0.fTime), .sl 3 (List.map e_api_Value (a0.fValues))], .agg [aI (a1.fSource), aI (a1.fSeq), aI (a1.fType), aI (a1.fTime), .sl 3 (List.map e_api_Value (a1.fValues))]] (R_stream_equal r) := by
  unfold F_stream_equal at hF
  refine Con.walk _ Try.func54 rfl (enters_of Try.func54 rfl rfl) rfl (Or.inr rfl) ?_
  repeat' first
    | (refine AW.step ?_; conv => whnf)
    | (refine CondX.o hF (fun hF => ?_) (fun hF => ?_))
    | (refine CondX.t ?_)
    | (refine CondX.f ?_)
    | (refine CallX.o hF R_stream_of (fun a h => con_stream_of h) (fun a hF => ?_))
    | (refine CallX.o hF R_slices_Equal (fun a h => con_slices_Equal h) (fun a hF => ?_))
    | (refine And.intro ⟨by kernel_rfl, by kernel_rfl⟩ ?_)
    | (refine EqX.mk (by first | rfl | kernel_rfl) ?_)
    | (exact RetX.o hF (by repeat' first | exact Sub.nil _ | exact Sub.refl _ | refine Sub.agg ?_ | refine Sub.tup ?_ | refine Sub.fn ?_ | exact SubL.nil | refine SubL.cons ?_ ?_ | refine Sub.sl _ ?_ | exact SubE.nil | refine SubE.cons ?_ ?_))

def S_stream_sorted_l1 (a0 : (List T_api_Event)) (v1_0 : Int × (List (T_stream_identity × T_api_Event)) × (List T_api_Event)) : AS := ⟨[(4, .row 10), (5, .row 7041), (11, .sl 5 (List.map e_api_Event (a0))), (12, aI ((((List.map e_api_Event (a0)).length : Nat) : Int))), (13, aI (v1_0.1))], [(10, .mp (List.map (encM e_stream_identity e_api_Event) (v1_0.2.1))), (7041, .row 41 5 (List.map e_api_Event (v1_0.2.2)))]⟩
theorem stream_sorted_l1_o {n N : Nat} {a0 : (List T_api_Event)} {k1_0_0 : (List T_api_Event) → Option ((List T_api_Event) × Bool)} {R : Exit → AS → Prop} {K : List KItem} {c : Code} {σ : AS} {v0 : Int × (List (T_stream_identity × T_api_Event)) × (List T_api_Event)} {r : (List T_api_Event) × Bool} (hF : F_stream_sorted_l1 n a0 k1_0_0 N v0 = some r) (hl : LeX E0 46 σ (S_stream_sorted_l1 a0 v0)) (round : ∀ m v, F_stream_sorted_l1 n a0 k1_0_0 (m + 1) v = some r → AW E0 46 (thenA (fun σ' => ∃ v', F_stream_sorted_l1 n a0 k1_0_0 m v' = some r ∧ LeX E0 46 σ' (S_stream_sorted_l1 a0 v')) (AW E0 46 R K)) [.code c] .normal (S_stream_sorted_l1 a0 v)) : LoopX E0 46 (fun next σ' => AW E0 46 (thenA next (AW E0 46 R K)) [.code c] .normal σ') σ :=
  LoopA.o (S := S_stream_sorted_l1 a0) hF (fun _ => rfl) hl round
def R_stream_sorted (r : (List T_api_Event) × Bool) : AV := .tup [.sl 5 (List.map e_api_Event (r.1)), .bool (r.2)]
theorem con_stream_sorted {n : Nat} {a0 : (List T_api_Event)} {r : (List T_api_Event) × Bool} (hF : F_stream_sorted n a0 = some r) : Con E0 false 37 [.sl 5 (List.map e_api_Event (a0))] (R_stream_sorted r) := by
  unfold F_stream_sorted at hF
  refine Con.walk _ Try.func37 rfl (enters_of Try.func37 rfl rfl) rfl (Or.inl rfl) ?_
  repeat' first
    | (refine AW.step ?_; conv => whnf)
    | (refine CondX.o hF (fun hF => ?_) (fun hF => ?_))
    | (refine CondX.t ?_)
    | (refine CondX.f ?_)
    | (refine CallC.oI hF 7041 (fun r => r) e_api_Event (fun _ => AV.tup []) rfl (fun a h => sortEv_con h) rfl rfl rfl (fun a hF => ?_))
    | (refine IdxX.o e_api_Event hF (fun x hF => ?_))
    | (refine CallX.o hF R_stream_of (fun a h => con_stream_of h) (fun a hF => ?_))
    | (refine LkX.o e_stream_identity e_api_Event hF (by first | rfl | kernel_rfl) eqK_80 (by repeat' first | exact Sub.nil _ | exact Sub.refl _ | refine Sub.agg ?_ | refine Sub.tup ?_ | refine Sub.fn ?_ | exact SubL.nil | refine SubL.cons ?_ ?_ | refine Sub.sl _ ?_ | exact SubE.nil | refine SubE.cons ?_ ?_) (fun v b hF => ?_))
    | (refine CallX.o hF R_stream_equal (fun a h => con_stream_equal h) (fun a hF => ?_))
    | (refine UpX.o e_stream_identity e_api_Event hF (by first | rfl | kernel_rfl) eqK_80 (by repeat' first | exact Sub.nil _ | exact Sub.refl _ | refine Sub.agg ?_ | refine Sub.tup ?_ | refine Sub.fn ?_ | exact SubL.nil | refine SubL.cons ?_ ?_ | refine Sub.sl _ ?_ | exact SubE.nil | refine SubE.cons ?_ ?_) (fun l hF => ?_))
    | (refine CallX.o hF R_stream_copied (fun a h => con_stream_copied h) (fun a hF => ?_))
    | (refine AppX.o e_api_Event hF (by first | exact SubR.refl _ | (repeat' first | exact SubR.nil | refine SubR.cons ?_ ?_ | exact SubL.nil | refine SubL.cons ?_ ?_ | exact Sub.refl _ | exact Sub.nil _)) (fun l hF => ?_))
    | (exact ⟨_, hF, LeX.of [(7041, 41)] rfl ⟨⟨rfl, rfl⟩, ⟨rfl, rfl⟩, ⟨rfl, rfl⟩, ⟨rfl, rfl⟩, ⟨rfl, rfl⟩, trivial⟩ ⟨⟨rfl, rfl⟩, ⟨rfl, rfl⟩, trivial⟩⟩)
    | (exact ⟨_, hF, LeX.of [] rfl ⟨⟨rfl, rfl⟩, ⟨rfl, rfl⟩, ⟨rfl, rfl⟩, ⟨rfl, rfl⟩, ⟨rfl, rfl⟩, trivial⟩ ⟨⟨rfl, rfl⟩, ⟨rfl, rfl⟩, trivial⟩⟩)
    | (refine stream_sorted_l1_o hF (LeX.trans (LeX.adopt 5 7041 41 5 rfl rfl) (LeX.of [] rfl ⟨⟨rfl, rfl⟩, ⟨rfl, rfl⟩, ⟨rfl, rfl⟩, ⟨rfl, rfl⟩, ⟨rfl, rfl⟩, trivial⟩ ⟨⟨rfl, rfl⟩, ⟨rfl, rfl⟩, trivial⟩)) (fun m v hF => ?_); unfold F_stream_sorted_l1 at hF)
    | (refine And.intro ⟨by kernel_rfl, by kernel_rfl⟩ ?_)
    | (refine EqX.mk (by first | rfl | kernel_rfl) ?_)
    | (exact RetX.o hF (by repeat' first | exact Sub.nil _ | exact Sub.refl _ | refine Sub.agg ?_ | refine Sub.tup ?_ | refine Sub.fn ?_ | exact SubL.nil | refine SubL.cons ?_ ?_ | refine Sub.sl _ ?_ | exact SubE.nil | refine SubE.cons ?_ ?_))

def R_stream_Sort (r : (List T_api_Event) × Int) : AV := .tup [.sl 5 (List.map e_api_Event (r.1)), aI (r.2)]
theorem con_stream_Sort {n : Nat} {a0 : (List T_api_Event)} {r : (List T_api_Event) × Int} (hF : F_stream_Sort n a0 = some r) : Con E0 false 17 [.sl 5 (List.map e_api_Event (a0))] (R_stream_Sort r) := by
  unfold F_stream_Sort at hF
  refine Con.walk _ Try.func17 rfl (enters_of Try.func17 rfl rfl) rfl (Or.inl rfl) ?_
  repeat' first
    | (refine AW.step ?_; conv => whnf)
    | (refine CondX.o hF (fun hF => ?_) (fun hF => ?_))
    | (refine CondX.t ?_)
    | (refine CondX.f ?_)
    | (refine CallX.o hF R_stream_all (fun a h => con_stream_all h) (fun a hF => ?_))
    | (refine CallX.o hF R_stream_sorted (fun a h => con_stream_sorted h) (fun a hF => ?_))
    | (refine And.intro ⟨by kernel_rfl, by kernel_rfl⟩ ?_)
    | (refine EqX.mk (by first | rfl | kernel_rfl) ?_)
    | (exact RetX.o hF (by repeat' first | exact Sub.nil _ | exact Sub.refl _ | refine Sub.agg ?_ | refine Sub.tup ?_ | refine Sub.fn ?_ | exact SubL.nil | refine SubL.cons ?_ ?_ | refine Sub.sl _ ?_ | exact SubE.nil | refine SubE.cons ?_ ?_))

def S_stream_Inversions_l2 (a0 : (List T_api_Event)) (v1_0 : Int × Int) (x43 : T_api_Event) (x44 : (List T_api_Event)) (v2_1 : Int × Int) : AS := ⟨[(0, .sl 5 (List.map e_api_Event (a0))), (5, aI (v2_1.1)), (7, .ptr 7 0), (15, .sl 5 (List.map e_api_Event (a0))), (16, aI ((((List.map e_api_Event (a0)).length : Nat) : Int))), (17, aI (v1_0.2)), (24, .sl 5 (List.map e_api_Event (x44))), (25, aI ((((List.map e_api_Event (x44)).length : Nat) : Int))), (26, aI (v2_1.2))], [(7, .box 41 [aI (x43.fSource), aI (x43.fSeq), aI (x43.fType), aI (x43.fTime), .sl 3 (List.map e_api_Value (x43.fValues))])]⟩
theorem stream_Inversions_l2_o {n N : Nat} {a0 : (List T_api_Event)} {v1_0 : Int × Int} {x43 : T_api_Event} {x44 : (List T_api_Event)} {k2_1_0 : Int → Option (Int × Int)} {R : Exit → AS → Prop} {K : List KItem} {c : Code} {σ : AS} {v0 : Int × Int} {r : Int × Int} (hF : F_stream_Inversions_l2 n a0 v1_0 x43 x44 k2_1_0 N v0 = some r) (hl : LeX E0 39 σ (S_stream_Inversions_l2 a0 v1_0 x43 x44 v0)) (round : ∀ m v, F_stream_Inversions_l2 n a0 v1_0 x43 x44 k2_1_0 (m + 1) v = some r → AW E0 39 (thenA (fun σ' => ∃ v', F_stream_Inversions_l2 n a0 v1_0 x43 x44 k2_1_0 m v' = some r ∧ LeX E0 39 σ' (S_stream_Inversions_l2 a0 v1_0 x43 x44 v')) (AW E0 39 R K)) [.code c] .normal (S_stream_Inversions_l2 a0 v1_0 x43 x44 v)) : LoopX E0 39 (fun next σ' => AW E0 39 (thenA next (AW E0 39 R K)) [.code c] .normal σ') σ :=
  LoopA.o (S := S_stream_Inversions_l2 a0 v1_0 x43 x44) hF (fun _ => rfl) hl round
def S_stream_Inversions_l1 (a0 : (List T_api_Event)) (v1_0 : Int × Int) : AS := ⟨[(0, .sl 5 (List.map e_api_Event (a0))), (5, aI (v1_0.1)), (15, .sl 5 (List.map e_api_Event (a0))), (16, aI ((((List.map e_api_Event (a0)).length : Nat) : Int))), (17, aI (v1_0.2))], []⟩
theorem stream_Inversions_l1_o {n N : Nat} {a0 : (List T_api_Event)} {k1_0_0 : Int → Option (Int × Int)} {R : Exit → AS → Prop} {K : List KItem} {c : Code} {σ : AS} {v0 : Int × Int} {r : Int × Int} (hF : F_stream_Inversions_l1 n a0 k1_0_0 N v0 = some r) (hl : LeX E0 39 σ (S_stream_Inversions_l1 a0 v0)) (round : ∀ m v, F_stream_Inversions_l1 n a0 k1_0_0 (m + 1) v = some r → AW E0 39 (thenA (fun σ' => ∃ v', F_stream_Inversions_l1 n a0 k1_0_0 m v' = some r ∧ LeX E0 39 σ' (S_stream_Inversions_l1 a0 v')) (AW E0 39 R K)) [.code c] .normal (S_stream_Inversions_l1 a0 v)) : LoopX E0 39 (fun next σ' => AW E0 39 (thenA next (AW E0 39 R K)) [.code c] .normal σ') σ :=
  LoopA.o (S := S_stream_Inversions_l1 a0) hF (fun _ => rfl) hl round
def R_stream_Inversions (r : Int × Int) : AV := .tup [aI (r.1), aI (r.2)]
theorem con_stream_Inversions {n : Nat} {a0 : (List T_api_Event)} {r : Int × Int} (hF : F_stream_Inversions n a0 = some r) : Con E0 true 22 [.sl 5 (List.map e_api_Event (a0))] (R_stream_Inversions r) := by
  unfold F_stream_Inversions at hF
  refine Con.walk _ Try.func22 rfl (enters_of Try.func22 rfl rfl) rfl (Or.inr rfl) ?_
  repeat' first
    | (refine AW.step ?_; conv => whnf)
    | (refine CondX.o hF (fun hF => ?_) (fun hF => ?_))
    | (refine CondX.t ?_)
    | (refine CondX.f ?_)
    | (refine CallX.o hF R_stream_all (fun a h => con_stream_all h) (fun a hF => ?_))
    | (refine IdxX.o e_api_Event hF (fun x hF => ?_))
    | (refine SlsX.o e_api_Event hF (fun l hF => ?_))
    | (exact ⟨_, hF, LeX.of [] rfl ⟨⟨rfl, rfl⟩, ⟨rfl, rfl⟩, ⟨rfl, rfl⟩, ⟨rfl, rfl⟩, ⟨rfl, rfl⟩, trivial⟩ trivial⟩)
    | (refine CallX.o hF R_event_Compare_d (fun a h => con_evCmp h) (fun a hF => ?_))
    | (exact ⟨_, hF, LeX.of [] rfl ⟨⟨rfl, rfl⟩, ⟨rfl, rfl⟩, ⟨rfl, rfl⟩, ⟨rfl, rfl⟩, ⟨rfl, rfl⟩, ⟨rfl, rfl⟩, ⟨rfl, rfl⟩, ⟨rfl, rfl⟩, ⟨rfl, rfl⟩, trivial⟩ ⟨⟨rfl, rfl⟩, trivial⟩⟩)
    | (refine stream_Inversions_l2_o hF (LeX.of [] rfl ⟨⟨rfl, rfl⟩, ⟨rfl, rfl⟩, ⟨rfl, rfl⟩, ⟨rfl, rfl⟩, ⟨rfl, rfl⟩, ⟨rfl, rfl⟩, ⟨rfl, rfl⟩, ⟨rfl, rfl⟩, ⟨rfl, rfl⟩, trivial⟩ ⟨⟨rfl, rfl⟩, trivial⟩) (fun m v hF => ?_); unfold F_stream_Inversions_l2 at hF)
    | (refine stream_Inversions_l1_o hF (LeX.of [] rfl ⟨⟨rfl, rfl⟩, ⟨rfl, rfl⟩, ⟨rfl, rfl⟩, ⟨rfl, rfl⟩, ⟨rfl, rfl⟩, trivial⟩ trivial) (fun m v hF => ?_); unfold F_stream_Inversions_l1 at hF)
    | (refine And.intro ⟨by kernel_rfl, by kernel_rfl⟩ ?_)
    | (refine EqX.mk (by first | rfl | kernel_rfl) ?_)
    | (exact RetX.o hF (by repeat' first | exact Sub.nil _ | exact Sub.refl _ | refine Sub.agg ?_ | refine Sub.tup ?_ | refine Sub.fn ?_ | exact SubL.nil | refine SubL.cons ?_ ?_ | refine Sub.sl _ ?_ | exact SubE.nil | refine SubE.cons ?_ ?_))

def R_stream_compare (r : Int) : AV := aI (r)
theorem con_stream_compare {n : Nat} {a0 : T_api_Event} {a1 : T_api_Ref} {r : Int} (hF : F_stream_compare n a0 a1 = some r) : Con E0 true 42 [.agg [aI (a0.fSource), aI (a0.fSeq), aI (a0.fType), aI (a0.fTime), .sl 3 (List.map e_api_Value (a0.fValues))], .agg [aI (a1.fTime), aI (a1.fSource), aI (a1.fSeq)]] (R_stream_compare r) := by
  unfold F_stream_compare at hF
  refine Con.walk _ Try.func42 rfl (enters_of Try.func42 rfl rfl) rfl (Or.inr rfl) ?_
  repeat' first
    | (refine AW.step ?_; conv => whnf)
    | (refine CondX.o hF (fun hF => ?_) (fun hF => ?_))
    | (refine CondX.t ?_)
    | (refine CondX.f ?_)
    | (refine CallX.o hF R_cmp_Compare_d (fun a h => con_cmpI h) (fun a hF => ?_))
    | (refine CallX.o hF R_cmp_Or_d (fun a h => con_cmpOr h) (fun a hF => ?_))
    | (refine And.intro ⟨by kernel_rfl, by kernel_rfl⟩ ?_)
    | (refine EqX.mk (by first | rfl | kernel_rfl) ?_)
    | (exact RetX.o hF (by repeat' first | exact Sub.nil _ | exact Sub.refl _ | refine Sub.agg ?_ | refine Sub.tup ?_ | refine Sub.fn ?_ | exact SubL.nil | refine SubL.cons ?_ ?_ | refine Sub.sl _ ?_ | exact SubE.nil | refine SubE.cons ?_ ?_))

def S_slices_BinarySearchFunc_l1 (a1 : T_api_Ref) (a0 : (List T_api_Event)) (v1_0 : Int × Int) : AS := ⟨[(0, .sl 5 (List.map e_api_Event (a0))), (2, .fn 42 []), (4, .ptr 4 0), (8, aI ((((List.map e_api_Event (a0)).length : Nat) : Int))), (9, aI (v1_0.1)), (10, aI (v1_0.2))], [(4, .box 59 [aI (a1.fTime), aI (a1.fSource), aI (a1.fSeq)])]⟩
theorem slices_BinarySearchFunc_l1_o {n N : Nat} {a1 : T_api_Ref} {a0 : (List T_api_Event)} {k1_0_0 : Int → Option (Int × Bool)} {R : Exit → AS → Prop} {K : List KItem} {c : Code} {σ : AS} {v0 : Int × Int} {r : Int × Bool} (hF : F_slices_BinarySearchFunc_l1 n a1 a0 k1_0_0 N v0 = some r) (hl : LeX E0 49 σ (S_slices_BinarySearchFunc_l1 a1 a0 v0)) (round : ∀ m v, F_slices_BinarySearchFunc_l1 n a1 a0 k1_0_0 (m + 1) v = some r → AW E0 49 (thenA (fun σ' => ∃ v', F_slices_BinarySearchFunc_l1 n a1 a0 k1_0_0 m v' = some r ∧ LeX E0 49 σ' (S_slices_BinarySearchFunc_l1 a1 a0 v')) (AW E0 49 R K)) [.code c] .normal (S_slices_BinarySearchFunc_l1 a1 a0 v)) : LoopX E0 49 (fun next σ' => AW E0 49 (thenA next (AW E0 49 R K)) [.code c] .normal σ') σ :=
  LoopA.o (S := S_slices_BinarySearchFunc_l1 a1 a0) hF (fun _ => rfl) hl round
def R_slices_BinarySearchFunc (r : Int × Bool) : AV := .tup [aI (r.1), .bool (r.2)]
theorem con_slices_BinarySearchFunc {n : Nat} {a0 : (List T_api_Event)} {a1 : T_api_Ref} {r : Int × Bool} (hF : F_slices_BinarySearchFunc n a0 a1 = some r) : Con E0 true 41 [.sl 5 (List.map e_api_Event (a0)), .agg [aI (a1.fTime), aI (a1.fSource), aI (a1.fSeq)], .fn 42 []] (R_slices_BinarySearchFunc r) := by
  unfold F_slices_BinarySearchFunc at hF
  refine Con.walk _ Try.func41 rfl (enters_of Try.func41 rfl rfl) rfl (Or.inr rfl) ?_
  repeat' first
    | (refine AW.step ?_; conv => whnf)
    | (refine CondX.o hF (fun hF => ?_) (fun hF => ?_))
    | (refine CondX.t ?_)
    | (refine CondX.f ?_)
    | (refine IdxX.o e_api_Event hF (fun x hF => ?_))
    | (refine CallX.o hF R_stream_compare (fun a h => con_stream_compare h) (fun a hF => ?_))
    | (exact ⟨_, hF, LeX.of [] rfl ⟨⟨rfl, rfl⟩, ⟨rfl, rfl⟩, ⟨rfl, rfl⟩, ⟨rfl, rfl⟩, ⟨rfl, rfl⟩, ⟨rfl, rfl⟩, trivial⟩ ⟨⟨rfl, rfl⟩, trivial⟩⟩)
    | (refine ShX.o hF (fun hF => ?_))
    | (refine slices_BinarySearchFunc_l1_o hF (LeX.of [] rfl ⟨⟨rfl, rfl⟩, ⟨rfl, rfl⟩, ⟨rfl, rfl⟩, ⟨rfl, rfl⟩, ⟨rfl, rfl⟩, ⟨rfl, rfl⟩, trivial⟩ ⟨⟨rfl, rfl⟩, trivial⟩) (fun m v hF => ?_); unfold F_slices_BinarySearchFunc_l1 at hF)
    | (refine And.intro ⟨by kernel_rfl, by kernel_rfl⟩ ?_)
    | (refine EqX.mk (by first | rfl | kernel_rfl) ?_)
    | (exact RetX.o hF (by repeat' first | exact Sub.nil _ | exact Sub.refl _ | refine Sub.agg ?_ | refine Sub.tup ?_ | refine Sub.fn ?_ | exact SubL.nil | refine SubL.cons ?_ ?_ | refine Sub.sl _ ?_ | exact SubE.nil | refine SubE.cons ?_ ?_))

def R_stream_Find (r : Int × Bool × Int) : AV := .tup [aI (r.1), .bool (r.2.1), aI (r.2.2)]
theorem con_stream_Find {n : Nat} {a0 : (List T_api_Event)} {a1 : T_api_Ref} {r : Int × Bool × Int} (hF : F_stream_Find n a0 a1 = some r) : Con E0 true 23 [.sl 5 (List.map e_api_Event (a0)), .agg [aI (a1.fTime), aI (a1.fSource), aI (a1.fSeq)]] (R_stream_Find r) := by
  unfold F_stream_Find at hF
  refine Con.walk _ Try.func23 rfl (enters_of Try.func23 rfl rfl) rfl (Or.inr rfl) ?_
  repeat' first
    | (refine AW.step ?_; conv => whnf)
    | (refine CondX.o hF (fun hF => ?_) (fun hF => ?_))
    | (refine CondX.t ?_)
    | (refine CondX.f ?_)
    | (refine CallX.o hF R_stream_Check (fun a h => con_stream_Check h) (fun a hF => ?_))
    | (refine CallX.o hF R_slices_BinarySearchFunc (fun a h => con_slices_BinarySearchFunc h) (fun a hF => ?_))
    | (refine And.intro ⟨by kernel_rfl, by kernel_rfl⟩ ?_)
    | (refine EqX.mk (by first | rfl | kernel_rfl) ?_)
    | (exact RetX.o hF (by repeat' first | exact Sub.nil _ | exact Sub.refl _ | refine Sub.agg ?_ | refine Sub.tup ?_ | refine Sub.fn ?_ | exact SubL.nil | refine SubL.cons ?_ ?_ | refine Sub.sl _ ?_ | exact SubE.nil | refine SubE.cons ?_ ?_))

def S_stream_Slice_l1 (a2 : Int) (a1 : Int) (a0 : (List T_api_Event)) (v1_0 : Int × (List T_api_Event)) : AS := ⟨[(1, aI (a1)), (2, aI (a2)), (9, .row 7037), (17, .sl 5 (List.map e_api_Event (a0))), (18, aI ((((List.map e_api_Event (a0)).length : Nat) : Int))), (19, aI (v1_0.1))], [(7037, .row 41 5 (List.map e_api_Event (v1_0.2)))]⟩
theorem stream_Slice_l1_o {n N : Nat} {a2 : Int} {a1 : Int} {a0 : (List T_api_Event)} {k1_0_0 : (List T_api_Event) → Option ((List T_api_Event) × Int)} {R : Exit → AS → Prop} {K : List KItem} {c : Code} {σ : AS} {v0 : Int × (List T_api_Event)} {r : (List T_api_Event) × Int} (hF : F_stream_Slice_l1 n a2 a1 a0 k1_0_0 N v0 = some r) (hl : LeX E0 40 σ (S_stream_Slice_l1 a2 a1 a0 v0)) (round : ∀ m v, F_stream_Slice_l1 n a2 a1 a0 k1_0_0 (m + 1) v = some r → AW E0 40 (thenA (fun σ' => ∃ v', F_stream_Slice_l1 n a2 a1 a0 k1_0_0 m v' = some r ∧ LeX E0 40 σ' (S_stream_Slice_l1 a2 a1 a0 v')) (AW E0 40 R K)) [.code c] .normal (S_stream_Slice_l1 a2 a1 a0 v)) : LoopX E0 40 (fun next σ' => AW E0 40 (thenA next (AW E0 40 R K)) [.code c] .normal σ') σ :=
  LoopA.o (S := S_stream_Slice_l1 a2 a1 a0) hF (fun _ => rfl) hl round
def R_stream_Slice (r : (List T_api_Event) × Int) : AV := .tup [.sl 5 (List.map e_api_Event (r.1)), aI (r.2)]
theorem con_stream_Slice {n : Nat} {a0 : (List T_api_Event)} {a1 : Int} {a2 : Int} {r : (List T_api_Event) × Int} (hF : F_stream_Slice n a0 a1 a2 = some r) : Con E0 false 19 [.sl 5 (List.map e_api_Event (a0)), aI (a1), aI (a2)] (R_stream_Slice r) := by
  unfold F_stream_Slice at hF
  refine Con.walk _ Try.func19 rfl (enters_of Try.func19 rfl rfl) rfl (Or.inl rfl) ?_
  repeat' first
    | (refine AW.step ?_; conv => whnf)
    | (refine CondX.o hF (fun hF => ?_) (fun hF => ?_))
    | (refine CondX.t ?_)
    | (refine CondX.f ?_)
    | (refine CallX.o hF R_stream_Check (fun a h => con_stream_Check h) (fun a hF => ?_))
    | (refine IdxX.o e_api_Event hF (fun x hF => ?_))
    | (refine CallX.o hF R_stream_copied (fun a h => con_stream_copied h) (fun a hF => ?_))
    | (refine AppX.o e_api_Event hF (by first | exact SubR.refl _ | (repeat' first | exact SubR.nil | refine SubR.cons ?_ ?_ | exact SubL.nil | refine SubL.cons ?_ ?_ | exact Sub.refl _ | exact Sub.nil _)) (fun l hF => ?_))
    | (exact ⟨_, hF, LeX.of [(7037, 37)] rfl ⟨⟨rfl, rfl⟩, ⟨rfl, rfl⟩, ⟨rfl, rfl⟩, ⟨rfl, rfl⟩, ⟨rfl, rfl⟩, ⟨rfl, rfl⟩, trivial⟩ ⟨⟨rfl, rfl⟩, trivial⟩⟩)
    | (exact ⟨_, hF, LeX.of [] rfl ⟨⟨rfl, rfl⟩, ⟨rfl, rfl⟩, ⟨rfl, rfl⟩, ⟨rfl, rfl⟩, ⟨rfl, rfl⟩, ⟨rfl, rfl⟩, trivial⟩ ⟨⟨rfl, rfl⟩, trivial⟩⟩)
    | (refine stream_Slice_l1_o hF (LeX.trans (LeX.adopt 9 7037 41 5 rfl rfl) (LeX.of [] rfl ⟨⟨rfl, rfl⟩, ⟨rfl, rfl⟩, ⟨rfl, rfl⟩, ⟨rfl, rfl⟩, ⟨rfl, rfl⟩, ⟨rfl, rfl⟩, trivial⟩ ⟨⟨rfl, rfl⟩, trivial⟩)) (fun m v hF => ?_); unfold F_stream_Slice_l1 at hF)
    | (refine And.intro ⟨by kernel_rfl, by kernel_rfl⟩ ?_)
    | (refine EqX.mk (by first | rfl | kernel_rfl) ?_)
    | (exact RetX.o hF (by repeat' first | exact Sub.nil _ | exact Sub.refl _ | refine Sub.agg ?_ | refine Sub.tup ?_ | refine Sub.fn ?_ | exact SubL.nil | refine SubL.cons ?_ ?_ | refine Sub.sl _ ?_ | exact SubE.nil | refine SubE.cons ?_ ?_))

end Go.Proofs.Ytkbopbgcjfcjjaa
namespace Go.Proofs.Ytkbopbgcjfcjjaa
open Go.RowKit
def T_slices_Grow (r : (List T_api_Event)) : AV := .row 0
theorem conT_slices_Grow {n : Nat} {a1 : Int} {r : (List T_api_Event)} (hF : F_slices_Grow n a1 = some r) : ConT E0 73 [.nils, aI (a1)] 41 5 (List.map e_api_Event (r)) (T_slices_Grow r) := by
  unfold F_slices_Grow at hF
  refine ConT.walk _ Try.func73 rfl (enters_of Try.func73 rfl rfl) rfl rfl ?_
  repeat' first
    | (refine AW.step ?_; conv => whnf)
    | (refine CondX.o hF (fun hF => ?_) (fun hF => ?_))
    | (refine CondX.t ?_)
    | (refine CondX.f ?_)
    | (cases hF; done)
    | (refine PosX.o hF (fun hF => ?_))
    | (refine MakX.o e_api_Event hF (by first | exact SubL.refl _ | (repeat' first | exact SubL.nil | refine SubL.cons ?_ ?_ | exact Sub.refl _ | exact Sub.nil _ | refine Sub.agg ?_)) (fun l hF => ?_))
    | (refine SlsX.o e_api_Event hF (fun l hF => ?_))
    | (refine And.intro ⟨by kernel_rfl, by kernel_rfl⟩ ?_)
    | (refine EqX.mk (by first | rfl | kernel_rfl) ?_)
    | (refine TX.o (rl := fun r => List.map e_api_Event (r)) (res := T_slices_Grow) hF ?_; exact TX.mk _ 25 (LeX.refl _ _ _) _ rfl rfl (by repeat' first | exact Sub.nil _ | exact Sub.refl _ | refine Sub.agg ?_ | refine Sub.tup ?_ | refine Sub.fn ?_ | exact SubL.nil | refine SubL.cons ?_ ?_ | refine Sub.sl _ ?_ | exact SubE.nil | refine SubE.cons ?_ ?_))
    | (refine TX.o (rl := fun r => List.map e_api_Event (r)) (res := T_slices_Grow) hF ?_; exact TX.mk _ 22 (LeX.refl _ _ _) _ rfl rfl (by repeat' first | exact Sub.nil _ | exact Sub.refl _ | refine Sub.agg ?_ | refine Sub.tup ?_ | refine Sub.fn ?_ | exact SubL.nil | refine SubL.cons ?_ ?_ | refine Sub.sl _ ?_ | exact SubE.nil | refine SubE.cons ?_ ?_))
    | (refine TX.o (rl := fun r => List.map e_api_Event (r)) (res := T_slices_Grow) hF ?_; exact TX.mk _ 9000 (LeX.adopt 4 9000 41 5 rfl rfl) _ rfl rfl (by repeat' first | exact Sub.nil _ | exact Sub.refl _ | refine Sub.agg ?_ | refine Sub.tup ?_ | refine Sub.fn ?_ | exact SubL.nil | refine SubL.cons ?_ ?_ | refine Sub.sl _ ?_ | exact SubE.nil | refine SubE.cons ?_ ?_))

def S_slices_Concat_l2 (a0 : (List (List T_api_Event))) (v2_1 : Int × (List T_api_Event)) : AS := ⟨[(6, .row 7024), (25, .sl 1 (List.map (fun q => AV.sl 5 (List.map e_api_Event q)) (a0))), (26, aI ((((List.map (fun q => AV.sl 5 (List.map e_api_Event q)) (a0)).length : Nat) : Int))), (27, aI (v2_1.1))], [(7024, .row 41 5 (List.map e_api_Event (v2_1.2)))]⟩
theorem slices_Concat_l2_o {n N : Nat} {a0 : (List (List T_api_Event))} {k2_1_0 : (List T_api_Event) → Option ((List T_api_Event))} {R : Exit → AS → Prop} {K : List KItem} {c : Code} {σ : AS} {v0 : Int × (List T_api_Event)} {r : (List T_api_Event)} (hF : F_slices_Concat_l2 n a0 k2_1_0 N v0 = some r) (hl : LeX E0 36 σ (S_slices_Concat_l2 a0 v0)) (round : ∀ m v, F_slices_Concat_l2 n a0 k2_1_0 (m + 1) v = some r → AW E0 36 (thenA (fun σ' => ∃ v', F_slices_Concat_l2 n a0 k2_1_0 m v' = some r ∧ LeX E0 36 σ' (S_slices_Concat_l2 a0 v')) (AW E0 36 R K)) [.code c] .normal (S_slices_Concat_l2 a0 v)) : LoopX E0 36 (fun next σ' => AW E0 36 (thenA next (AW E0 36 R K)) [.code c] .normal σ') σ :=
  LoopA.o (S := S_slices_Concat_l2 a0) hF (fun _ => rfl) hl round
def S_slices_Concat_l1 (a0 : (List (List T_api_Event))) (v1_0 : Int × Int) : AS := ⟨[(0, .sl 1 (List.map (fun q => AV.sl 5 (List.map e_api_Event q)) (a0))), (3, aI (v1_0.1)), (9, .sl 1 (List.map (fun q => AV.sl 5 (List.map e_api_Event q)) (a0))), (10, aI ((((List.map (fun q => AV.sl 5 (List.map e_api_Event q)) (a0)).length : Nat) : Int))), (11, aI (v1_0.2))], []⟩
theorem slices_Concat_l1_o {n N : Nat} {a0 : (List (List T_api_Event))} {k1_0_0 : Int → Option ((List T_api_Event))} {R : Exit → AS → Prop} {K : List KItem} {c : Code} {σ : AS} {v0 : Int × Int} {r : (List T_api_Event)} (hF : F_slices_Concat_l1 n a0 k1_0_0 N v0 = some r) (hl : LeX E0 36 σ (S_slices_Concat_l1 a0 v0)) (round : ∀ m v, F_slices_Concat_l1 n a0 k1_0_0 (m + 1) v = some r → AW E0 36 (thenA (fun σ' => ∃ v', F_slices_Concat_l1 n a0 k1_0_0 m v' = some r ∧ LeX E0 36 σ' (S_slices_Concat_l1 a0 v')) (AW E0 36 R K)) [.code c] .normal (S_slices_Concat_l1 a0 v)) : LoopX E0 36 (fun next σ' => AW E0 36 (thenA next (AW E0 36 R K)) [.code c] .normal σ') σ :=
  LoopA.o (S := S_slices_Concat_l1 a0) hF (fun _ => rfl) hl round
def R_slices_Concat (r : (List T_api_Event)) : AV := .sl 5 (List.map e_api_Event (r))
theorem con_slices_Concat {n : Nat} {a0 : (List (List T_api_Event))} {r : (List T_api_Event)} (hF : F_slices_Concat n a0 = some r) : Con E0 false 56 [.sl 1 (List.map (fun q => AV.sl 5 (List.map e_api_Event q)) (a0))] (R_slices_Concat r) := by
  unfold F_slices_Concat at hF
  refine Con.walk _ Try.func56 rfl (enters_of Try.func56 rfl rfl) rfl (Or.inl rfl) ?_
  repeat' first
    | (refine AW.step ?_; conv => whnf)
    | (refine CondX.o hF (fun hF => ?_) (fun hF => ?_))
    | (refine CondX.t ?_)
    | (refine CondX.f ?_)
    | (refine CallX.oR hF (fun r => r) e_api_Event T_slices_Grow rfl (fun a h => conT_slices_Grow h) (fun a hF => ?_))
    | (refine CallX.oR hF (fun r => r) e_api_Event T_slices_Grow rfl (fun a h => ConT.sub (by repeat' first | exact Sub.nil _ | exact Sub.refl _ | refine Sub.agg ?_ | refine Sub.tup ?_ | refine Sub.fn ?_ | exact SubL.nil | refine SubL.cons ?_ ?_ | refine Sub.sl _ ?_ | exact SubE.nil | refine SubE.cons ?_ ?_) (conT_slices_Grow h)) (fun a hF => ?_))
    | (refine IdxX.o (fun q => AV.sl 5 (List.map e_api_Event q)) hF (fun x hF => ?_))
    | (refine AppX.o e_api_Event hF (by first | exact SubR.refl _ | (repeat' first | exact SubR.nil | refine SubR.cons ?_ ?_ | exact SubL.nil | refine SubL.cons ?_ ?_ | exact Sub.refl _ | exact Sub.nil _)) (fun l hF => ?_))
    | (exact ⟨_, hF, LeX.of [(7024, 33)] rfl ⟨⟨rfl, rfl⟩, ⟨rfl, rfl⟩, ⟨rfl, rfl⟩, ⟨rfl, rfl⟩, trivial⟩ ⟨⟨rfl, rfl⟩, trivial⟩⟩)
    | (refine slices_Concat_l2_o hF (LeX.of [(7024, 24)] rfl ⟨⟨rfl, rfl⟩, ⟨rfl, rfl⟩, ⟨rfl, rfl⟩, ⟨rfl, rfl⟩, trivial⟩ ⟨⟨rfl, rfl⟩, trivial⟩) (fun m v hF => ?_); unfold F_slices_Concat_l2 at hF)
    | (cases hF; done)
    | (exact ⟨_, hF, LeX.of [] rfl ⟨⟨rfl, rfl⟩, ⟨rfl, rfl⟩, ⟨rfl, rfl⟩, ⟨rfl, rfl⟩, ⟨rfl, rfl⟩, trivial⟩ trivial⟩)
    | (refine slices_Concat_l1_o hF (LeX.of [] rfl ⟨⟨rfl, rfl⟩, ⟨rfl, rfl⟩, ⟨rfl, rfl⟩, ⟨rfl, rfl⟩, ⟨rfl, rfl⟩, trivial⟩ trivial) (fun m v hF => ?_); unfold F_slices_Concat_l1 at hF)
    | (refine And.intro ⟨by kernel_rfl, by kernel_rfl⟩ ?_)
    | (refine EqX.mk (by first | rfl | kernel_rfl) ?_)
    | (exact RetX.o hF (by repeat' first | exact Sub.nil _ | exact Sub.refl _ | refine Sub.agg ?_ | refine Sub.tup ?_ | refine Sub.fn ?_ | exact SubL.nil | refine SubL.cons ?_ ?_ | refine Sub.sl _ ?_ | exact SubE.nil | refine SubE.cons ?_ ?_))

def R_stream_joined (r : (List T_api_Event) × Int) : AV := .tup [.sl 5 (List.map e_api_Event (r.1)), aI (r.2)]
theorem con_stream_joined {n : Nat} {a0 : (List T_api_Event)} {a1 : (List T_api_Event)} {r : (List T_api_Event) × Int} (hF : F_stream_joined n a0 a1 = some r) : Con E0 false 39 [.sl 5 (List.map e_api_Event (a0)), .sl 5 (List.map e_api_Event (a1))] (R_stream_joined r) := by
  unfold F_stream_joined at hF
  refine Con.walk _ Try.func39 rfl (enters_of Try.func39 rfl rfl) rfl (Or.inl rfl) ?_
  repeat' first
    | (refine AW.step ?_; conv => whnf)
    | (refine CondX.o hF (fun hF => ?_) (fun hF => ?_))
    | (refine CondX.t ?_)
    | (refine CondX.f ?_)
    | (refine CallX.o hF R_slices_Concat (fun a h => con_slices_Concat h) (fun a hF => ?_))
    | (refine CallX.o hF R_stream_sorted (fun a h => con_stream_sorted h) (fun a hF => ?_))
    | (refine And.intro ⟨by kernel_rfl, by kernel_rfl⟩ ?_)
    | (refine EqX.mk (by first | rfl | kernel_rfl) ?_)
    | (exact RetX.o hF (by repeat' first | exact Sub.nil _ | exact Sub.refl _ | refine Sub.agg ?_ | refine Sub.tup ?_ | refine Sub.fn ?_ | exact SubL.nil | refine SubL.cons ?_ ?_ | refine Sub.sl _ ?_ | exact SubE.nil | refine SubE.cons ?_ ?_))

def R_stream_Merge (r : (List T_api_Event) × Int) : AV := .tup [.sl 5 (List.map e_api_Event (r.1)), aI (r.2)]
theorem con_stream_Merge {n : Nat} {a0 : (List T_api_Event)} {a1 : (List T_api_Event)} {r : (List T_api_Event) × Int} (hF : F_stream_Merge n a0 a1 = some r) : Con E0 false 20 [.sl 5 (List.map e_api_Event (a0)), .sl 5 (List.map e_api_Event (a1))] (R_stream_Merge r) := by
  unfold F_stream_Merge at hF
  refine Con.walk _ Try.func20 rfl (enters_of Try.func20 rfl rfl) rfl (Or.inl rfl) ?_
  repeat' first
    | (refine AW.step ?_; conv => whnf)
    | (refine CondX.o hF (fun hF => ?_) (fun hF => ?_))
    | (refine CondX.t ?_)
    | (refine CondX.f ?_)
    | (refine CallX.o hF R_stream_Check (fun a h => con_stream_Check h) (fun a hF => ?_))
    | (refine CallX.o hF R_stream_joined (fun a h => con_stream_joined h) (fun a hF => ?_))
    | (refine And.intro ⟨by kernel_rfl, by kernel_rfl⟩ ?_)
    | (refine EqX.mk (by first | rfl | kernel_rfl) ?_)
    | (exact RetX.o hF (by repeat' first | exact Sub.nil _ | exact Sub.refl _ | refine Sub.agg ?_ | refine Sub.tup ?_ | refine Sub.fn ?_ | exact SubL.nil | refine SubL.cons ?_ ?_ | refine Sub.sl _ ?_ | exact SubE.nil | refine SubE.cons ?_ ?_))

def R_tidegatelaw05_awake (r : Bool) : AV := .bool (r)
theorem con_tidegatelaw05_awake {n : Nat} {r : Bool} (hF : F_tidegatelaw05_awake n = some r) : Con E0 true 6 [] (R_tidegatelaw05_awake r) := by
  unfold F_tidegatelaw05_awake at hF
  refine Con.walk _ Try.func6 rfl (enters_of Try.func6 rfl rfl) rfl (Or.inr rfl) ?_
  repeat' first
    | (refine AW.step ?_; conv => whnf)
    | (refine CondX.o hF (fun hF => ?_) (fun hF => ?_))
    | (refine CondX.t ?_)
    | (refine CondX.f ?_)
    | (refine CallX.o hF R_stream_Sort (fun a h => con_stream_Sort h) (fun a hF => ?_))
    | (refine CallX.o hF R_stream_Sort (fun a h => Con.sub (by repeat' first | exact Sub.nil _ | exact Sub.refl _ | refine Sub.agg ?_ | refine Sub.tup ?_ | refine Sub.fn ?_ | exact SubL.nil | refine SubL.cons ?_ ?_ | refine Sub.sl _ ?_ | exact SubE.nil | refine SubE.cons ?_ ?_) (con_stream_Sort h)) (fun a hF => ?_))
    | (refine CallX.o hF R_stream_Inversions (fun a h => con_stream_Inversions h) (fun a hF => ?_))
    | (refine CallX.o hF R_stream_Inversions (fun a h => Con.sub (by repeat' first | exact Sub.nil _ | exact Sub.refl _ | refine Sub.agg ?_ | refine Sub.tup ?_ | refine Sub.fn ?_ | exact SubL.nil | refine SubL.cons ?_ ?_ | refine Sub.sl _ ?_ | exact SubE.nil | refine SubE.cons ?_ ?_) (con_stream_Inversions h)) (fun a hF => ?_))
    | (refine CallX.o hF R_stream_Find (fun a h => con_stream_Find h) (fun a hF => ?_))
    | (refine CallX.o hF R_stream_Slice (fun a h => con_stream_Slice h) (fun a hF => ?_))
    | (refine CallX.o hF R_stream_Merge (fun a h => con_stream_Merge h) (fun a hF => ?_))
    | (refine CallX.o hF R_stream_Merge (fun a h => Con.sub (by repeat' first | exact Sub.nil _ | exact Sub.refl _ | refine Sub.agg ?_ | refine Sub.tup ?_ | refine Sub.fn ?_ | exact SubL.nil | refine SubL.cons ?_ ?_ | refine Sub.sl _ ?_ | exact SubE.nil | refine SubE.cons ?_ ?_) (con_stream_Merge h)) (fun a hF => ?_))
    | (refine CallX.o hF R_tidegateref05_Same (fun a h => con_tidegateref05_Same h) (fun a hF => ?_))
    | (refine CallX.o hF R_tidegateref05_Same (fun a h => Con.sub (by repeat' first | exact Sub.nil _ | exact Sub.refl _ | refine Sub.agg ?_ | refine Sub.tup ?_ | refine Sub.fn ?_ | exact SubL.nil | refine SubL.cons ?_ ?_ | refine Sub.sl _ ?_ | exact SubE.nil | refine SubE.cons ?_ ?_) (con_tidegateref05_Same h)) (fun a hF => ?_))
    | (refine And.intro ⟨by kernel_rfl, by kernel_rfl⟩ ?_)
    | (refine EqX.mk (by first | rfl | kernel_rfl) ?_)
    | (exact RetX.o hF (by repeat' first | exact Sub.nil _ | exact Sub.refl _ | refine Sub.agg ?_ | refine Sub.tup ?_ | refine Sub.fn ?_ | exact SubL.nil | refine SubL.cons ?_ ?_ | refine Sub.sl _ ?_ | exact SubE.nil | refine SubE.cons ?_ ?_))

end Go.Proofs.Ytkbopbgcjfcjjaa
namespace Go.Proofs.Ytkbopbgcjfcjjaa
open Go.RowKit
end Go.Proofs.Ytkbopbgcjfcjjaa
namespace Go.Proofs.Ytkbopbgcjfcjjaa
open Go.RowKit

end Go.Proofs.Ytkbopbgcjfcjjaa
namespace Go.Proofs.Ytkbopbgcjfcjjaa
open Go.RowKit

end Go.Proofs.Ytkbopbgcjfcjjaa
