/- What some functions compute, over plain values. Printed by a program of mine (gen_fun.lean). -/
import Derived.Test.YthhnhajldhnfmaaH36C
set_option linter.unusedVariables false
set_option linter.unusedSimpArgs false
set_option maxRecDepth 100000
set_option maxHeartbeats 8000000
namespace Go.Proofs.Ythhnhajldhnfmaa
open Go.RowKit
theorem con_tidegateref34_Few {n : Nat} {a0 : Trk} {r : Bool} (hF : F_tidegateref34_Few n a0 = some r) : Con E0 true 15 [.agg [aI (a0.next), .sl 1 (List.map aI (a0.beyond)), .sl 2 (List.map aPt (a0.points)), aI (a0.mark)]] (R_tidegateref34_Few r) := by
  unfold F_tidegateref34_Few at hF
  refine Con.walk _ Try.func15 rfl (enters_of Try.func15 rfl rfl) rfl (Or.inr rfl) ?_
  repeat' first
    | (refine AW.step ?_; conv => whnf)
    | (refine CondX.o hF (fun hF => ?_) (fun hF => ?_))
    | (refine CondX.t ?_)
    | (refine CondX.f ?_)
    | (refine And.intro ⟨by kernel_rfl, by kernel_rfl⟩ ?_)
    | (refine EqX.mk (by first | rfl | kernel_rfl) ?_)
    | (exact RetX.o hF (by repeat' first | exact Sub.nil _ | exact Sub.refl _ | refine Sub.agg ?_ | refine Sub.tup ?_ | refine Sub.fn ?_ | exact SubL.nil | refine SubL.cons ?_ ?_ | refine Sub.sl _ ?_ | exact SubE.nil | refine SubE.cons ?_ ?_))

def S_tidegateref36_Few_l1 (a0 : (List Trk)) (v1_0 : Int) : AS := ⟨[(0, .sl 4 (List.map aTrk (a0))), (3, aI (v1_0))], []⟩
theorem tidegateref36_Few_l1_o {n N : Nat} {a0 : (List Trk)} {k1_0_0 : Option (Bool)} {R : Exit → AS → Prop} {K : List KItem} {c : Code} {σ : AS} {v0 : Int} {r : Bool} (hF : F_tidegateref36_Few_l1 n a0 k1_0_0 N v0 = some r) (hl : LeX E0 23 σ (S_tidegateref36_Few_l1 a0 v0)) (round : ∀ m v, F_tidegateref36_Few_l1 n a0 k1_0_0 (m + 1) v = some r → AW E0 23 (thenA (fun σ' => ∃ v', F_tidegateref36_Few_l1 n a0 k1_0_0 m v' = some r ∧ LeX E0 23 σ' (S_tidegateref36_Few_l1 a0 v')) (AW E0 23 R K)) [.code c] .normal (S_tidegateref36_Few_l1 a0 v)) : LoopX E0 23 (fun next σ' => AW E0 23 (thenA next (AW E0 23 R K)) [.code c] .normal σ') σ :=
  LoopA.o (S := S_tidegateref36_Few_l1 a0) hF (fun _ => rfl) hl round
def R_tidegateref36_Few (r : Bool) : AV := .bool (r)
theorem con_tidegateref36_Few {n : Nat} {a0 : (List Trk)} {r : Bool} (hF : F_tidegateref36_Few n a0 = some r) : Con E0 true 27 [.sl 4 (List.map aTrk (a0))] (R_tidegateref36_Few r) := by
  unfold F_tidegateref36_Few at hF
  refine Con.walk _ Try.func27 rfl (enters_of Try.func27 rfl rfl) rfl (Or.inr rfl) ?_
  repeat' first
    | (refine AW.step ?_; conv => whnf)
    | (refine CondX.o hF (fun hF => ?_) (fun hF => ?_))
    | (refine CondX.t ?_)
    | (refine CondX.f ?_)
    | (refine IdxX.o aTrk hF (fun x hF => ?_))
    | (refine CallX.o hF R_tidegateref34_Few (fun a h => con_tidegateref34_Few h) (fun a hF => ?_))
    | (exact ⟨_, hF, LeX.of [] rfl ⟨⟨rfl, rfl⟩, ⟨rfl, rfl⟩, trivial⟩ trivial⟩)
    | (refine tidegateref36_Few_l1_o hF (LeX.of [] rfl ⟨⟨rfl, rfl⟩, ⟨rfl, rfl⟩, trivial⟩ trivial) (fun m v hF => ?_); unfold F_tidegateref36_Few_l1 at hF)
    | (refine And.intro ⟨by kernel_rfl, by kernel_rfl⟩ ?_)
    | (refine EqX.mk (by first | rfl | kernel_rfl) ?_)
    | (exact RetX.o hF (by repeat' first | exact Sub.nil _ | exact Sub.refl _ | refine Sub.agg ?_ | refine Sub.tup ?_ | refine Sub.fn ?_ | exact SubL.nil | refine SubL.cons ?_ ?_ | refine Sub.sl _ ?_ | exact SubE.nil | refine SubE.cons ?_ ?_))

def R_tidegatelaw36_event (r : T_api_Message) : AV := .agg [aI (r.fKind), aI (r.fEvent.fSource), aI (r.fEvent.fSeq), aI (r.fEvent.fType), aI (r.fEvent.fTime), .sl 3 (List.map e_api_Value (r.fEvent.fValues)), aI (r.fSource), aI (r.fSeq), aI (r.fTime)]
theorem con_tidegatelaw36_event {n : Nat} {a0 : Int} {a1 : Int} {a2 : Int} {r : T_api_Message} (hF : F_tidegatelaw36_event n a0 a1 a2 = some r) : Con E0 false 47 [aI (a0), aI (a1), aI (a2)] (R_tidegatelaw36_event r) := by
  unfold F_tidegatelaw36_event at hF
  refine Con.walk _ Try.func47 rfl (enters_of Try.func47 rfl rfl) rfl (Or.inl rfl) ?_
  repeat' first
    | (refine AW.step ?_; conv => whnf)
    | (refine CondX.o hF (fun hF => ?_) (fun hF => ?_))
    | (refine CondX.t ?_)
    | (refine CondX.f ?_)
    | (refine And.intro ⟨by kernel_rfl, by kernel_rfl⟩ ?_)
    | (refine EqX.mk (by first | rfl | kernel_rfl) ?_)
    | (exact RetX.o hF (by repeat' first | exact Sub.nil _ | exact Sub.refl _ | refine Sub.agg ?_ | refine Sub.tup ?_ | refine Sub.fn ?_ | exact SubL.nil | refine SubL.cons ?_ ?_ | refine Sub.sl _ ?_ | exact SubE.nil | refine SubE.cons ?_ ?_))

def R_tidegatelaw36_promise (r : T_api_Message) : AV := .agg [aI (r.fKind), aI (r.fEvent.fSource), aI (r.fEvent.fSeq), aI (r.fEvent.fType), aI (r.fEvent.fTime), .sl 3 (List.map e_api_Value (r.fEvent.fValues)), aI (r.fSource), aI (r.fSeq), aI (r.fTime)]
theorem con_tidegatelaw36_promise {n : Nat} {a0 : Int} {a1 : Int} {a2 : Int} {r : T_api_Message} (hF : F_tidegatelaw36_promise n a0 a1 a2 = some r) : Con E0 false 67 [aI (a0), aI (a1), aI (a2)] (R_tidegatelaw36_promise r) := by
  unfold F_tidegatelaw36_promise at hF
  refine Con.walk _ Try.func67 rfl (enters_of Try.func67 rfl rfl) rfl (Or.inl rfl) ?_
  repeat' first
    | (refine AW.step ?_; conv => whnf)
    | (refine CondX.o hF (fun hF => ?_) (fun hF => ?_))
    | (refine CondX.t ?_)
    | (refine CondX.f ?_)
    | (refine And.intro ⟨by kernel_rfl, by kernel_rfl⟩ ?_)
    | (refine EqX.mk (by first | rfl | kernel_rfl) ?_)
    | (exact RetX.o hF (by repeat' first | exact Sub.nil _ | exact Sub.refl _ | refine Sub.agg ?_ | refine Sub.tup ?_ | refine Sub.fn ?_ | exact SubL.nil | refine SubL.cons ?_ ?_ | refine Sub.sl _ ?_ | exact SubE.nil | refine SubE.cons ?_ ?_))

def R_tidegatelaw36_awake (r : Bool) : AV := .bool (r)
theorem con_tidegatelaw36_awake {n : Nat} {r : Bool} (hF : F_tidegatelaw36_awake n = some r) : Con E0 true 28 [] (R_tidegatelaw36_awake r) := by
  unfold F_tidegatelaw36_awake at hF
  refine Con.walk _ Try.func28 rfl (enters_of Try.func28 rfl rfl) rfl (Or.inr rfl) ?_
  repeat' first
    | (refine AW.step ?_; conv => whnf)
    | (refine CondX.o hF (fun hF => ?_) (fun hF => ?_))
    | (refine CondX.t ?_)
    | (refine CondX.f ?_)
    | (refine CallX.o hF R_tidegatelaw36_event (fun a h => con_tidegatelaw36_event h) (fun a hF => ?_))
    | (refine CallX.o hF R_tidegatelaw36_promise (fun a h => con_tidegatelaw36_promise h) (fun a hF => ?_))
    | (refine CallX.o hF R_watermark_Run (fun a h => con_watermark_Run h) (fun a hF => ?_))
    | (refine CallX.o hF R_watermark_Global (fun a h => con_watermark_Global h) (fun a hF => ?_))
    | (refine CallX.o hF R_watermark_Missing (fun a h => con_watermark_Missing h) (fun a hF => ?_))
    | (refine CallX.o hF R_tidegateref34_SameGaps (fun a h => con_tidegateref34_SameGaps h) (fun a hF => ?_))
    | (refine CallX.o hF R_tidegateref36_SameBools (fun a h => con_tidegateref36_SameBools h) (fun a hF => ?_))
    | (refine CallX.o hF R_watermark_Receive (fun a h => con_watermark_Receive h) (fun a hF => ?_))
    | (refine CallX.o hF R_watermark_Global (fun a h => Con.sub (by repeat' first | exact Sub.nil _ | exact Sub.refl _ | refine Sub.agg ?_ | refine Sub.tup ?_ | refine Sub.fn ?_ | exact SubL.nil | refine SubL.cons ?_ ?_ | refine Sub.sl _ ?_ | exact SubE.nil | refine SubE.cons ?_ ?_) (con_watermark_Global h)) (fun a hF => ?_))
    | (refine CallX.o hF R_tidegateref36_Same (fun a h => con_tidegateref36_Same h) (fun a hF => ?_))
    | (refine And.intro ⟨by kernel_rfl, by kernel_rfl⟩ ?_)
    | (refine EqX.mk (by first | rfl | kernel_rfl) ?_)
    | (exact RetX.o hF (by repeat' first | exact Sub.nil _ | exact Sub.refl _ | refine Sub.agg ?_ | refine Sub.tup ?_ | refine Sub.fn ?_ | exact SubL.nil | refine SubL.cons ?_ ?_ | refine Sub.sl _ ?_ | exact SubE.nil | refine SubE.cons ?_ ?_))

def R_tidegatelaw36_WatermarkReceives (r : Bool) : AV := .bool (r)
theorem con_tidegatelaw36_WatermarkReceives {n : Nat} {a0 : (List Trk)} {a1 : T_api_Message} {r : Bool} (hF : F_tidegatelaw36_WatermarkReceives n a0 a1 = some r) : Con E0 true 8 [.sl 4 (List.map aTrk (a0)), .agg [aI (a1.fKind), aI (a1.fEvent.fSource), aI (a1.fEvent.fSeq), aI (a1.fEvent.fType), aI (a1.fEvent.fTime), .sl 3 (List.map e_api_Value (a1.fEvent.fValues)), aI (a1.fSource), aI (a1.fSeq), aI (a1.fTime)]] (R_tidegatelaw36_WatermarkReceives r) := by
  unfold F_tidegatelaw36_WatermarkReceives at hF
  refine Con.walk _ Try.func8 rfl (enters_of Try.func8 rfl rfl) rfl (Or.inr rfl) ?_
  repeat' first
    | (refine AW.step ?_; conv => whnf)
    | (refine CondX.o hF (fun hF => ?_) (fun hF => ?_))
    | (refine CondX.t ?_)
    | (refine CondX.f ?_)
    | (refine CallX.o hF R_tidegateref36_Few (fun a h => con_tidegateref36_Few h) (fun a hF => ?_))
    | (refine CallX.o hF R_tidegatelaw36_awake (fun a h => con_tidegatelaw36_awake h) (fun a hF => ?_))
    | (refine CallX.o hF R_watermark_Receive (fun a h => con_watermark_Receive h) (fun a hF => ?_))
    | (refine CallX.o hF R_tidegateref36_Receive (fun a h => con_tidegateref36_Receive h) (fun a hF => ?_))
    | (refine CallX.o hF R_tidegateref36_Same (fun a h => con_tidegateref36_Same h) (fun a hF => ?_))
    | (refine CallX.o hF R_watermark_Check (fun a h => con_watermark_Check h) (fun a hF => ?_))
    | (refine CallX.o hF R_tidegateref36_Check (fun a h => con_tidegateref36_Check h) (fun a hF => ?_))
    | (refine CallX.o hF R_watermark_CheckMessage (fun a h => con_watermark_CheckMessage h) (fun a hF => ?_))
    | (refine CallX.o hF R_tidegateref36_CheckMessage (fun a h => con_tidegateref36_CheckMessage h) (fun a hF => ?_))
    | (refine And.intro ⟨by kernel_rfl, by kernel_rfl⟩ ?_)
    | (refine EqX.mk (by first | rfl | kernel_rfl) ?_)
    | (exact RetX.o hF (by repeat' first | exact Sub.nil _ | exact Sub.refl _ | refine Sub.agg ?_ | refine Sub.tup ?_ | refine Sub.fn ?_ | exact SubL.nil | refine SubL.cons ?_ ?_ | refine Sub.sl _ ?_ | exact SubE.nil | refine SubE.cons ?_ ?_))

def R_tidegatelaw36_WatermarkLooks (r : Bool) : AV := .bool (r)
theorem con_tidegatelaw36_WatermarkLooks {n : Nat} {a0 : (List Trk)} {r : Bool} (hF : F_tidegatelaw36_WatermarkLooks n a0 = some r) : Con E0 true 9 [.sl 4 (List.map aTrk (a0))] (R_tidegatelaw36_WatermarkLooks r) := by
  unfold F_tidegatelaw36_WatermarkLooks at hF
  refine Con.walk _ Try.func9 rfl (enters_of Try.func9 rfl rfl) rfl (Or.inr rfl) ?_
  repeat' first
    | (refine AW.step ?_; conv => whnf)
    | (refine CondX.o hF (fun hF => ?_) (fun hF => ?_))
    | (refine CondX.t ?_)
    | (refine CondX.f ?_)
    | (refine CallX.o hF R_tidegateref36_Few (fun a h => con_tidegateref36_Few h) (fun a hF => ?_))
    | (refine CallX.o hF R_tidegatelaw36_awake (fun a h => con_tidegatelaw36_awake h) (fun a hF => ?_))
    | (refine CallX.o hF R_watermark_Global (fun a h => con_watermark_Global h) (fun a hF => ?_))
    | (refine CallX.o hF R_tidegateref36_Global (fun a h => con_tidegateref36_Global h) (fun a hF => ?_))
    | (refine CallX.o hF R_watermark_Missing (fun a h => con_watermark_Missing h) (fun a hF => ?_))
    | (refine CallX.o hF R_tidegateref36_Missing (fun a h => con_tidegateref36_Missing h) (fun a hF => ?_))
    | (refine CallX.o hF R_tidegateref34_SameGaps (fun a h => con_tidegateref34_SameGaps h) (fun a hF => ?_))
    | (refine And.intro ⟨by kernel_rfl, by kernel_rfl⟩ ?_)
    | (refine EqX.mk (by first | rfl | kernel_rfl) ?_)
    | (exact RetX.o hF (by repeat' first | exact Sub.nil _ | exact Sub.refl _ | refine Sub.agg ?_ | refine Sub.tup ?_ | refine Sub.fn ?_ | exact SubL.nil | refine SubL.cons ?_ ?_ | refine Sub.sl _ ?_ | exact SubE.nil | refine SubE.cons ?_ ?_))

def R_tidegatelaw36_WatermarkRuns (r : Bool) : AV := .bool (r)
theorem con_tidegatelaw36_WatermarkRuns {n : Nat} {a0 : Int} {a1 : (List T_api_Message)} {r : Bool} (hF : F_tidegatelaw36_WatermarkRuns n a0 a1 = some r) : Con E0 true 10 [aI (a0), .sl 9 (List.map e_api_Message (a1))] (R_tidegatelaw36_WatermarkRuns r) := by
  unfold F_tidegatelaw36_WatermarkRuns at hF
  refine Con.walk _ Try.func10 rfl (enters_of Try.func10 rfl rfl) rfl (Or.inr rfl) ?_
  repeat' first
    | (refine AW.step ?_; conv => whnf)
    | (refine CondX.o hF (fun hF => ?_) (fun hF => ?_))
    | (refine CondX.t ?_)
    | (refine CondX.f ?_)
    | (refine CallX.o hF R_tidegatelaw36_awake (fun a h => con_tidegatelaw36_awake h) (fun a hF => ?_))
    | (refine CallX.o hF R_watermark_Begin (fun a h => con_watermark_Begin h) (fun a hF => ?_))
    | (refine CallX.o hF R_tidegateref36_Begin (fun a h => con_tidegateref36_Begin h) (fun a hF => ?_))
    | (refine CallX.o hF R_watermark_Run (fun a h => con_watermark_Run h) (fun a hF => ?_))
    | (refine CallX.o hF R_tidegateref36_Run (fun a h => con_tidegateref36_Run h) (fun a hF => ?_))
    | (refine CallX.o hF R_tidegateref36_Same (fun a h => con_tidegateref36_Same h) (fun a hF => ?_))
    | (refine CallX.o hF R_tidegateref36_SameBools (fun a h => con_tidegateref36_SameBools h) (fun a hF => ?_))
    | (refine And.intro ⟨by kernel_rfl, by kernel_rfl⟩ ?_)
    | (refine EqX.mk (by first | rfl | kernel_rfl) ?_)
    | (exact RetX.o hF (by repeat' first | exact Sub.nil _ | exact Sub.refl _ | refine Sub.agg ?_ | refine Sub.tup ?_ | refine Sub.fn ?_ | exact SubL.nil | refine SubL.cons ?_ ?_ | refine Sub.sl _ ?_ | exact SubE.nil | refine SubE.cons ?_ ?_))

def S_tidegatelaw36_WatermarkCommutes_l4 (k2_1_0y : (List T_api_Message)) (v3_2 : (List Bool) × Int) (v4_3 : Bool × Int) : AS := ⟨[(5, .sl 9 (List.map e_api_Message (k2_1_0y))), (12, .sl 1 (List.map AV.bool (v3_2.1))), (14, aI (v3_2.2)), (15, .bool (v4_3.1)), (16, aI (v4_3.2))], []⟩
theorem tidegatelaw36_WatermarkCommutes_l4_o {n N : Nat} {k2_1_0y : (List T_api_Message)} {v3_2 : (List Bool) × Int} {k4_3_0 : Bool → Option (Bool)} {R : Exit → AS → Prop} {K : List KItem} {c : Code} {σ : AS} {v0 : Bool × Int} {r : Bool} (hF : F_tidegatelaw36_WatermarkCommutes_l4 n k2_1_0y v3_2 k4_3_0 N v0 = some r) (hl : LeX E0 168 σ (S_tidegatelaw36_WatermarkCommutes_l4 k2_1_0y v3_2 v0)) (round : ∀ m v, F_tidegatelaw36_WatermarkCommutes_l4 n k2_1_0y v3_2 k4_3_0 (m + 1) v = some r → AW E0 168 (thenA (fun σ' => ∃ v', F_tidegatelaw36_WatermarkCommutes_l4 n k2_1_0y v3_2 k4_3_0 m v' = some r ∧ LeX E0 168 σ' (S_tidegatelaw36_WatermarkCommutes_l4 k2_1_0y v3_2 v')) (AW E0 168 R K)) [.code c] .normal (S_tidegatelaw36_WatermarkCommutes_l4 k2_1_0y v3_2 v)) : LoopX E0 168 (fun next σ' => AW E0 168 (thenA next (AW E0 168 R K)) [.code c] .normal σ') σ :=
  LoopA.o (S := S_tidegatelaw36_WatermarkCommutes_l4 k2_1_0y v3_2) hF (fun _ => rfl) hl round
def S_tidegatelaw36_WatermarkCommutes_l3 (k2_1_0y : (List T_api_Message)) (v3_2 : (List Bool) × Int) : AS := ⟨[(5, .sl 9 (List.map e_api_Message (k2_1_0y))), (12, .sl 1 (List.map AV.bool (v3_2.1))), (14, aI (v3_2.2))], []⟩
theorem tidegatelaw36_WatermarkCommutes_l3_o {n N : Nat} {k2_1_0y : (List T_api_Message)} {k3_2_0 : Option (Bool)} {R : Exit → AS → Prop} {K : List KItem} {c : Code} {σ : AS} {v0 : (List Bool) × Int} {r : Bool} (hF : F_tidegatelaw36_WatermarkCommutes_l3 n k2_1_0y k3_2_0 N v0 = some r) (hl : LeX E0 168 σ (S_tidegatelaw36_WatermarkCommutes_l3 k2_1_0y v0)) (round : ∀ m v, F_tidegatelaw36_WatermarkCommutes_l3 n k2_1_0y k3_2_0 (m + 1) v = some r → AW E0 168 (thenA (fun σ' => ∃ v', F_tidegatelaw36_WatermarkCommutes_l3 n k2_1_0y k3_2_0 m v' = some r ∧ LeX E0 168 σ' (S_tidegatelaw36_WatermarkCommutes_l3 k2_1_0y v')) (AW E0 168 R K)) [.code c] .normal (S_tidegatelaw36_WatermarkCommutes_l3 k2_1_0y v)) : LoopX E0 168 (fun next σ' => AW E0 168 (thenA next (AW E0 168 R K)) [.code c] .normal σ') σ :=
  LoopA.o (S := S_tidegatelaw36_WatermarkCommutes_l3 k2_1_0y) hF (fun _ => rfl) hl round
def S_tidegatelaw36_WatermarkCommutes_l2 (a0 : (List T_api_Message)) (v2_1 : Int × (List T_api_Message)) : AS := ⟨[(0, .sl 9 (List.map e_api_Message (a0))), (5, .row 7000), (7, aI (v2_1.1))], [(7000, .row 55 9 (List.map e_api_Message (v2_1.2)))]⟩
theorem tidegatelaw36_WatermarkCommutes_l2_o {n N : Nat} {a0 : (List T_api_Message)} {k2_1_0 : (List T_api_Message) → Option (Bool)} {R : Exit → AS → Prop} {K : List KItem} {c : Code} {σ : AS} {v0 : Int × (List T_api_Message)} {r : Bool} (hF : F_tidegatelaw36_WatermarkCommutes_l2 n a0 k2_1_0 N v0 = some r) (hl : LeX E0 168 σ (S_tidegatelaw36_WatermarkCommutes_l2 a0 v0)) (round : ∀ m v, F_tidegatelaw36_WatermarkCommutes_l2 n a0 k2_1_0 (m + 1) v = some r → AW E0 168 (thenA (fun σ' => ∃ v', F_tidegatelaw36_WatermarkCommutes_l2 n a0 k2_1_0 m v' = some r ∧ LeX E0 168 σ' (S_tidegatelaw36_WatermarkCommutes_l2 a0 v')) (AW E0 168 R K)) [.code c] .normal (S_tidegatelaw36_WatermarkCommutes_l2 a0 v)) : LoopX E0 168 (fun next σ' => AW E0 168 (thenA next (AW E0 168 R K)) [.code c] .normal σ') σ :=
  LoopA.o (S := S_tidegatelaw36_WatermarkCommutes_l2 a0) hF (fun _ => rfl) hl round
def S_tidegatelaw36_WatermarkCommutes_l1 (a1 : (List Int)) (a0 : (List T_api_Message)) (v1_0 : Int × (List T_api_Message)) : AS := ⟨[(0, .sl 9 (List.map e_api_Message (a0))), (1, .sl 1 (List.map (AV.int .u8) (a1))), (5, .row 7000), (6, aI (v1_0.1))], [(7000, .row 55 9 (List.map e_api_Message (v1_0.2)))]⟩
theorem tidegatelaw36_WatermarkCommutes_l1_o {n N : Nat} {a1 : (List Int)} {a0 : (List T_api_Message)} {k1_0_0 : (List T_api_Message) → Option (Bool)} {R : Exit → AS → Prop} {K : List KItem} {c : Code} {σ : AS} {v0 : Int × (List T_api_Message)} {r : Bool} (hF : F_tidegatelaw36_WatermarkCommutes_l1 n a1 a0 k1_0_0 N v0 = some r) (hl : LeX E0 168 σ (S_tidegatelaw36_WatermarkCommutes_l1 a1 a0 v0)) (round : ∀ m v, F_tidegatelaw36_WatermarkCommutes_l1 n a1 a0 k1_0_0 (m + 1) v = some r → AW E0 168 (thenA (fun σ' => ∃ v', F_tidegatelaw36_WatermarkCommutes_l1 n a1 a0 k1_0_0 m v' = some r ∧ LeX E0 168 σ' (S_tidegatelaw36_WatermarkCommutes_l1 a1 a0 v')) (AW E0 168 R K)) [.code c] .normal (S_tidegatelaw36_WatermarkCommutes_l1 a1 a0 v)) : LoopX E0 168 (fun next σ' => AW E0 168 (thenA next (AW E0 168 R K)) [.code c] .normal σ') σ :=
  LoopA.o (S := S_tidegatelaw36_WatermarkCommutes_l1 a1 a0) hF (fun _ => rfl) hl round
def R_tidegatelaw36_WatermarkCommutes (r : Bool) : AV := .bool (r)
theorem con_tidegatelaw36_WatermarkCommutes {n : Nat} {a0 : (List T_api_Message)} {a1 : (List Int)} {r : Bool} (hF : F_tidegatelaw36_WatermarkCommutes n a0 a1 = some r) : Con E0 true 11 [.sl 9 (List.map e_api_Message (a0)), .sl 1 (List.map (AV.int .u8) (a1))] (R_tidegatelaw36_WatermarkCommutes r) := by
  unfold F_tidegatelaw36_WatermarkCommutes at hF
  refine Con.walk _ Try.func11 rfl (enters_of Try.func11 rfl rfl) rfl (Or.inr rfl) ?_
  repeat' first
    | (refine AW.regO hF (fun hF => ?_))
    | (refine AW.frzO hF 7000 rfl (fun hF => ?_))
    | (refine AW.stepU [13] ?_; conv => whnf)
    | (refine CondX.o hF (fun hF => ?_) (fun hF => ?_))
    | (refine CondX.t ?_)
    | (refine CondX.f ?_)
    | (refine CallX.o hF R_tidegatelaw36_awake (fun a h => con_tidegatelaw36_awake h) (fun a hF => ?_))
    | (refine CallX.o hF R_tidegateref36_Honest (fun a h => con_tidegateref36_Honest h) (fun a hF => ?_))
    | (refine CallX.o hF R_watermark_Run (fun a h => con_watermark_Run h) (fun a hF => ?_))
    | (refine CallX.o hF R_tidegateref36_Same (fun a h => con_tidegateref36_Same h) (fun a hF => ?_))
    | (refine IdxX.o e_api_Message hF (fun x hF => ?_))
    | (refine IdxX.o AV.bool hF (fun x hF => ?_))
    | (exact ⟨_, hF, LeX.of [] rfl ⟨⟨rfl, rfl⟩, ⟨rfl, rfl⟩, ⟨rfl, rfl⟩, trivial⟩ trivial⟩)
    | (exact ⟨_, hF, LeX.of [] rfl ⟨⟨rfl, rfl⟩, ⟨rfl, rfl⟩, ⟨rfl, rfl⟩, ⟨rfl, rfl⟩, ⟨rfl, rfl⟩, trivial⟩ trivial⟩)
    | (refine tidegatelaw36_WatermarkCommutes_l4_o hF (LeX.of [] rfl ⟨⟨rfl, rfl⟩, ⟨rfl, rfl⟩, ⟨rfl, rfl⟩, ⟨rfl, rfl⟩, ⟨rfl, rfl⟩, trivial⟩ trivial) (fun m v hF => ?_); unfold F_tidegatelaw36_WatermarkCommutes_l4 at hF)
    | (refine tidegatelaw36_WatermarkCommutes_l3_o hF (LeX.of [] rfl ⟨⟨rfl, rfl⟩, ⟨rfl, rfl⟩, ⟨rfl, rfl⟩, trivial⟩ trivial) (fun m v hF => ?_); unfold F_tidegatelaw36_WatermarkCommutes_l3 at hF)
    | (refine AppX.o e_api_Message hF (by first | exact SubR.refl _ | (repeat' first | exact SubR.nil | refine SubR.cons ?_ ?_ | exact SubL.nil | refine SubL.cons ?_ ?_ | exact Sub.refl _ | exact Sub.nil _)) (fun l hF => ?_))
    | (exact ⟨_, hF, LeX.of [(7000, 69)] rfl ⟨⟨rfl, rfl⟩, ⟨rfl, rfl⟩, ⟨rfl, rfl⟩, trivial⟩ ⟨⟨rfl, rfl⟩, trivial⟩⟩)
    | (refine tidegatelaw36_WatermarkCommutes_l2_o hF (LeX.of [] rfl ⟨⟨rfl, rfl⟩, ⟨rfl, rfl⟩, ⟨rfl, rfl⟩, trivial⟩ ⟨⟨rfl, rfl⟩, trivial⟩) (fun m v hF => ?_); unfold F_tidegatelaw36_WatermarkCommutes_l2 at hF)
    | (refine IdxX.o (AV.int .u8) hF (fun x hF => ?_))
    | (refine NzX.o hF (fun hF => ?_))
    | (exact ⟨_, hF, LeX.of [(7000, 55)] rfl ⟨⟨rfl, rfl⟩, ⟨rfl, rfl⟩, ⟨rfl, rfl⟩, ⟨rfl, rfl⟩, trivial⟩ ⟨⟨rfl, rfl⟩, trivial⟩⟩)
    | (refine tidegatelaw36_WatermarkCommutes_l1_o hF (LeX.trans (LeX.adopt 5 7000 55 9 rfl rfl) (LeX.of [] rfl ⟨⟨rfl, rfl⟩, ⟨rfl, rfl⟩, ⟨rfl, rfl⟩, ⟨rfl, rfl⟩, trivial⟩ ⟨⟨rfl, rfl⟩, trivial⟩)) (fun m v hF => ?_); unfold F_tidegatelaw36_WatermarkCommutes_l1 at hF)
    | (refine And.intro ⟨by kernel_rfl, by kernel_rfl⟩ ?_)
    | (refine EqX.mk (by first | rfl | kernel_rfl) ?_)
    | (exact RetX.o hF (by repeat' first | exact Sub.nil _ | exact Sub.refl _ | refine Sub.agg ?_ | refine Sub.tup ?_ | refine Sub.fn ?_ | exact SubL.nil | refine SubL.cons ?_ ?_ | refine Sub.sl _ ?_ | exact SubE.nil | refine SubE.cons ?_ ?_))

def S_tidegatelaw36_WatermarkCompletes_l1 (a0 : (List T_api_Message)) (x6 : (List Trk) × (List Bool) × Int) (x7 : Int × Int) (v1_0 : Int) : AS := ⟨[(0, .sl 9 (List.map e_api_Message (a0))), (10, .sl 1 (List.map AV.bool (x6.2.1))), (12, aI (x7.1)), (16, aI (v1_0))], []⟩
theorem tidegatelaw36_WatermarkCompletes_l1_o {n N : Nat} {a0 : (List T_api_Message)} {x6 : (List Trk) × (List Bool) × Int} {x7 : Int × Int} {k1_0_0 : Option (Bool)} {R : Exit → AS → Prop} {K : List KItem} {c : Code} {σ : AS} {v0 : Int} {r : Bool} (hF : F_tidegatelaw36_WatermarkCompletes_l1 n a0 x6 x7 k1_0_0 N v0 = some r) (hl : LeX E0 104 σ (S_tidegatelaw36_WatermarkCompletes_l1 a0 x6 x7 v0)) (round : ∀ m v, F_tidegatelaw36_WatermarkCompletes_l1 n a0 x6 x7 k1_0_0 (m + 1) v = some r → AW E0 104 (thenA (fun σ' => ∃ v', F_tidegatelaw36_WatermarkCompletes_l1 n a0 x6 x7 k1_0_0 m v' = some r ∧ LeX E0 104 σ' (S_tidegatelaw36_WatermarkCompletes_l1 a0 x6 x7 v')) (AW E0 104 R K)) [.code c] .normal (S_tidegatelaw36_WatermarkCompletes_l1 a0 x6 x7 v)) : LoopX E0 104 (fun next σ' => AW E0 104 (thenA next (AW E0 104 R K)) [.code c] .normal σ') σ :=
  LoopA.o (S := S_tidegatelaw36_WatermarkCompletes_l1 a0 x6 x7) hF (fun _ => rfl) hl round
def R_tidegatelaw36_WatermarkCompletes (r : Bool) : AV := .bool (r)
theorem con_tidegatelaw36_WatermarkCompletes {n : Nat} {a0 : (List T_api_Message)} {a1 : Int} {r : Bool} (hF : F_tidegatelaw36_WatermarkCompletes n a0 a1 = some r) : Con E0 true 12 [.sl 9 (List.map e_api_Message (a0)), .int .u8 (a1)] (R_tidegatelaw36_WatermarkCompletes r) := by
  unfold F_tidegatelaw36_WatermarkCompletes at hF
  refine Con.walk _ Try.func12 rfl (enters_of Try.func12 rfl rfl) rfl (Or.inr rfl) ?_
  repeat' first
    | (refine AW.step ?_; conv => whnf)
    | (refine CondX.o hF (fun hF => ?_) (fun hF => ?_))
    | (refine CondX.t ?_)
    | (refine CondX.f ?_)
    | (refine CallX.o hF R_tidegatelaw36_awake (fun a h => con_tidegatelaw36_awake h) (fun a hF => ?_))
    | (refine CallX.o hF R_tidegateref36_Honest (fun a h => con_tidegateref36_Honest h) (fun a hF => ?_))
    | (refine NzX.o hF (fun hF => ?_))
    | (refine SlsX.o e_api_Message hF (fun l hF => ?_))
    | (refine CallX.o hF R_watermark_Run (fun a h => con_watermark_Run h) (fun a hF => ?_))
    | (refine CallX.o hF R_watermark_Global (fun a h => con_watermark_Global h) (fun a hF => ?_))
    | (refine IdxX.o AV.bool hF (fun x hF => ?_))
    | (refine IdxX.o e_api_Message hF (fun x hF => ?_))
    | (exact ⟨_, hF, LeX.of [] rfl ⟨⟨rfl, rfl⟩, ⟨rfl, rfl⟩, ⟨rfl, rfl⟩, ⟨rfl, rfl⟩, trivial⟩ trivial⟩)
    | (refine tidegatelaw36_WatermarkCompletes_l1_o hF (LeX.of [] rfl ⟨⟨rfl, rfl⟩, ⟨rfl, rfl⟩, ⟨rfl, rfl⟩, ⟨rfl, rfl⟩, trivial⟩ trivial) (fun m v hF => ?_); unfold F_tidegatelaw36_WatermarkCompletes_l1 at hF)
    | (refine And.intro ⟨by kernel_rfl, by kernel_rfl⟩ ?_)
    | (refine EqX.mk (by first | rfl | kernel_rfl) ?_)
    | (exact RetX.o hF (by repeat' first | exact Sub.nil _ | exact Sub.refl _ | refine Sub.agg ?_ | refine Sub.tup ?_ | refine Sub.fn ?_ | exact SubL.nil | refine SubL.cons ?_ ?_ | refine Sub.sl _ ?_ | exact SubE.nil | refine SubE.cons ?_ ?_))

def S_tidegatelaw36_WatermarkFills_l2 (v1_0 : (List Trk) × Int × (List (Int × Int)) × Int × Int) (v2_1 : (List Trk) × Int) : AS := ⟨[(3, .sl 4 (List.map aTrk (v2_1.1))), (6, aI (v1_0.2.1)), (7, .sl 2 (List.map aIv (v1_0.2.2.1))), (9, aI (v1_0.2.2.2.1)), (10, aI (v1_0.2.2.2.2)), (11, aI (v2_1.2))], []⟩
theorem tidegatelaw36_WatermarkFills_l2_o {n N : Nat} {v1_0 : (List Trk) × Int × (List (Int × Int)) × Int × Int} {k2_1_0 : (List Trk) → Option (Bool)} {R : Exit → AS → Prop} {K : List KItem} {c : Code} {σ : AS} {v0 : (List Trk) × Int} {r : Bool} (hF : F_tidegatelaw36_WatermarkFills_l2 n v1_0 k2_1_0 N v0 = some r) (hl : LeX E0 151 σ (S_tidegatelaw36_WatermarkFills_l2 v1_0 v0)) (round : ∀ m v, F_tidegatelaw36_WatermarkFills_l2 n v1_0 k2_1_0 (m + 1) v = some r → AW E0 151 (thenA (fun σ' => ∃ v', F_tidegatelaw36_WatermarkFills_l2 n v1_0 k2_1_0 m v' = some r ∧ LeX E0 151 σ' (S_tidegatelaw36_WatermarkFills_l2 v1_0 v')) (AW E0 151 R K)) [.code c] .normal (S_tidegatelaw36_WatermarkFills_l2 v1_0 v)) : LoopX E0 151 (fun next σ' => AW E0 151 (thenA next (AW E0 151 R K)) [.code c] .normal σ') σ :=
  LoopA.o (S := S_tidegatelaw36_WatermarkFills_l2 v1_0) hF (fun _ => rfl) hl round
def S_tidegatelaw36_WatermarkFills_l1 (v1_0 : (List Trk) × Int × (List (Int × Int)) × Int × Int) : AS := ⟨[(3, .sl 4 (List.map aTrk (v1_0.1))), (6, aI (v1_0.2.1)), (7, .sl 2 (List.map aIv (v1_0.2.2.1))), (9, aI (v1_0.2.2.2.1)), (10, aI (v1_0.2.2.2.2))], []⟩
theorem tidegatelaw36_WatermarkFills_l1_o {n N : Nat} {k1_0_0 : (List Trk) → Int → (List (Int × Int)) → Int → Option (Bool)} {R : Exit → AS → Prop} {K : List KItem} {c : Code} {σ : AS} {v0 : (List Trk) × Int × (List (Int × Int)) × Int × Int} {r : Bool} (hF : F_tidegatelaw36_WatermarkFills_l1 n k1_0_0 N v0 = some r) (hl : LeX E0 151 σ (S_tidegatelaw36_WatermarkFills_l1 v0)) (round : ∀ m v, F_tidegatelaw36_WatermarkFills_l1 n k1_0_0 (m + 1) v = some r → AW E0 151 (thenA (fun σ' => ∃ v', F_tidegatelaw36_WatermarkFills_l1 n k1_0_0 m v' = some r ∧ LeX E0 151 σ' (S_tidegatelaw36_WatermarkFills_l1 v')) (AW E0 151 R K)) [.code c] .normal (S_tidegatelaw36_WatermarkFills_l1 v)) : LoopX E0 151 (fun next σ' => AW E0 151 (thenA next (AW E0 151 R K)) [.code c] .normal σ') σ :=
  LoopA.o (S := S_tidegatelaw36_WatermarkFills_l1) hF (fun _ => rfl) hl round
def R_tidegatelaw36_WatermarkFills (r : Bool) : AV := .bool (r)
theorem con_tidegatelaw36_WatermarkFills {n : Nat} {a0 : (List T_api_Message)} {r : Bool} (hF : F_tidegatelaw36_WatermarkFills n a0 = some r) : Con E0 true 13 [.sl 9 (List.map e_api_Message (a0))] (R_tidegatelaw36_WatermarkFills r) := by
  unfold F_tidegatelaw36_WatermarkFills at hF
  refine Con.walk _ Try.func13 rfl (enters_of Try.func13 rfl rfl) rfl (Or.inr rfl) ?_
  repeat' first
    | (refine AW.step ?_; conv => whnf)
    | (refine CondX.o hF (fun hF => ?_) (fun hF => ?_))
    | (refine CondX.t ?_)
    | (refine CondX.f ?_)
    | (refine CallX.o hF R_tidegatelaw36_awake (fun a h => con_tidegatelaw36_awake h) (fun a hF => ?_))
    | (refine CallX.o hF R_watermark_Run (fun a h => con_watermark_Run h) (fun a hF => ?_))
    | (refine CallX.o hF R_watermark_Missing (fun a h => con_watermark_Missing h) (fun a hF => ?_))
    | (refine IdxX.o aTrk hF (fun x hF => ?_))
    | (refine IdxX.o aIv hF (fun x hF => ?_))
    | (exact ⟨_, hF, LeX.of [] rfl ⟨⟨rfl, rfl⟩, ⟨rfl, rfl⟩, ⟨rfl, rfl⟩, ⟨rfl, rfl⟩, ⟨rfl, rfl⟩, trivial⟩ trivial⟩)
    | (refine CallX.o hF R_tidegatelaw36_event (fun a h => con_tidegatelaw36_event h) (fun a hF => ?_))
    | (refine CallX.o hF R_watermark_Receive (fun a h => con_watermark_Receive h) (fun a hF => ?_))
    | (exact ⟨_, hF, LeX.of [] rfl ⟨⟨rfl, rfl⟩, ⟨rfl, rfl⟩, ⟨rfl, rfl⟩, ⟨rfl, rfl⟩, ⟨rfl, rfl⟩, ⟨rfl, rfl⟩, trivial⟩ trivial⟩)
    | (refine tidegatelaw36_WatermarkFills_l2_o hF (LeX.of [] rfl ⟨⟨rfl, rfl⟩, ⟨rfl, rfl⟩, ⟨rfl, rfl⟩, ⟨rfl, rfl⟩, ⟨rfl, rfl⟩, ⟨rfl, rfl⟩, trivial⟩ trivial) (fun m v hF => ?_); unfold F_tidegatelaw36_WatermarkFills_l2 at hF)
    | (refine tidegatelaw36_WatermarkFills_l1_o hF (LeX.of [] rfl ⟨⟨rfl, rfl⟩, ⟨rfl, rfl⟩, ⟨rfl, rfl⟩, ⟨rfl, rfl⟩, ⟨rfl, rfl⟩, trivial⟩ trivial) (fun m v hF => ?_); unfold F_tidegatelaw36_WatermarkFills_l1 at hF)
    | (refine And.intro ⟨by kernel_rfl, by kernel_rfl⟩ ?_)
    | (refine EqX.mk (by first | rfl | kernel_rfl) ?_)
    | (exact RetX.o hF (by repeat' first | exact Sub.nil _ | exact Sub.refl _ | refine Sub.agg ?_ | refine Sub.tup ?_ | refine Sub.fn ?_ | exact SubL.nil | refine SubL.cons ?_ ?_ | refine Sub.sl _ ?_ | exact SubE.nil | refine SubE.cons ?_ ?_))

def S_tidegatelaw36_WatermarkSeparates_l1 (a1 : T_api_Message) (x3 : (List Trk) × (List Bool) × Int) (x4 : (List Trk) × Bool × Int) (v1_0 : Int) : AS := ⟨[(3, .ptr 3 0), (5, .sl 4 (List.map aTrk (x3.1))), (8, .sl 4 (List.map aTrk (x4.1))), (9, .bool (x4.2.1)), (11, aI (a1.fEvent.fSource)), (12, aI (v1_0))], [(3, .box 55 [aI (a1.fKind), aI (a1.fEvent.fSource), aI (a1.fEvent.fSeq), aI (a1.fEvent.fType), aI (a1.fEvent.fTime), .sl 3 (List.map e_api_Value (a1.fEvent.fValues)), aI (a1.fSource), aI (a1.fSeq), aI (a1.fTime)])]⟩
theorem tidegatelaw36_WatermarkSeparates_l1_o {n N : Nat} {a1 : T_api_Message} {x3 : (List Trk) × (List Bool) × Int} {x4 : (List Trk) × Bool × Int} {k1_0_0 : Bool → Option (Bool)} {R : Exit → AS → Prop} {K : List KItem} {c : Code} {σ : AS} {v0 : Int} {r : Bool} (hF : F_tidegatelaw36_WatermarkSeparates_l1 n a1 x3 x4 k1_0_0 N v0 = some r) (hl : LeX E0 96 σ (S_tidegatelaw36_WatermarkSeparates_l1 a1 x3 x4 v0)) (round : ∀ m v, F_tidegatelaw36_WatermarkSeparates_l1 n a1 x3 x4 k1_0_0 (m + 1) v = some r → AW E0 96 (thenA (fun σ' => ∃ v', F_tidegatelaw36_WatermarkSeparates_l1 n a1 x3 x4 k1_0_0 m v' = some r ∧ LeX E0 96 σ' (S_tidegatelaw36_WatermarkSeparates_l1 a1 x3 x4 v')) (AW E0 96 R K)) [.code c] .normal (S_tidegatelaw36_WatermarkSeparates_l1 a1 x3 x4 v)) : LoopX E0 96 (fun next σ' => AW E0 96 (thenA next (AW E0 96 R K)) [.code c] .normal σ') σ :=
  LoopA.o (S := S_tidegatelaw36_WatermarkSeparates_l1 a1 x3 x4) hF (fun _ => rfl) hl round
def S_tidegatelaw36_WatermarkSeparates_l2 (a1 : T_api_Message) (x3 : (List Trk) × (List Bool) × Int) (x4 : (List Trk) × Bool × Int) (v2_1 : Int) : AS := ⟨[(3, .ptr 3 0), (5, .sl 4 (List.map aTrk (x3.1))), (8, .sl 4 (List.map aTrk (x4.1))), (9, .bool (x4.2.1)), (11, aI (a1.fSource)), (12, aI (v2_1))], [(3, .box 55 [aI (a1.fKind), aI (a1.fEvent.fSource), aI (a1.fEvent.fSeq), aI (a1.fEvent.fType), aI (a1.fEvent.fTime), .sl 3 (List.map e_api_Value (a1.fEvent.fValues)), aI (a1.fSource), aI (a1.fSeq), aI (a1.fTime)])]⟩
theorem tidegatelaw36_WatermarkSeparates_l2_o {n N : Nat} {a1 : T_api_Message} {x3 : (List Trk) × (List Bool) × Int} {x4 : (List Trk) × Bool × Int} {k2_1_0 : Bool → Option (Bool)} {R : Exit → AS → Prop} {K : List KItem} {c : Code} {σ : AS} {v0 : Int} {r : Bool} (hF : F_tidegatelaw36_WatermarkSeparates_l2 n a1 x3 x4 k2_1_0 N v0 = some r) (hl : LeX E0 96 σ (S_tidegatelaw36_WatermarkSeparates_l2 a1 x3 x4 v0)) (round : ∀ m v, F_tidegatelaw36_WatermarkSeparates_l2 n a1 x3 x4 k2_1_0 (m + 1) v = some r → AW E0 96 (thenA (fun σ' => ∃ v', F_tidegatelaw36_WatermarkSeparates_l2 n a1 x3 x4 k2_1_0 m v' = some r ∧ LeX E0 96 σ' (S_tidegatelaw36_WatermarkSeparates_l2 a1 x3 x4 v')) (AW E0 96 R K)) [.code c] .normal (S_tidegatelaw36_WatermarkSeparates_l2 a1 x3 x4 v)) : LoopX E0 96 (fun next σ' => AW E0 96 (thenA next (AW E0 96 R K)) [.code c] .normal σ') σ :=
  LoopA.o (S := S_tidegatelaw36_WatermarkSeparates_l2 a1 x3 x4) hF (fun _ => rfl) hl round
def R_tidegatelaw36_WatermarkSeparates (r : Bool) : AV := .bool (r)
theorem con_tidegatelaw36_WatermarkSeparates {n : Nat} {a0 : (List T_api_Message)} {a1 : T_api_Message} {r : Bool} (hF : F_tidegatelaw36_WatermarkSeparates n a0 a1 = some r) : Con E0 true 14 [.sl 9 (List.map e_api_Message (a0)), .agg [aI (a1.fKind), aI (a1.fEvent.fSource), aI (a1.fEvent.fSeq), aI (a1.fEvent.fType), aI (a1.fEvent.fTime), .sl 3 (List.map e_api_Value (a1.fEvent.fValues)), aI (a1.fSource), aI (a1.fSeq), aI (a1.fTime)]] (R_tidegatelaw36_WatermarkSeparates r) := by
  unfold F_tidegatelaw36_WatermarkSeparates at hF
  refine Con.walk _ Try.func14 rfl (enters_of Try.func14 rfl rfl) rfl (Or.inr rfl) ?_
  repeat' first
    | (refine AW.step ?_; conv => whnf)
    | (refine CondX.o hF (fun hF => ?_) (fun hF => ?_))
    | (refine CondX.t ?_)
    | (refine CondX.f ?_)
    | (refine CallX.o hF R_tidegatelaw36_awake (fun a h => con_tidegatelaw36_awake h) (fun a hF => ?_))
    | (refine CallX.o hF R_watermark_Run (fun a h => con_watermark_Run h) (fun a hF => ?_))
    | (refine CallX.o hF R_watermark_Receive (fun a h => con_watermark_Receive h) (fun a hF => ?_))
    | (refine IdxX.o aTrk hF (fun x hF => ?_))
    | (refine CallX.o hF R_trkSame (fun a h => con_trkSame h) (fun a hF => ?_))
    | (exact ⟨_, hF, LeX.of [] rfl ⟨⟨rfl, rfl⟩, ⟨rfl, rfl⟩, ⟨rfl, rfl⟩, ⟨rfl, rfl⟩, ⟨rfl, rfl⟩, ⟨rfl, rfl⟩, trivial⟩ ⟨⟨rfl, rfl⟩, trivial⟩⟩)
    | (refine tidegatelaw36_WatermarkSeparates_l1_o hF (LeX.of [] rfl ⟨⟨rfl, rfl⟩, ⟨rfl, rfl⟩, ⟨rfl, rfl⟩, ⟨rfl, rfl⟩, ⟨rfl, rfl⟩, ⟨rfl, rfl⟩, trivial⟩ ⟨⟨rfl, rfl⟩, trivial⟩) (fun m v hF => ?_); unfold F_tidegatelaw36_WatermarkSeparates_l1 at hF)
    | (refine tidegatelaw36_WatermarkSeparates_l2_o hF (LeX.of [] rfl ⟨⟨rfl, rfl⟩, ⟨rfl, rfl⟩, ⟨rfl, rfl⟩, ⟨rfl, rfl⟩, ⟨rfl, rfl⟩, ⟨rfl, rfl⟩, trivial⟩ ⟨⟨rfl, rfl⟩, trivial⟩) (fun m v hF => ?_); unfold F_tidegatelaw36_WatermarkSeparates_l2 at hF)
    | (refine And.intro ⟨by kernel_rfl, by kernel_rfl⟩ ?_)
    | (refine EqX.mk (by first | rfl | kernel_rfl) ?_)
    | (exact RetX.o hF (by repeat' first | exact Sub.nil _ | exact Sub.refl _ | refine Sub.agg ?_ | refine Sub.tup ?_ | refine Sub.fn ?_ | exact SubL.nil | refine SubL.cons ?_ ?_ | refine Sub.sl _ ?_ | exact SubE.nil | refine SubE.cons ?_ ?_))

end Go.Proofs.Ythhnhajldhnfmaa
