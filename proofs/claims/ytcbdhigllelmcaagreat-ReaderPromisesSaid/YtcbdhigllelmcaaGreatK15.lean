/- What some functions compute, over plain values. Printed by a program of mine (gen_fun.lean). -/
import Derived.Test.YtcbdhigllelmcaaGreatK14
set_option linter.unusedVariables false
set_option linter.unusedSimpArgs false
set_option maxRecDepth 100000
set_option maxHeartbeats 8000000
namespace Go.Proofs.YtcbdhigllelmcaaGreat
open Go.RowKit
theorem conT_watermark_receive {n : Nat} {a0 : (List Trk)} {a1 : T_api_Message} {r : (List Trk) × Bool × Int} (hF : F_watermark_receive n a0 a1 = some r) : ConT E0 111 [.sl 4 (List.map aTrk (a0)), .agg [aI (a1.fKind), aI (a1.fEvent.fSource), aI (a1.fEvent.fSeq), aI (a1.fEvent.fType), aI (a1.fEvent.fTime), .sl 3 (List.map e_api_Value (a1.fEvent.fValues)), aI (a1.fSource), aI (a1.fSeq), aI (a1.fTime)]] 26 4 (List.map aTrk (r.1)) (T_watermark_receive r) := by
  unfold F_watermark_receive at hF
  refine ConT.walk _ Tryz.func111 rfl (enters_of Tryz.func111 rfl rfl) rfl rfl ?_
  repeat' first
    | (refine AW.step ?_; conv => whnf)
    | (refine CondX.o hF (fun hF => ?_) (fun hF => ?_))
    | (refine CondX.t ?_)
    | (refine CondX.f ?_)
    | (refine CallX.o hF R_watermark_CheckMessage (fun a h => con_watermark_CheckMessage h) (fun a hF => ?_))
    | (refine CallX.mk _ _ con_watermark_kinds ?_)
    | (refine NatX.o2 hF (fun hF => ?_) (fun hF => ?_))
    | (refine CallX.o hF R_watermark_kinds_1 (fun a h => con_watermark_kinds_1 h) (fun a hF => ?_))
    | (refine IdxX.o aTrk hF (fun x hF => ?_))
    | (refine CallX.o hF R_watermark_receiveEvent (fun a h => con_watermark_receiveEvent h) (fun a hF => ?_))
    | (refine CallX.oR hF (fun r => r) aTrk (fun _ => AV.row 0) rfl (fun a h => conT_clone119 h) (fun a hF => ?_))
    | (refine CallX.oR hF (fun r => r) aTrk (fun _ => AV.row 0) rfl (fun a h => ConT.sub (by repeat' first | exact Sub.nil _ | exact Sub.refl _ | refine Sub.agg ?_ | refine Sub.tup ?_ | refine Sub.fn ?_ | exact SubL.nil | refine SubL.cons ?_ ?_ | refine Sub.sl _ ?_ | exact SubE.nil | refine SubE.cons ?_ ?_) (conT_clone119 h)) (fun a hF => ?_))
    | (refine NatX.o hF (fun m hF => ?_))
    | (refine SetX.o aTrk hF (fun x => rfl) (fun x => (by first | exact SubL.refl _ | (repeat' first | exact SubL.nil | refine SubL.cons ?_ ?_ | exact Sub.refl _ | exact Sub.nil _ | refine Sub.agg ?_))) (fun l hF => ?_))
    | (refine CallX.o hF R_watermark_kinds_2 (fun a h => con_watermark_kinds_2 h) (fun a hF => ?_))
    | (refine CallX.o hF R_watermark_receivePoint (fun a h => con_watermark_receivePoint h) (fun a hF => ?_))
    | (refine And.intro ⟨by kernel_rfl, by kernel_rfl⟩ ?_)
    | (refine EqX.mk (by first | rfl | kernel_rfl) ?_)
    | (refine TX.o (rl := fun r => List.map aTrk (r.1)) (res := T_watermark_receive) hF ?_; exact TX.mk _ 47 (LeX.refl _ _ _) _ rfl rfl (by repeat' first | exact Sub.nil _ | exact Sub.refl _ | refine Sub.agg ?_ | refine Sub.tup ?_ | refine Sub.fn ?_ | exact SubL.nil | refine SubL.cons ?_ ?_ | refine Sub.sl _ ?_ | exact SubE.nil | refine SubE.cons ?_ ?_))
    | (refine TX.o (rl := fun r => List.map aTrk (r.1)) (res := T_watermark_receive) hF ?_; exact TX.mk _ 9000 (LeX.adopt 4 9000 26 4 rfl rfl) _ rfl rfl (by repeat' first | exact Sub.nil _ | exact Sub.refl _ | refine Sub.agg ?_ | refine Sub.tup ?_ | refine Sub.fn ?_ | exact SubL.nil | refine SubL.cons ?_ ?_ | refine Sub.sl _ ?_ | exact SubE.nil | refine SubE.cons ?_ ?_))

def S_watermark_Receive_l1 (x2 : (List Trk) × Bool × Int) (v1_0 : Int × (List Trk)) : AS := ⟨[(8, .row 20), (9, .bool (x2.2.1)), (28, aI ((((List.map aTrk (x2.1)).length : Nat) : Int))), (29, aI (v1_0.1))], [(20, .row 26 4 (List.map aTrk (v1_0.2)))]⟩
theorem watermark_Receive_l1_o {n N : Nat} {x2 : (List Trk) × Bool × Int} {k1_0_0 : Bool → (List Trk) → Option ((List Trk) × Bool × Int)} {R : Exit → AS → Prop} {K : List KItem} {c : Code} {σ : AS} {v0 : Int × (List Trk)} {r : (List Trk) × Bool × Int} (hF : F_watermark_Receive_l1 n x2 k1_0_0 N v0 = some r) (hl : LeX E0 55 σ (S_watermark_Receive_l1 x2 v0)) (round : ∀ m v, F_watermark_Receive_l1 n x2 k1_0_0 (m + 1) v = some r → AW E0 55 (thenA (fun σ' => ∃ v', F_watermark_Receive_l1 n x2 k1_0_0 m v' = some r ∧ LeX E0 55 σ' (S_watermark_Receive_l1 x2 v')) (AW E0 55 R K)) [.code c] .normal (S_watermark_Receive_l1 x2 v)) : LoopX E0 55 (fun next σ' => AW E0 55 (thenA next (AW E0 55 R K)) [.code c] .normal σ') σ :=
  LoopA.o (S := S_watermark_Receive_l1 x2) hF (fun _ => rfl) hl round
def R_watermark_Receive (r : (List Trk) × Bool × Int) : AV := .tup [.sl 4 (List.map aTrk (r.1)), .bool (r.2.1), aI (r.2.2)]
theorem con_watermark_Receive {n : Nat} {a0 : (List Trk)} {a1 : T_api_Message} {r : (List Trk) × Bool × Int} (hF : F_watermark_Receive n a0 a1 = some r) : Con E0 false 96 [.sl 4 (List.map aTrk (a0)), .agg [aI (a1.fKind), aI (a1.fEvent.fSource), aI (a1.fEvent.fSeq), aI (a1.fEvent.fType), aI (a1.fEvent.fTime), .sl 3 (List.map e_api_Value (a1.fEvent.fValues)), aI (a1.fSource), aI (a1.fSeq), aI (a1.fTime)]] (R_watermark_Receive r) := by
  unfold F_watermark_Receive at hF
  refine Con.walk _ Tryz.func96 rfl (enters_of Tryz.func96 rfl rfl) rfl (Or.inl rfl) ?_
  repeat' first
    | (refine AW.step ?_; conv => whnf)
    | (refine CondX.o hF (fun hF => ?_) (fun hF => ?_))
    | (refine CondX.t ?_)
    | (refine CondX.f ?_)
    | (refine CallX.o hF R_watermark_Check (fun a h => con_watermark_Check h) (fun a hF => ?_))
    | (refine CallX.oR hF (fun r => r.1) aTrk T_watermark_receive rfl (fun a h => conT_watermark_receive h) (fun a hF => ?_))
    | (refine CallX.oR hF (fun r => r.1) aTrk T_watermark_receive rfl (fun a h => ConT.sub (by repeat' first | exact Sub.nil _ | exact Sub.refl _ | refine Sub.agg ?_ | refine Sub.tup ?_ | refine Sub.fn ?_ | exact SubL.nil | refine SubL.cons ?_ ?_ | refine Sub.sl _ ?_ | exact SubE.nil | refine SubE.cons ?_ ?_) (conT_watermark_receive h)) (fun a hF => ?_))
    | (refine NatX.o hF (fun m hF => ?_))
    | (refine LtX.o hF (fun hF => ?_))
    | (refine EltX.o aTrk hF (fun x hF => ?_))
    | (refine CallX.o hF (fun q => AV.sl 1 (List.map aI q)) (fun a h => con_clone56 h) (fun a hF => ?_))
    | (refine CallX.o hF (fun q => AV.sl 2 (List.map aPt q)) (fun a h => con_clone57 h) (fun a hF => ?_))
    | (refine SetX.o aTrk hF (fun x => rfl) (fun x => (by first | exact SubL.refl _ | (repeat' first | exact SubL.nil | refine SubL.cons ?_ ?_ | exact Sub.refl _ | exact Sub.nil _ | refine Sub.agg ?_))) (fun l hF => ?_))
    | (exact ⟨_, hF, LeX.of [] rfl ⟨⟨rfl, rfl⟩, ⟨rfl, rfl⟩, ⟨rfl, rfl⟩, ⟨rfl, rfl⟩, trivial⟩ ⟨⟨rfl, rfl⟩, trivial⟩⟩)
    | (refine watermark_Receive_l1_o hF (LeX.of [] rfl ⟨⟨rfl, rfl⟩, ⟨rfl, rfl⟩, ⟨rfl, rfl⟩, ⟨rfl, rfl⟩, trivial⟩ ⟨⟨rfl, rfl⟩, trivial⟩) (fun m v hF => ?_); unfold F_watermark_Receive_l1 at hF)
    | (refine And.intro ⟨by kernel_rfl, by kernel_rfl⟩ ?_)
    | (refine EqX.mk (by first | rfl | kernel_rfl) ?_)
    | (exact RetX.o hF (by repeat' first | exact Sub.nil _ | exact Sub.refl _ | refine Sub.agg ?_ | refine Sub.tup ?_ | refine Sub.fn ?_ | exact SubL.nil | refine SubL.cons ?_ ?_ | refine Sub.sl _ ?_ | exact SubE.nil | refine SubE.cons ?_ ?_))

def R_value_size (r : Int) : AV := aI (r)
theorem con_value_size {n : Nat} {a0 : T_api_Value} {r : Int} (hF : F_value_size n a0 = some r) : Con E0 true 107 [.agg [aI (a0.fKind), aI (a0.fNum), .str (a0.fText)]] (R_value_size r) := by
  unfold F_value_size at hF
  refine Con.walk _ Tryz.func107 rfl (enters_of Tryz.func107 rfl rfl) rfl (Or.inr rfl) ?_
  repeat' first
    | (refine AW.step ?_; conv => whnf)
    | (refine CondX.o hF (fun hF => ?_) (fun hF => ?_))
    | (refine CondX.t ?_)
    | (refine CondX.f ?_)
    | (refine And.intro ⟨by kernel_rfl, by kernel_rfl⟩ ?_)
    | (refine EqX.mk (by first | rfl | kernel_rfl) ?_)
    | (exact RetX.o hF (by repeat' first | exact Sub.nil _ | exact Sub.refl _ | refine Sub.agg ?_ | refine Sub.tup ?_ | refine Sub.fn ?_ | exact SubL.nil | refine SubL.cons ?_ ?_ | refine Sub.sl _ ?_ | exact SubE.nil | refine SubE.cons ?_ ?_))

def R_value_Check (r : Int) : AV := aI (r)
theorem con_value_Check {n : Nat} {a0 : T_api_Value} {r : Int} (hF : F_value_Check n a0 = some r) : Con E0 true 92 [.agg [aI (a0.fKind), aI (a0.fNum), .str (a0.fText)]] (R_value_Check r) := by
  unfold F_value_Check at hF
  refine Con.walk _ Tryz.func92 rfl (enters_of Tryz.func92 rfl rfl) rfl (Or.inr rfl) ?_
  repeat' first
    | (refine AW.step ?_; conv => whnf)
    | (refine CondX.o hF (fun hF => ?_) (fun hF => ?_))
    | (refine CondX.t ?_)
    | (refine CondX.f ?_)
    | (refine CallX.o hF R_value_size (fun a h => con_value_size h) (fun a hF => ?_))
    | (refine And.intro ⟨by kernel_rfl, by kernel_rfl⟩ ?_)
    | (refine EqX.mk (by first | rfl | kernel_rfl) ?_)
    | (exact RetX.o hF (by repeat' first | exact Sub.nil _ | exact Sub.refl _ | refine Sub.agg ?_ | refine Sub.tup ?_ | refine Sub.fn ?_ | exact SubL.nil | refine SubL.cons ?_ ?_ | refine Sub.sl _ ?_ | exact SubE.nil | refine SubE.cons ?_ ?_))

def R_tidegateref01_Check (r : Int) : AV := aI (r)
theorem con_tidegateref01_Check {n : Nat} {a0 : T_api_Value} {r : Int} (hF : F_tidegateref01_Check n a0 = some r) : Con E0 true 70 [.agg [aI (a0.fKind), aI (a0.fNum), .str (a0.fText)]] (R_tidegateref01_Check r) := by
  unfold F_tidegateref01_Check at hF
  refine Con.walk _ Tryz.func70 rfl (enters_of Tryz.func70 rfl rfl) rfl (Or.inr rfl) ?_
  repeat' first
    | (refine AW.step ?_; conv => whnf)
    | (refine CondX.o hF (fun hF => ?_) (fun hF => ?_))
    | (refine CondX.t ?_)
    | (refine CondX.f ?_)
    | (refine And.intro ⟨by kernel_rfl, by kernel_rfl⟩ ?_)
    | (refine EqX.mk (by first | rfl | kernel_rfl) ?_)
    | (exact RetX.o hF (by repeat' first | exact Sub.nil _ | exact Sub.refl _ | refine Sub.agg ?_ | refine Sub.tup ?_ | refine Sub.fn ?_ | exact SubL.nil | refine SubL.cons ?_ ?_ | refine Sub.sl _ ?_ | exact SubE.nil | refine SubE.cons ?_ ?_))

def S_value_Hash_l1 (x3 : (List Int)) (v1_0 : Int × Int) : AS := ⟨[(7, .int .u32 (v1_0.1)), (38, .row 25), (39, aI ((((List.map (AV.int .u8) (x3)).length : Nat) : Int))), (40, aI (v1_0.2))], [(25, .row 5 1 (List.map (AV.int .u8) (x3)))]⟩
theorem value_Hash_l1_o {n N : Nat} {x3 : (List Int)} {k1_0_0 : Int → Option (Int × Int)} {R : Exit → AS → Prop} {K : List KItem} {c : Code} {σ : AS} {v0 : Int × Int} {r : Int × Int} (hF : F_value_Hash_l1 n x3 k1_0_0 N v0 = some r) (hl : LeX E0 52 σ (S_value_Hash_l1 x3 v0)) (round : ∀ m v, F_value_Hash_l1 n x3 k1_0_0 (m + 1) v = some r → AW E0 52 (thenA (fun σ' => ∃ v', F_value_Hash_l1 n x3 k1_0_0 m v' = some r ∧ LeX E0 52 σ' (S_value_Hash_l1 x3 v')) (AW E0 52 R K)) [.code c] .normal (S_value_Hash_l1 x3 v)) : LoopX E0 52 (fun next σ' => AW E0 52 (thenA next (AW E0 52 R K)) [.code c] .normal σ') σ :=
  LoopA.o (S := S_value_Hash_l1 x3) hF (fun _ => rfl) hl round
def S_value_Hash_l3 (k2_1_0y : (List Int)) (v3_2 : Int × Int) : AS := ⟨[(7, .int .u32 (v3_2.1)), (38, .row 7018), (39, aI ((((List.map (AV.int .u8) (k2_1_0y)).length : Nat) : Int))), (40, aI (v3_2.2))], [(7018, .row 5 1 (List.map (AV.int .u8) (k2_1_0y)))]⟩
theorem value_Hash_l3_o {n N : Nat} {k2_1_0y : (List Int)} {k3_2_0 : Int → Option (Int × Int)} {R : Exit → AS → Prop} {K : List KItem} {c : Code} {σ : AS} {v0 : Int × Int} {r : Int × Int} (hF : F_value_Hash_l3 n k2_1_0y k3_2_0 N v0 = some r) (hl : LeX E0 52 σ (S_value_Hash_l3 k2_1_0y v0)) (round : ∀ m v, F_value_Hash_l3 n k2_1_0y k3_2_0 (m + 1) v = some r → AW E0 52 (thenA (fun σ' => ∃ v', F_value_Hash_l3 n k2_1_0y k3_2_0 m v' = some r ∧ LeX E0 52 σ' (S_value_Hash_l3 k2_1_0y v')) (AW E0 52 R K)) [.code c] .normal (S_value_Hash_l3 k2_1_0y v)) : LoopX E0 52 (fun next σ' => AW E0 52 (thenA next (AW E0 52 R K)) [.code c] .normal σ') σ :=
  LoopA.o (S := S_value_Hash_l3 k2_1_0y) hF (fun _ => rfl) hl round
def S_value_Hash_l2 (a0 : T_api_Value) (v2_1 : Int × (List Int)) : AS := ⟨[(1, .ptr 1 0), (5, .row 7018), (6, aI (v2_1.1))], [(1, .box 97 [aI (a0.fKind), aI (a0.fNum), .str (a0.fText)]), (7018, .row 5 1 (List.map (AV.int .u8) (v2_1.2)))]⟩
theorem value_Hash_l2_o {n N : Nat} {a0 : T_api_Value} {k2_1_0 : (List Int) → Option (Int × Int)} {R : Exit → AS → Prop} {K : List KItem} {c : Code} {σ : AS} {v0 : Int × (List Int)} {r : Int × Int} (hF : F_value_Hash_l2 n a0 k2_1_0 N v0 = some r) (hl : LeX E0 52 σ (S_value_Hash_l2 a0 v0)) (round : ∀ m v, F_value_Hash_l2 n a0 k2_1_0 (m + 1) v = some r → AW E0 52 (thenA (fun σ' => ∃ v', F_value_Hash_l2 n a0 k2_1_0 m v' = some r ∧ LeX E0 52 σ' (S_value_Hash_l2 a0 v')) (AW E0 52 R K)) [.code c] .normal (S_value_Hash_l2 a0 v)) : LoopX E0 52 (fun next σ' => AW E0 52 (thenA next (AW E0 52 R K)) [.code c] .normal σ') σ :=
  LoopA.o (S := S_value_Hash_l2 a0) hF (fun _ => rfl) hl round
def R_value_Hash (r : Int × Int) : AV := .tup [aI (r.1), aI (r.2)]
theorem con_value_Hash {n : Nat} {a0 : T_api_Value} {r : Int × Int} (hF : F_value_Hash n a0 = some r) : Con E0 true 66 [.agg [aI (a0.fKind), aI (a0.fNum), .str (a0.fText)]] (R_value_Hash r) := by
  unfold F_value_Hash at hF
  refine Con.walk _ Tryz.func66 rfl (enters_of Tryz.func66 rfl rfl) rfl (Or.inr rfl) ?_
  repeat' first
    | (refine AW.step ?_; conv => whnf)
    | (refine CondX.o hF (fun hF => ?_) (fun hF => ?_))
    | (refine CondX.t ?_)
    | (refine CondX.f ?_)
    | (refine CallX.o hF R_value_Check (fun a h => con_value_Check h) (fun a hF => ?_))
    | (refine OpX.bld (AV.int .u8) hF rfl rfl rfl rfl rfl rfl rfl rfl rfl rfl rfl rfl rfl rfl rfl rfl (fun l hF => ?_))
    | (refine OpX.aps hF rfl rfl rfl rfl rfl rfl rfl rfl rfl rfl rfl rfl rfl rfl rfl rfl rfl rfl rfl (fun l hF => ?_))
    | (refine NatX.o hF (fun m hF => ?_))
    | (refine EltX.o (AV.int .u8) hF (fun x hF => ?_))
    | (exact ⟨_, hF, LeX.of [] rfl ⟨⟨rfl, rfl⟩, ⟨rfl, rfl⟩, ⟨rfl, rfl⟩, ⟨rfl, rfl⟩, trivial⟩ ⟨⟨rfl, rfl⟩, trivial⟩⟩)
    | (refine value_Hash_l1_o hF (LeX.of [] rfl ⟨⟨rfl, rfl⟩, ⟨rfl, rfl⟩, ⟨rfl, rfl⟩, ⟨rfl, rfl⟩, trivial⟩ ⟨⟨rfl, rfl⟩, trivial⟩) (fun m v hF => ?_); unfold F_value_Hash_l1 at hF)
    | (refine value_Hash_l3_o hF (LeX.of [] rfl ⟨⟨rfl, rfl⟩, ⟨rfl, rfl⟩, ⟨rfl, rfl⟩, ⟨rfl, rfl⟩, trivial⟩ ⟨⟨rfl, rfl⟩, trivial⟩) (fun m v hF => ?_); unfold F_value_Hash_l3 at hF)
    | (refine OpX.bldS (AV.int .u8) hF rfl rfl rfl rfl rfl rfl rfl rfl rfl rfl rfl rfl rfl rfl (fun l hF => ?_))
    | (refine AppX.o (AV.int .u8) hF (by first | exact SubR.refl _ | (repeat' first | exact SubR.nil | refine SubR.cons ?_ ?_ | exact SubL.nil | refine SubL.cons ?_ ?_ | exact Sub.refl _ | exact Sub.nil _)) (fun l hF => ?_))
    | (exact ⟨_, hF, LeX.of [(7018, 37)] rfl ⟨⟨rfl, rfl⟩, ⟨rfl, rfl⟩, ⟨rfl, rfl⟩, trivial⟩ ⟨⟨rfl, rfl⟩, ⟨rfl, rfl⟩, trivial⟩⟩)
    | (refine ShX.o hF (fun hF => ?_))
    | (refine value_Hash_l2_o hF (LeX.of [(7018, 18)] rfl ⟨⟨rfl, rfl⟩, ⟨rfl, rfl⟩, ⟨rfl, rfl⟩, trivial⟩ ⟨⟨rfl, rfl⟩, ⟨rfl, rfl⟩, trivial⟩) (fun m v hF => ?_); unfold F_value_Hash_l2 at hF)
    | (refine And.intro ⟨by kernel_rfl, by kernel_rfl⟩ ?_)
    | (refine EqX.mk (by first | rfl | kernel_rfl) ?_)
    | (exact RetX.o hF (by repeat' first | exact Sub.nil _ | exact Sub.refl _ | refine Sub.agg ?_ | refine Sub.tup ?_ | refine Sub.fn ?_ | exact SubL.nil | refine SubL.cons ?_ ?_ | refine Sub.sl _ ?_ | exact SubE.nil | refine SubE.cons ?_ ?_))

def R_schema_digit (r : Bool) : AV := .bool (r)
theorem con_schema_digit {n : Nat} {a0 : Int} {r : Bool} (hF : F_schema_digit n a0 = some r) : Con E0 true 100 [.int .u8 (a0)] (R_schema_digit r) := by
  unfold F_schema_digit at hF
  refine Con.walk _ Tryz.func100 rfl (enters_of Tryz.func100 rfl rfl) rfl (Or.inr rfl) ?_
  repeat' first
    | (refine AW.step ?_; conv => whnf)
    | (refine CondX.o hF (fun hF => ?_) (fun hF => ?_))
    | (refine CondX.t ?_)
    | (refine CondX.f ?_)
    | (refine And.intro ⟨by kernel_rfl, by kernel_rfl⟩ ?_)
    | (refine EqX.mk (by first | rfl | kernel_rfl) ?_)
    | (exact RetX.o hF (by repeat' first | exact Sub.nil _ | exact Sub.refl _ | refine Sub.agg ?_ | refine Sub.tup ?_ | refine Sub.fn ?_ | exact SubL.nil | refine SubL.cons ?_ ?_ | refine Sub.sl _ ?_ | exact SubE.nil | refine SubE.cons ?_ ?_))

def R_schema_letter (r : Bool) : AV := .bool (r)
theorem con_schema_letter {n : Nat} {a0 : Int} {r : Bool} (hF : F_schema_letter n a0 = some r) : Con E0 true 101 [.int .u8 (a0)] (R_schema_letter r) := by
  unfold F_schema_letter at hF
  refine Con.walk _ Tryz.func101 rfl (enters_of Tryz.func101 rfl rfl) rfl (Or.inr rfl) ?_
  repeat' first
    | (refine AW.step ?_; conv => whnf)
    | (refine CondX.o hF (fun hF => ?_) (fun hF => ?_))
    | (refine CondX.t ?_)
    | (refine CondX.f ?_)
    | (refine And.intro ⟨by kernel_rfl, by kernel_rfl⟩ ?_)
    | (refine EqX.mk (by first | rfl | kernel_rfl) ?_)
    | (exact RetX.o hF (by repeat' first | exact Sub.nil _ | exact Sub.refl _ | refine Sub.agg ?_ | refine Sub.tup ?_ | refine Sub.fn ?_ | exact SubL.nil | refine SubL.cons ?_ ?_ | refine Sub.sl _ ?_ | exact SubE.nil | refine SubE.cons ?_ ?_))

def S_schema_name_l1 (a0 : ByteArray) (v1_0 : Int) : AS := ⟨[(0, .str (a0)), (18, aI (((a0.size : Nat) : Int))), (19, aI (v1_0))], []⟩
theorem schema_name_l1_o {n N : Nat} {a0 : ByteArray} {k1_0_0 : Option (Bool)} {R : Exit → AS → Prop} {K : List KItem} {c : Code} {σ : AS} {v0 : Int} {r : Bool} (hF : F_schema_name_l1 n a0 k1_0_0 N v0 = some r) (hl : LeX E0 35 σ (S_schema_name_l1 a0 v0)) (round : ∀ m v, F_schema_name_l1 n a0 k1_0_0 (m + 1) v = some r → AW E0 35 (thenA (fun σ' => ∃ v', F_schema_name_l1 n a0 k1_0_0 m v' = some r ∧ LeX E0 35 σ' (S_schema_name_l1 a0 v')) (AW E0 35 R K)) [.code c] .normal (S_schema_name_l1 a0 v)) : LoopX E0 35 (fun next σ' => AW E0 35 (thenA next (AW E0 35 R K)) [.code c] .normal σ') σ :=
  LoopA.o (S := S_schema_name_l1 a0) hF (fun _ => rfl) hl round
def R_schema_name (r : Bool) : AV := .bool (r)
theorem con_schema_name {n : Nat} {a0 : ByteArray} {r : Bool} (hF : F_schema_name n a0 = some r) : Con E0 true 77 [.str (a0)] (R_schema_name r) := by
  unfold F_schema_name at hF
  refine Con.walk _ Tryz.func77 rfl (enters_of Tryz.func77 rfl rfl) rfl (Or.inr rfl) ?_
  repeat' first
    | (refine AW.step ?_; conv => whnf)
    | (refine CondX.o hF (fun hF => ?_) (fun hF => ?_))
    | (refine CondX.t ?_)
    | (refine CondX.f ?_)
    | (refine OpX.idb hF rfl rfl rfl rfl rfl rfl rfl rfl (fun b hF => ?_))
    | (refine CallX.o hF R_schema_digit (fun a h => con_schema_digit h) (fun a hF => ?_))
    | (refine CallX.o hF R_schema_letter (fun a h => con_schema_letter h) (fun a hF => ?_))
    | (exact ⟨_, hF, LeX.of [] rfl ⟨⟨rfl, rfl⟩, ⟨rfl, rfl⟩, ⟨rfl, rfl⟩, trivial⟩ trivial⟩)
    | (refine schema_name_l1_o hF (LeX.of [] rfl ⟨⟨rfl, rfl⟩, ⟨rfl, rfl⟩, ⟨rfl, rfl⟩, trivial⟩ trivial) (fun m v hF => ?_); unfold F_schema_name_l1 at hF)
    | (refine And.intro ⟨by kernel_rfl, by kernel_rfl⟩ ?_)
    | (refine EqX.mk (by first | rfl | kernel_rfl) ?_)
    | (exact RetX.o hF (by repeat' first | exact Sub.nil _ | exact Sub.refl _ | refine Sub.agg ?_ | refine Sub.tup ?_ | refine Sub.fn ?_ | exact SubL.nil | refine SubL.cons ?_ ?_ | refine Sub.sl _ ?_ | exact SubE.nil | refine SubE.cons ?_ ?_))

def R_schema_fieldName (r : Bool) : AV := .bool (r)
theorem con_schema_fieldName {n : Nat} {a0 : ByteArray} {r : Bool} (hF : F_schema_fieldName n a0 = some r) : Con E0 true 78 [.str (a0)] (R_schema_fieldName r) := by
  unfold F_schema_fieldName at hF
  refine Con.walk _ Tryz.func78 rfl (enters_of Tryz.func78 rfl rfl) rfl (Or.inr rfl) ?_
  repeat' first
    | (refine AW.step ?_; conv => whnf)
    | (refine CondX.o hF (fun hF => ?_) (fun hF => ?_))
    | (refine CondX.t ?_)
    | (refine CondX.f ?_)
    | (refine CallX.o hF R_schema_name (fun a h => con_schema_name h) (fun a hF => ?_))
    | (refine And.intro ⟨by kernel_rfl, by kernel_rfl⟩ ?_)
    | (refine EqX.mk (by first | rfl | kernel_rfl) ?_)
    | (exact RetX.o hF (by repeat' first | exact Sub.nil _ | exact Sub.refl _ | refine Sub.agg ?_ | refine Sub.tup ?_ | refine Sub.fn ?_ | exact SubL.nil | refine SubL.cons ?_ ?_ | refine Sub.sl _ ?_ | exact SubE.nil | refine SubE.cons ?_ ?_))

theorem eqK_9 (a b : ByteArray) : eqK (AV.str a) (AV.str b) = some (decide (a = b)) := by simp [eqK, eq1, aI, bytes_dec]
def S_schema_Check_l1 (a0 : T_api_Schema) (v1_0 : Int × (List (ByteArray × Bool))) : AS := ⟨[(3, .row 14), (16, .sl 2 (List.map e_api_Field (a0.fFields))), (17, aI ((((List.map e_api_Field (a0.fFields)).length : Nat) : Int))), (18, aI (v1_0.1))], [(14, .mp (List.map (encM AV.str AV.bool) (v1_0.2)))]⟩
theorem schema_Check_l1_o {n N : Nat} {a0 : T_api_Schema} {k1_0_0 : Option (Int)} {R : Exit → AS → Prop} {K : List KItem} {c : Code} {σ : AS} {v0 : Int × (List (ByteArray × Bool))} {r : Int} (hF : F_schema_Check_l1 n a0 k1_0_0 N v0 = some r) (hl : LeX E0 45 σ (S_schema_Check_l1 a0 v0)) (round : ∀ m v, F_schema_Check_l1 n a0 k1_0_0 (m + 1) v = some r → AW E0 45 (thenA (fun σ' => ∃ v', F_schema_Check_l1 n a0 k1_0_0 m v' = some r ∧ LeX E0 45 σ' (S_schema_Check_l1 a0 v')) (AW E0 45 R K)) [.code c] .normal (S_schema_Check_l1 a0 v)) : LoopX E0 45 (fun next σ' => AW E0 45 (thenA next (AW E0 45 R K)) [.code c] .normal σ') σ :=
  LoopA.o (S := S_schema_Check_l1 a0) hF (fun _ => rfl) hl round
def R_schema_Check (r : Int) : AV := aI (r)
theorem con_schema_Check {n : Nat} {a0 : T_api_Schema} {r : Int} (hF : F_schema_Check n a0 = some r) : Con E0 true 54 [.agg [.str (a0.fName), .sl 2 (List.map e_api_Field (a0.fFields))]] (R_schema_Check r) := by
  unfold F_schema_Check at hF
  refine Con.walk _ Tryz.func54 rfl (enters_of Tryz.func54 rfl rfl) rfl (Or.inr rfl) ?_
  repeat' first
    | (refine AW.step ?_; conv => whnf)
    | (refine CondX.o hF (fun hF => ?_) (fun hF => ?_))
    | (refine CondX.t ?_)
    | (refine CondX.f ?_)
    | (refine CallX.o hF R_schema_name (fun a h => con_schema_name h) (fun a hF => ?_))
    | (refine IdxX.o e_api_Field hF (fun x hF => ?_))
    | (refine CallX.o hF R_schema_fieldName (fun a h => con_schema_fieldName h) (fun a hF => ?_))
    | (refine LkX.o AV.str AV.bool hF (by first | rfl | kernel_rfl) eqK_9 (by repeat' first | exact Sub.nil _ | exact Sub.refl _ | refine Sub.agg ?_ | refine Sub.tup ?_ | refine Sub.fn ?_ | exact SubL.nil | refine SubL.cons ?_ ?_ | refine Sub.sl _ ?_ | exact SubE.nil | refine SubE.cons ?_ ?_) (fun v b hF => ?_))
    | (refine UpX.o AV.str AV.bool hF (by first | rfl | kernel_rfl) eqK_9 (by repeat' first | exact Sub.nil _ | exact Sub.refl _ | refine Sub.agg ?_ | refine Sub.tup ?_ | refine Sub.fn ?_ | exact SubL.nil | refine SubL.cons ?_ ?_ | refine Sub.sl _ ?_ | exact SubE.nil | refine SubE.cons ?_ ?_) (fun l hF => ?_))
    | (exact ⟨_, hF, LeX.of [] rfl ⟨⟨rfl, rfl⟩, ⟨rfl, rfl⟩, ⟨rfl, rfl⟩, ⟨rfl, rfl⟩, trivial⟩ ⟨⟨rfl, rfl⟩, trivial⟩⟩)
    | (refine schema_Check_l1_o hF (LeX.of [] rfl ⟨⟨rfl, rfl⟩, ⟨rfl, rfl⟩, ⟨rfl, rfl⟩, ⟨rfl, rfl⟩, trivial⟩ ⟨⟨rfl, rfl⟩, trivial⟩) (fun m v hF => ?_); unfold F_schema_Check_l1 at hF)
    | (refine And.intro ⟨by kernel_rfl, by kernel_rfl⟩ ?_)
    | (refine EqX.mk (by first | rfl | kernel_rfl) ?_)
    | (exact RetX.o hF (by repeat' first | exact Sub.nil _ | exact Sub.refl _ | refine Sub.agg ?_ | refine Sub.tup ?_ | refine Sub.fn ?_ | exact SubL.nil | refine SubL.cons ?_ ?_ | refine Sub.sl _ ?_ | exact SubE.nil | refine SubE.cons ?_ ?_))

def S_schema_CheckAll_l1 (a0 : (List T_api_Schema)) (v1_0 : Int × (List (ByteArray × Bool))) : AS := ⟨[(3, .row 10), (11, .sl 2 (List.map e_api_Schema (a0))), (12, aI ((((List.map e_api_Schema (a0)).length : Nat) : Int))), (13, aI (v1_0.1))], [(10, .mp (List.map (encM AV.str AV.bool) (v1_0.2)))]⟩
theorem schema_CheckAll_l1_o {n N : Nat} {a0 : (List T_api_Schema)} {k1_0_0 : Option (Int)} {R : Exit → AS → Prop} {K : List KItem} {c : Code} {σ : AS} {v0 : Int × (List (ByteArray × Bool))} {r : Int} (hF : F_schema_CheckAll_l1 n a0 k1_0_0 N v0 = some r) (hl : LeX E0 30 σ (S_schema_CheckAll_l1 a0 v0)) (round : ∀ m v, F_schema_CheckAll_l1 n a0 k1_0_0 (m + 1) v = some r → AW E0 30 (thenA (fun σ' => ∃ v', F_schema_CheckAll_l1 n a0 k1_0_0 m v' = some r ∧ LeX E0 30 σ' (S_schema_CheckAll_l1 a0 v')) (AW E0 30 R K)) [.code c] .normal (S_schema_CheckAll_l1 a0 v)) : LoopX E0 30 (fun next σ' => AW E0 30 (thenA next (AW E0 30 R K)) [.code c] .normal σ') σ :=
  LoopA.o (S := S_schema_CheckAll_l1 a0) hF (fun _ => rfl) hl round
def R_schema_CheckAll (r : Int) : AV := aI (r)
theorem con_schema_CheckAll {n : Nat} {a0 : (List T_api_Schema)} {r : Int} (hF : F_schema_CheckAll n a0 = some r) : Con E0 true 30 [.sl 2 (List.map e_api_Schema (a0))] (R_schema_CheckAll r) := by
  unfold F_schema_CheckAll at hF
  refine Con.walk _ Tryz.func30 rfl (enters_of Tryz.func30 rfl rfl) rfl (Or.inr rfl) ?_
  repeat' first
    | (refine AW.step ?_; conv => whnf)
    | (refine CondX.o hF (fun hF => ?_) (fun hF => ?_))
    | (refine CondX.t ?_)
    | (refine CondX.f ?_)
    | (refine IdxX.o e_api_Schema hF (fun x hF => ?_))
    | (refine CallX.o hF R_schema_Check (fun a h => con_schema_Check h) (fun a hF => ?_))
    | (refine LkX.o AV.str AV.bool hF (by first | rfl | kernel_rfl) eqK_9 (by repeat' first | exact Sub.nil _ | exact Sub.refl _ | refine Sub.agg ?_ | refine Sub.tup ?_ | refine Sub.fn ?_ | exact SubL.nil | refine SubL.cons ?_ ?_ | refine Sub.sl _ ?_ | exact SubE.nil | refine SubE.cons ?_ ?_) (fun v b hF => ?_))
    | (refine UpX.o AV.str AV.bool hF (by first | rfl | kernel_rfl) eqK_9 (by repeat' first | exact Sub.nil _ | exact Sub.refl _ | refine Sub.agg ?_ | refine Sub.tup ?_ | refine Sub.fn ?_ | exact SubL.nil | refine SubL.cons ?_ ?_ | refine Sub.sl _ ?_ | exact SubE.nil | refine SubE.cons ?_ ?_) (fun l hF => ?_))
    | (exact ⟨_, hF, LeX.of [] rfl ⟨⟨rfl, rfl⟩, ⟨rfl, rfl⟩, ⟨rfl, rfl⟩, ⟨rfl, rfl⟩, trivial⟩ ⟨⟨rfl, rfl⟩, trivial⟩⟩)
    | (refine schema_CheckAll_l1_o hF (LeX.of [] rfl ⟨⟨rfl, rfl⟩, ⟨rfl, rfl⟩, ⟨rfl, rfl⟩, ⟨rfl, rfl⟩, trivial⟩ ⟨⟨rfl, rfl⟩, trivial⟩) (fun m v hF => ?_); unfold F_schema_CheckAll_l1 at hF)
    | (refine And.intro ⟨by kernel_rfl, by kernel_rfl⟩ ?_)
    | (refine EqX.mk (by first | rfl | kernel_rfl) ?_)
    | (exact RetX.o hF (by repeat' first | exact Sub.nil _ | exact Sub.refl _ | refine Sub.agg ?_ | refine Sub.tup ?_ | refine Sub.fn ?_ | exact SubL.nil | refine SubL.cons ?_ ?_ | refine Sub.sl _ ?_ | exact SubE.nil | refine SubE.cons ?_ ?_))

def R_tidegateref03_letter (r : Bool) : AV := .bool (r)
theorem con_tidegateref03_letter {n : Nat} {a0 : Int} {r : Bool} (hF : F_tidegateref03_letter n a0 = some r) : Con E0 true 102 [.int .u8 (a0)] (R_tidegateref03_letter r) := by
  unfold F_tidegateref03_letter at hF
  refine Con.walk _ Tryz.func102 rfl (enters_of Tryz.func102 rfl rfl) rfl (Or.inr rfl) ?_
  repeat' first
    | (refine AW.step ?_; conv => whnf)
    | (refine CondX.o hF (fun hF => ?_) (fun hF => ?_))
    | (refine CondX.t ?_)
    | (refine CondX.f ?_)
    | (refine And.intro ⟨by kernel_rfl, by kernel_rfl⟩ ?_)
    | (refine EqX.mk (by first | rfl | kernel_rfl) ?_)
    | (exact RetX.o hF (by repeat' first | exact Sub.nil _ | exact Sub.refl _ | refine Sub.agg ?_ | refine Sub.tup ?_ | refine Sub.fn ?_ | exact SubL.nil | refine SubL.cons ?_ ?_ | refine Sub.sl _ ?_ | exact SubE.nil | refine SubE.cons ?_ ?_))

def S_tidegateref03_Name_l1 (a0 : ByteArray) (v1_0 : Int) : AS := ⟨[(0, .str (a0)), (3, aI (v1_0))], []⟩
theorem tidegateref03_Name_l1_o {n N : Nat} {a0 : ByteArray} {k1_0_0 : Option (Bool)} {R : Exit → AS → Prop} {K : List KItem} {c : Code} {σ : AS} {v0 : Int} {r : Bool} (hF : F_tidegateref03_Name_l1 n a0 k1_0_0 N v0 = some r) (hl : LeX E0 41 σ (S_tidegateref03_Name_l1 a0 v0)) (round : ∀ m v, F_tidegateref03_Name_l1 n a0 k1_0_0 (m + 1) v = some r → AW E0 41 (thenA (fun σ' => ∃ v', F_tidegateref03_Name_l1 n a0 k1_0_0 m v' = some r ∧ LeX E0 41 σ' (S_tidegateref03_Name_l1 a0 v')) (AW E0 41 R K)) [.code c] .normal (S_tidegateref03_Name_l1 a0 v)) : LoopX E0 41 (fun next σ' => AW E0 41 (thenA next (AW E0 41 R K)) [.code c] .normal σ') σ :=
  LoopA.o (S := S_tidegateref03_Name_l1 a0) hF (fun _ => rfl) hl round
def R_tidegateref03_Name (r : Bool) : AV := .bool (r)
theorem con_tidegateref03_Name {n : Nat} {a0 : ByteArray} {r : Bool} (hF : F_tidegateref03_Name n a0 = some r) : Con E0 true 79 [.str (a0)] (R_tidegateref03_Name r) := by
  unfold F_tidegateref03_Name at hF
  refine Con.walk _ Tryz.func79 rfl (enters_of Tryz.func79 rfl rfl) rfl (Or.inr rfl) ?_
  repeat' first
    | (refine AW.step ?_; conv => whnf)
    | (refine CondX.o hF (fun hF => ?_) (fun hF => ?_))
    | (refine CondX.t ?_)
    | (refine CondX.f ?_)
    | (refine OpX.idb hF rfl rfl rfl rfl rfl rfl rfl rfl (fun b hF => ?_))
    | (refine CallX.o hF R_tidegateref03_letter (fun a h => con_tidegateref03_letter h) (fun a hF => ?_))
    | (exact ⟨_, hF, LeX.of [] rfl ⟨⟨rfl, rfl⟩, ⟨rfl, rfl⟩, trivial⟩ trivial⟩)
    | (refine tidegateref03_Name_l1_o hF (LeX.of [] rfl ⟨⟨rfl, rfl⟩, ⟨rfl, rfl⟩, trivial⟩ trivial) (fun m v hF => ?_); unfold F_tidegateref03_Name_l1 at hF)
    | (refine And.intro ⟨by kernel_rfl, by kernel_rfl⟩ ?_)
    | (refine EqX.mk (by first | rfl | kernel_rfl) ?_)
    | (exact RetX.o hF (by repeat' first | exact Sub.nil _ | exact Sub.refl _ | refine Sub.agg ?_ | refine Sub.tup ?_ | refine Sub.fn ?_ | exact SubL.nil | refine SubL.cons ?_ ?_ | refine Sub.sl _ ?_ | exact SubE.nil | refine SubE.cons ?_ ?_))

def S_tidegateref03_Position_l1 (a1 : ByteArray) (a0 : T_api_Schema) (v1_0 : Int) : AS := ⟨[(1, .str (a1)), (2, .ptr 2 0), (5, aI (v1_0))], [(2, .box 88 [.str (a0.fName), .sl 2 (List.map e_api_Field (a0.fFields))])]⟩
theorem tidegateref03_Position_l1_o {n N : Nat} {a1 : ByteArray} {a0 : T_api_Schema} {k1_0_0 : Option (Int)} {R : Exit → AS → Prop} {K : List KItem} {c : Code} {σ : AS} {v0 : Int} {r : Int} (hF : F_tidegateref03_Position_l1 n a1 a0 k1_0_0 N v0 = some r) (hl : LeX E0 22 σ (S_tidegateref03_Position_l1 a1 a0 v0)) (round : ∀ m v, F_tidegateref03_Position_l1 n a1 a0 k1_0_0 (m + 1) v = some r → AW E0 22 (thenA (fun σ' => ∃ v', F_tidegateref03_Position_l1 n a1 a0 k1_0_0 m v' = some r ∧ LeX E0 22 σ' (S_tidegateref03_Position_l1 a1 a0 v')) (AW E0 22 R K)) [.code c] .normal (S_tidegateref03_Position_l1 a1 a0 v)) : LoopX E0 22 (fun next σ' => AW E0 22 (thenA next (AW E0 22 R K)) [.code c] .normal σ') σ :=
  LoopA.o (S := S_tidegateref03_Position_l1 a1 a0) hF (fun _ => rfl) hl round
def R_tidegateref03_Position (r : Int) : AV := aI (r)
theorem con_tidegateref03_Position {n : Nat} {a0 : T_api_Schema} {a1 : ByteArray} {r : Int} (hF : F_tidegateref03_Position n a0 a1 = some r) : Con E0 true 80 [.agg [.str (a0.fName), .sl 2 (List.map e_api_Field (a0.fFields))], .str (a1)] (R_tidegateref03_Position r) := by
  unfold F_tidegateref03_Position at hF
  refine Con.walk _ Tryz.func80 rfl (enters_of Tryz.func80 rfl rfl) rfl (Or.inr rfl) ?_
  repeat' first
    | (refine AW.step ?_; conv => whnf)
    | (refine CondX.o hF (fun hF => ?_) (fun hF => ?_))
    | (refine CondX.t ?_)
    | (refine CondX.f ?_)
    | (refine IdxX.o e_api_Field hF (fun x hF => ?_))
    | (exact ⟨_, hF, LeX.of [] rfl ⟨⟨rfl, rfl⟩, ⟨rfl, rfl⟩, ⟨rfl, rfl⟩, trivial⟩ ⟨⟨rfl, rfl⟩, trivial⟩⟩)
    | (refine tidegateref03_Position_l1_o hF (LeX.of [] rfl ⟨⟨rfl, rfl⟩, ⟨rfl, rfl⟩, ⟨rfl, rfl⟩, trivial⟩ ⟨⟨rfl, rfl⟩, trivial⟩) (fun m v hF => ?_); unfold F_tidegateref03_Position_l1 at hF)
    | (refine And.intro ⟨by kernel_rfl, by kernel_rfl⟩ ?_)
    | (refine EqX.mk (by first | rfl | kernel_rfl) ?_)
    | (exact RetX.o hF (by repeat' first | exact Sub.nil _ | exact Sub.refl _ | refine Sub.agg ?_ | refine Sub.tup ?_ | refine Sub.fn ?_ | exact SubL.nil | refine SubL.cons ?_ ?_ | refine Sub.sl _ ?_ | exact SubE.nil | refine SubE.cons ?_ ?_))

def S_tidegateref03_Check_l1 (a0 : T_api_Schema) (v1_0 : Int) : AS := ⟨[(1, .ptr 1 0), (3, aI (v1_0))], [(1, .box 88 [.str (a0.fName), .sl 2 (List.map e_api_Field (a0.fFields))])]⟩
theorem tidegateref03_Check_l1_o {n N : Nat} {a0 : T_api_Schema} {k1_0_0 : Option (Int)} {R : Exit → AS → Prop} {K : List KItem} {c : Code} {σ : AS} {v0 : Int} {r : Int} (hF : F_tidegateref03_Check_l1 n a0 k1_0_0 N v0 = some r) (hl : LeX E0 53 σ (S_tidegateref03_Check_l1 a0 v0)) (round : ∀ m v, F_tidegateref03_Check_l1 n a0 k1_0_0 (m + 1) v = some r → AW E0 53 (thenA (fun σ' => ∃ v', F_tidegateref03_Check_l1 n a0 k1_0_0 m v' = some r ∧ LeX E0 53 σ' (S_tidegateref03_Check_l1 a0 v')) (AW E0 53 R K)) [.code c] .normal (S_tidegateref03_Check_l1 a0 v)) : LoopX E0 53 (fun next σ' => AW E0 53 (thenA next (AW E0 53 R K)) [.code c] .normal σ') σ :=
  LoopA.o (S := S_tidegateref03_Check_l1 a0) hF (fun _ => rfl) hl round
def R_tidegateref03_Check (r : Int) : AV := aI (r)
theorem con_tidegateref03_Check {n : Nat} {a0 : T_api_Schema} {r : Int} (hF : F_tidegateref03_Check n a0 = some r) : Con E0 true 58 [.agg [.str (a0.fName), .sl 2 (List.map e_api_Field (a0.fFields))]] (R_tidegateref03_Check r) := by
  unfold F_tidegateref03_Check at hF
  refine Con.walk _ Tryz.func58 rfl (enters_of Tryz.func58 rfl rfl) rfl (Or.inr rfl) ?_
  repeat' first
    | (refine AW.step ?_; conv => whnf)
    | (refine CondX.o hF (fun hF => ?_) (fun hF => ?_))
    | (refine CondX.t ?_)
    | (refine CondX.f ?_)
    | (refine CallX.o hF R_tidegateref03_Name (fun a h => con_tidegateref03_Name h) (fun a hF => ?_))
    | (refine IdxX.o e_api_Field hF (fun x hF => ?_))
    | (refine CallX.o hF R_tidegateref03_Position (fun a h => con_tidegateref03_Position h) (fun a hF => ?_))
    | (exact ⟨_, hF, LeX.of [] rfl ⟨⟨rfl, rfl⟩, ⟨rfl, rfl⟩, trivial⟩ ⟨⟨rfl, rfl⟩, trivial⟩⟩)
    | (refine tidegateref03_Check_l1_o hF (LeX.of [] rfl ⟨⟨rfl, rfl⟩, ⟨rfl, rfl⟩, trivial⟩ ⟨⟨rfl, rfl⟩, trivial⟩) (fun m v hF => ?_); unfold F_tidegateref03_Check_l1 at hF)
    | (refine And.intro ⟨by kernel_rfl, by kernel_rfl⟩ ?_)
    | (refine EqX.mk (by first | rfl | kernel_rfl) ?_)
    | (exact RetX.o hF (by repeat' first | exact Sub.nil _ | exact Sub.refl _ | refine Sub.agg ?_ | refine Sub.tup ?_ | refine Sub.fn ?_ | exact SubL.nil | refine SubL.cons ?_ ?_ | refine Sub.sl _ ?_ | exact SubE.nil | refine SubE.cons ?_ ?_))

def S_tidegateref03_Where_l1 (a1 : ByteArray) (a0 : (List T_api_Schema)) (v1_0 : Int) : AS := ⟨[(0, .sl 2 (List.map e_api_Schema (a0))), (1, .str (a1)), (5, aI (v1_0))], []⟩
theorem tidegateref03_Where_l1_o {n N : Nat} {a1 : ByteArray} {a0 : (List T_api_Schema)} {k1_0_0 : Option (Int)} {R : Exit → AS → Prop} {K : List KItem} {c : Code} {σ : AS} {v0 : Int} {r : Int} (hF : F_tidegateref03_Where_l1 n a1 a0 k1_0_0 N v0 = some r) (hl : LeX E0 20 σ (S_tidegateref03_Where_l1 a1 a0 v0)) (round : ∀ m v, F_tidegateref03_Where_l1 n a1 a0 k1_0_0 (m + 1) v = some r → AW E0 20 (thenA (fun σ' => ∃ v', F_tidegateref03_Where_l1 n a1 a0 k1_0_0 m v' = some r ∧ LeX E0 20 σ' (S_tidegateref03_Where_l1 a1 a0 v')) (AW E0 20 R K)) [.code c] .normal (S_tidegateref03_Where_l1 a1 a0 v)) : LoopX E0 20 (fun next σ' => AW E0 20 (thenA next (AW E0 20 R K)) [.code c] .normal σ') σ :=
  LoopA.o (S := S_tidegateref03_Where_l1 a1 a0) hF (fun _ => rfl) hl round
def R_tidegateref03_Where (r : Int) : AV := aI (r)
theorem con_tidegateref03_Where {n : Nat} {a0 : (List T_api_Schema)} {a1 : ByteArray} {r : Int} (hF : F_tidegateref03_Where n a0 a1 = some r) : Con E0 true 59 [.sl 2 (List.map e_api_Schema (a0)), .str (a1)] (R_tidegateref03_Where r) := by
  unfold F_tidegateref03_Where at hF
  refine Con.walk _ Tryz.func59 rfl (enters_of Tryz.func59 rfl rfl) rfl (Or.inr rfl) ?_
  repeat' first
    | (refine AW.step ?_; conv => whnf)
    | (refine CondX.o hF (fun hF => ?_) (fun hF => ?_))
    | (refine CondX.t ?_)
    | (refine CondX.f ?_)
    | (refine IdxX.o e_api_Schema hF (fun x hF => ?_))
    | (exact ⟨_, hF, LeX.of [] rfl ⟨⟨rfl, rfl⟩, ⟨rfl, rfl⟩, ⟨rfl, rfl⟩, trivial⟩ trivial⟩)
    | (refine tidegateref03_Where_l1_o hF (LeX.of [] rfl ⟨⟨rfl, rfl⟩, ⟨rfl, rfl⟩, ⟨rfl, rfl⟩, trivial⟩ trivial) (fun m v hF => ?_); unfold F_tidegateref03_Where_l1 at hF)
    | (refine And.intro ⟨by kernel_rfl, by kernel_rfl⟩ ?_)
    | (refine EqX.mk (by first | rfl | kernel_rfl) ?_)
    | (exact RetX.o hF (by repeat' first | exact Sub.nil _ | exact Sub.refl _ | refine Sub.agg ?_ | refine Sub.tup ?_ | refine Sub.fn ?_ | exact SubL.nil | refine SubL.cons ?_ ?_ | refine Sub.sl _ ?_ | exact SubE.nil | refine SubE.cons ?_ ?_))

def S_tidegateref03_CheckAll_l1 (a0 : (List T_api_Schema)) (v1_0 : Int) : AS := ⟨[(0, .sl 2 (List.map e_api_Schema (a0))), (3, aI (v1_0))], []⟩
theorem tidegateref03_CheckAll_l1_o {n N : Nat} {a0 : (List T_api_Schema)} {k1_0_0 : Option (Int)} {R : Exit → AS → Prop} {K : List KItem} {c : Code} {σ : AS} {v0 : Int} {r : Int} (hF : F_tidegateref03_CheckAll_l1 n a0 k1_0_0 N v0 = some r) (hl : LeX E0 31 σ (S_tidegateref03_CheckAll_l1 a0 v0)) (round : ∀ m v, F_tidegateref03_CheckAll_l1 n a0 k1_0_0 (m + 1) v = some r → AW E0 31 (thenA (fun σ' => ∃ v', F_tidegateref03_CheckAll_l1 n a0 k1_0_0 m v' = some r ∧ LeX E0 31 σ' (S_tidegateref03_CheckAll_l1 a0 v')) (AW E0 31 R K)) [.code c] .normal (S_tidegateref03_CheckAll_l1 a0 v)) : LoopX E0 31 (fun next σ' => AW E0 31 (thenA next (AW E0 31 R K)) [.code c] .normal σ') σ :=
  LoopA.o (S := S_tidegateref03_CheckAll_l1 a0) hF (fun _ => rfl) hl round
def R_tidegateref03_CheckAll (r : Int) : AV := aI (r)
theorem con_tidegateref03_CheckAll {n : Nat} {a0 : (List T_api_Schema)} {r : Int} (hF : F_tidegateref03_CheckAll n a0 = some r) : Con E0 true 34 [.sl 2 (List.map e_api_Schema (a0))] (R_tidegateref03_CheckAll r) := by
  unfold F_tidegateref03_CheckAll at hF
  refine Con.walk _ Tryz.func34 rfl (enters_of Tryz.func34 rfl rfl) rfl (Or.inr rfl) ?_
  repeat' first
    | (refine AW.step ?_; conv => whnf)
    | (refine CondX.o hF (fun hF => ?_) (fun hF => ?_))
    | (refine CondX.t ?_)
    | (refine CondX.f ?_)
    | (refine IdxX.o e_api_Schema hF (fun x hF => ?_))
    | (refine CallX.o hF R_tidegateref03_Check (fun a h => con_tidegateref03_Check h) (fun a hF => ?_))
    | (refine CallX.o hF R_tidegateref03_Where (fun a h => con_tidegateref03_Where h) (fun a hF => ?_))
    | (exact ⟨_, hF, LeX.of [] rfl ⟨⟨rfl, rfl⟩, ⟨rfl, rfl⟩, trivial⟩ trivial⟩)
    | (refine tidegateref03_CheckAll_l1_o hF (LeX.of [] rfl ⟨⟨rfl, rfl⟩, ⟨rfl, rfl⟩, trivial⟩ trivial) (fun m v hF => ?_); unfold F_tidegateref03_CheckAll_l1 at hF)
    | (refine And.intro ⟨by kernel_rfl, by kernel_rfl⟩ ?_)
    | (refine EqX.mk (by first | rfl | kernel_rfl) ?_)
    | (exact RetX.o hF (by repeat' first | exact Sub.nil _ | exact Sub.refl _ | refine Sub.agg ?_ | refine Sub.tup ?_ | refine Sub.fn ?_ | exact SubL.nil | refine SubL.cons ?_ ?_ | refine Sub.sl _ ?_ | exact SubE.nil | refine SubE.cons ?_ ?_))

def S_tidegateref03_Few_l1 (a0 : (List T_api_Schema)) (v1_0 : Int) : AS := ⟨[(0, .sl 2 (List.map e_api_Schema (a0))), (3, aI (v1_0))], []⟩
theorem tidegateref03_Few_l1_o {n N : Nat} {a0 : (List T_api_Schema)} {k1_0_0 : Option (Bool)} {R : Exit → AS → Prop} {K : List KItem} {c : Code} {σ : AS} {v0 : Int} {r : Bool} (hF : F_tidegateref03_Few_l1 n a0 k1_0_0 N v0 = some r) (hl : LeX E0 29 σ (S_tidegateref03_Few_l1 a0 v0)) (round : ∀ m v, F_tidegateref03_Few_l1 n a0 k1_0_0 (m + 1) v = some r → AW E0 29 (thenA (fun σ' => ∃ v', F_tidegateref03_Few_l1 n a0 k1_0_0 m v' = some r ∧ LeX E0 29 σ' (S_tidegateref03_Few_l1 a0 v')) (AW E0 29 R K)) [.code c] .normal (S_tidegateref03_Few_l1 a0 v)) : LoopX E0 29 (fun next σ' => AW E0 29 (thenA next (AW E0 29 R K)) [.code c] .normal σ') σ :=
  LoopA.o (S := S_tidegateref03_Few_l1 a0) hF (fun _ => rfl) hl round
def R_tidegateref03_Few (r : Bool) : AV := .bool (r)
theorem con_tidegateref03_Few {n : Nat} {a0 : (List T_api_Schema)} {r : Bool} (hF : F_tidegateref03_Few n a0 = some r) : Con E0 true 17 [.sl 2 (List.map e_api_Schema (a0))] (R_tidegateref03_Few r) := by
  unfold F_tidegateref03_Few at hF
  refine Con.walk _ Tryz.func17 rfl (enters_of Tryz.func17 rfl rfl) rfl (Or.inr rfl) ?_
  repeat' first
    | (refine AW.step ?_; conv => whnf)
    | (refine CondX.o hF (fun hF => ?_) (fun hF => ?_))
    | (refine CondX.t ?_)
    | (refine CondX.f ?_)
    | (refine IdxX.o e_api_Schema hF (fun x hF => ?_))
    | (exact ⟨_, hF, LeX.of [] rfl ⟨⟨rfl, rfl⟩, ⟨rfl, rfl⟩, trivial⟩ trivial⟩)
    | (refine tidegateref03_Few_l1_o hF (LeX.of [] rfl ⟨⟨rfl, rfl⟩, ⟨rfl, rfl⟩, trivial⟩ trivial) (fun m v hF => ?_); unfold F_tidegateref03_Few_l1 at hF)
    | (refine And.intro ⟨by kernel_rfl, by kernel_rfl⟩ ?_)
    | (refine EqX.mk (by first | rfl | kernel_rfl) ?_)
    | (exact RetX.o hF (by repeat' first | exact Sub.nil _ | exact Sub.refl _ | refine Sub.agg ?_ | refine Sub.tup ?_ | refine Sub.fn ?_ | exact SubL.nil | refine SubL.cons ?_ ?_ | refine Sub.sl _ ?_ | exact SubE.nil | refine SubE.cons ?_ ?_))

def R_event_numbers (r : Int) : AV := aI (r)
theorem con_event_numbers {n : Nat} {a0 : T_api_Event} {r : Int} (hF : F_event_numbers n a0 = some r) : Con E0 true 91 [.agg [aI (a0.fSource), aI (a0.fSeq), aI (a0.fType), aI (a0.fTime), .sl 3 (List.map e_api_Value (a0.fValues))]] (R_event_numbers r) := by
  unfold F_event_numbers at hF
  refine Con.walk _ Tryz.func91 rfl (enters_of Tryz.func91 rfl rfl) rfl (Or.inr rfl) ?_
  repeat' first
    | (refine AW.step ?_; conv => whnf)
    | (refine CondX.o hF (fun hF => ?_) (fun hF => ?_))
    | (refine CondX.t ?_)
    | (refine CondX.f ?_)
    | (refine And.intro ⟨by kernel_rfl, by kernel_rfl⟩ ?_)
    | (refine EqX.mk (by first | rfl | kernel_rfl) ?_)
    | (exact RetX.o hF (by repeat' first | exact Sub.nil _ | exact Sub.refl _ | refine Sub.agg ?_ | refine Sub.tup ?_ | refine Sub.fn ?_ | exact SubL.nil | refine SubL.cons ?_ ?_ | refine Sub.sl _ ?_ | exact SubE.nil | refine SubE.cons ?_ ?_))

def S_event_valid_l1 (a1 : T_api_Event) (x2 : T_api_Schema) (v1_0 : Int) : AS := ⟨[(6, .sl 2 (List.map e_api_Field (x2.fFields))), (38, .sl 3 (List.map e_api_Value (a1.fValues))), (39, aI ((((List.map e_api_Value (a1.fValues)).length : Nat) : Int))), (40, aI (v1_0))], []⟩
theorem event_valid_l1_o {n N : Nat} {a1 : T_api_Event} {x2 : T_api_Schema} {k1_0_0 : Option (Int)} {R : Exit → AS → Prop} {K : List KItem} {c : Code} {σ : AS} {v0 : Int} {r : Int} (hF : F_event_valid_l1 n a1 x2 k1_0_0 N v0 = some r) (hl : LeX E0 59 σ (S_event_valid_l1 a1 x2 v0)) (round : ∀ m v, F_event_valid_l1 n a1 x2 k1_0_0 (m + 1) v = some r → AW E0 59 (thenA (fun σ' => ∃ v', F_event_valid_l1 n a1 x2 k1_0_0 m v' = some r ∧ LeX E0 59 σ' (S_event_valid_l1 a1 x2 v')) (AW E0 59 R K)) [.code c] .normal (S_event_valid_l1 a1 x2 v)) : LoopX E0 59 (fun next σ' => AW E0 59 (thenA next (AW E0 59 R K)) [.code c] .normal σ') σ :=
  LoopA.o (S := S_event_valid_l1 a1 x2) hF (fun _ => rfl) hl round
def R_event_valid (r : Int) : AV := aI (r)
theorem con_event_valid {n : Nat} {a0 : (List T_api_Schema)} {a1 : T_api_Event} {r : Int} (hF : F_event_valid n a0 a1 = some r) : Con E0 true 65 [.sl 2 (List.map e_api_Schema (a0)), .agg [aI (a1.fSource), aI (a1.fSeq), aI (a1.fType), aI (a1.fTime), .sl 3 (List.map e_api_Value (a1.fValues))]] (R_event_valid r) := by
  unfold F_event_valid at hF
  refine Con.walk _ Tryz.func65 rfl (enters_of Tryz.func65 rfl rfl) rfl (Or.inr rfl) ?_
  repeat' first
    | (refine AW.step ?_; conv => whnf)
    | (refine CondX.o hF (fun hF => ?_) (fun hF => ?_))
    | (refine CondX.t ?_)
    | (refine CondX.f ?_)
    | (refine CallX.o hF R_event_numbers (fun a h => con_event_numbers h) (fun a hF => ?_))
    | (refine IdxX.o e_api_Schema hF (fun x hF => ?_))
    | (refine IdxX.o e_api_Value hF (fun x hF => ?_))
    | (refine CallX.o hF R_value_Check (fun a h => con_value_Check h) (fun a hF => ?_))
    | (refine IdxX.o e_api_Field hF (fun x hF => ?_))
    | (exact ⟨_, hF, LeX.of [] rfl ⟨⟨rfl, rfl⟩, ⟨rfl, rfl⟩, ⟨rfl, rfl⟩, ⟨rfl, rfl⟩, trivial⟩ trivial⟩)
    | (refine event_valid_l1_o hF (LeX.of [] rfl ⟨⟨rfl, rfl⟩, ⟨rfl, rfl⟩, ⟨rfl, rfl⟩, ⟨rfl, rfl⟩, trivial⟩ trivial) (fun m v hF => ?_); unfold F_event_valid_l1 at hF)
    | (refine And.intro ⟨by kernel_rfl, by kernel_rfl⟩ ?_)
    | (refine EqX.mk (by first | rfl | kernel_rfl) ?_)
    | (exact RetX.o hF (by repeat' first | exact Sub.nil _ | exact Sub.refl _ | refine Sub.agg ?_ | refine Sub.tup ?_ | refine Sub.fn ?_ | exact SubL.nil | refine SubL.cons ?_ ?_ | refine Sub.sl _ ?_ | exact SubE.nil | refine SubE.cons ?_ ?_))

def R_event_Check (r : Int) : AV := aI (r)
theorem con_event_Check {n : Nat} {a0 : (List T_api_Schema)} {a1 : T_api_Event} {r : Int} (hF : F_event_Check n a0 a1 = some r) : Con E0 true 43 [.sl 2 (List.map e_api_Schema (a0)), .agg [aI (a1.fSource), aI (a1.fSeq), aI (a1.fType), aI (a1.fTime), .sl 3 (List.map e_api_Value (a1.fValues))]] (R_event_Check r) := by
  unfold F_event_Check at hF
  refine Con.walk _ Tryz.func43 rfl (enters_of Tryz.func43 rfl rfl) rfl (Or.inr rfl) ?_
  repeat' first
    | (refine AW.step ?_; conv => whnf)
    | (refine CondX.o hF (fun hF => ?_) (fun hF => ?_))
    | (refine CondX.t ?_)
    | (refine CondX.f ?_)
    | (refine CallX.o hF R_schema_CheckAll (fun a h => con_schema_CheckAll h) (fun a hF => ?_))
    | (refine CallX.o hF R_event_valid (fun a h => con_event_valid h) (fun a hF => ?_))
    | (refine And.intro ⟨by kernel_rfl, by kernel_rfl⟩ ?_)
    | (refine EqX.mk (by first | rfl | kernel_rfl) ?_)
    | (exact RetX.o hF (by repeat' first | exact Sub.nil _ | exact Sub.refl _ | refine Sub.agg ?_ | refine Sub.tup ?_ | refine Sub.fn ?_ | exact SubL.nil | refine SubL.cons ?_ ?_ | refine Sub.sl _ ?_ | exact SubE.nil | refine SubE.cons ?_ ?_))

def S_event_Key_l1 (a2 : T_api_Event) (a1 : (List Int)) (a0 : (List T_api_Schema)) (v1_0 : Int) : AS := ⟨[(0, .sl 2 (List.map e_api_Schema (a0))), (1, .sl 1 (List.map aI (a1))), (5, .ptr 5 0), (6, .ptr 6 0), (30, .sl 1 (List.map aI (a1))), (31, aI ((((List.map aI (a1)).length : Nat) : Int))), (32, aI (v1_0))], [(5, .box 51 [aI (a2.fSource), aI (a2.fSeq), aI (a2.fType), aI (a2.fTime), .sl 3 (List.map e_api_Value (a2.fValues))]), (6, .box 97 [aI (0), aI (0), .str (ByteArray.empty)])]⟩
theorem event_Key_l1_o {n N : Nat} {a2 : T_api_Event} {a1 : (List Int)} {a0 : (List T_api_Schema)} {k1_0_0 : Option (T_api_Value × Bool × Int)} {R : Exit → AS → Prop} {K : List KItem} {c : Code} {σ : AS} {v0 : Int} {r : T_api_Value × Bool × Int} (hF : F_event_Key_l1 n a2 a1 a0 k1_0_0 N v0 = some r) (hl : LeX E0 64 σ (S_event_Key_l1 a2 a1 a0 v0)) (round : ∀ m v, F_event_Key_l1 n a2 a1 a0 k1_0_0 (m + 1) v = some r → AW E0 64 (thenA (fun σ' => ∃ v', F_event_Key_l1 n a2 a1 a0 k1_0_0 m v' = some r ∧ LeX E0 64 σ' (S_event_Key_l1 a2 a1 a0 v')) (AW E0 64 R K)) [.code c] .normal (S_event_Key_l1 a2 a1 a0 v)) : LoopX E0 64 (fun next σ' => AW E0 64 (thenA next (AW E0 64 R K)) [.code c] .normal σ') σ :=
  LoopA.o (S := S_event_Key_l1 a2 a1 a0) hF (fun _ => rfl) hl round
def R_event_Key (r : T_api_Value × Bool × Int) : AV := .tup [.agg [aI (r.1.fKind), aI (r.1.fNum), .str (r.1.fText)], .bool (r.2.1), aI (r.2.2)]
theorem con_event_Key {n : Nat} {a0 : (List T_api_Schema)} {a1 : (List Int)} {a2 : T_api_Event} {r : T_api_Value × Bool × Int} (hF : F_event_Key n a0 a1 a2 = some r) : Con E0 true 44 [.sl 2 (List.map e_api_Schema (a0)), .sl 1 (List.map aI (a1)), .agg [aI (a2.fSource), aI (a2.fSeq), aI (a2.fType), aI (a2.fTime), .sl 3 (List.map e_api_Value (a2.fValues))]] (R_event_Key r) := by
  unfold F_event_Key at hF
  refine Con.walk _ Tryz.func44 rfl (enters_of Tryz.func44 rfl rfl) rfl (Or.inr rfl) ?_
  repeat' first
    | (refine AW.step ?_; conv => whnf)
    | (refine CondX.o hF (fun hF => ?_) (fun hF => ?_))
    | (refine CondX.t ?_)
    | (refine CondX.f ?_)
    | (refine CallX.o hF R_event_Check (fun a h => con_event_Check h) (fun a hF => ?_))
    | (refine IdxX.o aI hF (fun x hF => ?_))
    | (refine IdxX.o e_api_Value hF (fun x hF => ?_))
    | (refine IdxX.o e_api_Schema hF (fun x hF => ?_))
    | (exact ⟨_, hF, LeX.of [] rfl ⟨⟨rfl, rfl⟩, ⟨rfl, rfl⟩, ⟨rfl, rfl⟩, ⟨rfl, rfl⟩, ⟨rfl, rfl⟩, ⟨rfl, rfl⟩, ⟨rfl, rfl⟩, trivial⟩ ⟨⟨rfl, rfl⟩, ⟨rfl, rfl⟩, trivial⟩⟩)
    | (refine event_Key_l1_o hF (LeX.of [] rfl ⟨⟨rfl, rfl⟩, ⟨rfl, rfl⟩, ⟨rfl, rfl⟩, ⟨rfl, rfl⟩, ⟨rfl, rfl⟩, ⟨rfl, rfl⟩, ⟨rfl, rfl⟩, trivial⟩ ⟨⟨rfl, rfl⟩, ⟨rfl, rfl⟩, trivial⟩) (fun m v hF => ?_); unfold F_event_Key_l1 at hF)
    | (refine And.intro ⟨by kernel_rfl, by kernel_rfl⟩ ?_)
    | (refine EqX.mk (by first | rfl | kernel_rfl) ?_)
    | (exact RetX.o hF (by repeat' first | exact Sub.nil _ | exact Sub.refl _ | refine Sub.agg ?_ | refine Sub.tup ?_ | refine Sub.fn ?_ | exact SubL.nil | refine SubL.cons ?_ ?_ | refine Sub.sl _ ?_ | exact SubE.nil | refine SubE.cons ?_ ?_))

def S_tidegateref04_Valid_l1 (a1 : T_api_Event) (x1 : T_api_Schema) (v1_0 : Int) : AS := ⟨[(3, .ptr 3 0), (5, .sl 2 (List.map e_api_Field (x1.fFields))), (6, aI (v1_0))], [(3, .box 51 [aI (a1.fSource), aI (a1.fSeq), aI (a1.fType), aI (a1.fTime), .sl 3 (List.map e_api_Value (a1.fValues))])]⟩
theorem tidegateref04_Valid_l1_o {n N : Nat} {a1 : T_api_Event} {x1 : T_api_Schema} {k1_0_0 : Option (Int)} {R : Exit → AS → Prop} {K : List KItem} {c : Code} {σ : AS} {v0 : Int} {r : Int} (hF : F_tidegateref04_Valid_l1 n a1 x1 k1_0_0 N v0 = some r) (hl : LeX E0 83 σ (S_tidegateref04_Valid_l1 a1 x1 v0)) (round : ∀ m v, F_tidegateref04_Valid_l1 n a1 x1 k1_0_0 (m + 1) v = some r → AW E0 83 (thenA (fun σ' => ∃ v', F_tidegateref04_Valid_l1 n a1 x1 k1_0_0 m v' = some r ∧ LeX E0 83 σ' (S_tidegateref04_Valid_l1 a1 x1 v')) (AW E0 83 R K)) [.code c] .normal (S_tidegateref04_Valid_l1 a1 x1 v)) : LoopX E0 83 (fun next σ' => AW E0 83 (thenA next (AW E0 83 R K)) [.code c] .normal σ') σ :=
  LoopA.o (S := S_tidegateref04_Valid_l1 a1 x1) hF (fun _ => rfl) hl round
def R_tidegateref04_Valid (r : Int) : AV := aI (r)
theorem con_tidegateref04_Valid {n : Nat} {a0 : (List T_api_Schema)} {a1 : T_api_Event} {r : Int} (hF : F_tidegateref04_Valid n a0 a1 = some r) : Con E0 true 49 [.sl 2 (List.map e_api_Schema (a0)), .agg [aI (a1.fSource), aI (a1.fSeq), aI (a1.fType), aI (a1.fTime), .sl 3 (List.map e_api_Value (a1.fValues))]] (R_tidegateref04_Valid r) := by
  unfold F_tidegateref04_Valid at hF
  refine Con.walk _ Tryz.func49 rfl (enters_of Tryz.func49 rfl rfl) rfl (Or.inr rfl) ?_
  repeat' first
    | (refine AW.step ?_; conv => whnf)
    | (refine CondX.o hF (fun hF => ?_) (fun hF => ?_))
    | (refine CondX.t ?_)
    | (refine CondX.f ?_)
    | (refine IdxX.o e_api_Schema hF (fun x hF => ?_))
    | (refine IdxX.o e_api_Value hF (fun x hF => ?_))
    | (refine CallX.o hF R_tidegateref01_Check (fun a h => con_tidegateref01_Check h) (fun a hF => ?_))
    | (refine IdxX.o e_api_Field hF (fun x hF => ?_))
    | (exact ⟨_, hF, LeX.of [] rfl ⟨⟨rfl, rfl⟩, ⟨rfl, rfl⟩, ⟨rfl, rfl⟩, trivial⟩ ⟨⟨rfl, rfl⟩, trivial⟩⟩)
    | (refine tidegateref04_Valid_l1_o hF (LeX.of [] rfl ⟨⟨rfl, rfl⟩, ⟨rfl, rfl⟩, ⟨rfl, rfl⟩, trivial⟩ ⟨⟨rfl, rfl⟩, trivial⟩) (fun m v hF => ?_); unfold F_tidegateref04_Valid_l1 at hF)
    | (refine And.intro ⟨by kernel_rfl, by kernel_rfl⟩ ?_)
    | (refine EqX.mk (by first | rfl | kernel_rfl) ?_)
    | (exact RetX.o hF (by repeat' first | exact Sub.nil _ | exact Sub.refl _ | refine Sub.agg ?_ | refine Sub.tup ?_ | refine Sub.fn ?_ | exact SubL.nil | refine SubL.cons ?_ ?_ | refine Sub.sl _ ?_ | exact SubE.nil | refine SubE.cons ?_ ?_))

end Go.Proofs.YtcbdhigllelmcaaGreat
