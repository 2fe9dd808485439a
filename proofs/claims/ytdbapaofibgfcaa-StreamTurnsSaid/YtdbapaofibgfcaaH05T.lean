/- What some functions compute, over plain values. Printed by a program of mine (gen_fun.lean). -/
import Derived.Test.YtdbapaofibgfcaaH05D
import Derived.Test.YtdbapaofibgfcaaRevX
set_option linter.unusedVariables false
set_option linter.unusedSimpArgs false
set_option maxRecDepth 100000
set_option maxHeartbeats 8000000
namespace Go.Proofs.Ytdbapaofibgfcaa
open Go.RowKit
def F_tidegatelaw05_StreamTurns_l1 (n : Nat) (x4 : (List T_api_Event) × Int) (x9 : (List T_api_Event)) (k1_0_0 : (List T_api_Event) → (List T_api_Event) → Option (Bool)) : Nat → (List T_api_Event) × Int → Option (Bool)
  | 0, _ => none
  | mv1_0 + 1, v1_0 =>
    cnd (decide (v1_0.2 < (((List.map e_api_Event (x9)).length : Nat) : Int)))
      (idx x9 v1_0.2 fun x61 =>
      bnd (F_stream_Insert n v1_0.1 x61) fun x62 =>
      cnd (!decide (x62.2 = 0))
        (some false)
      <| bnd (F_tidegateref05_Has n x4.1 x61) fun x63 =>
      cnd (!(x63))
        (some false)
      <| F_tidegatelaw05_StreamTurns_l1 n x4 x9 k1_0_0 mv1_0 (x62.1, (IntKind.wrap .i64 (v1_0.2 + 1))))
    <| k1_0_0 x4.1 v1_0.1
def S_tidegatelaw05_StreamTurns_l1 (x4 : (List T_api_Event) × Int) (x9 : (List T_api_Event)) (v1_0 : (List T_api_Event) × Int) : AS := ⟨[(5, .sl 5 (List.map e_api_Event (x4.1))), (13, .sl 5 (List.map e_api_Event (v1_0.1))), (90, .sl 5 (List.map e_api_Event (x9))), (91, aI ((((List.map e_api_Event (x9)).length : Nat) : Int))), (92, aI (v1_0.2))], []⟩
theorem tidegatelaw05_StreamTurns_l1_o {n N : Nat} {x4 : (List T_api_Event) × Int} {x9 : (List T_api_Event)} {k1_0_0 : (List T_api_Event) → (List T_api_Event) → Option (Bool)} {R : Exit → AS → Prop} {K : List KItem} {c : Code} {σ : AS} {v0 : (List T_api_Event) × Int} {r : Bool} (hF : F_tidegatelaw05_StreamTurns_l1 n x4 x9 k1_0_0 N v0 = some r) (hl : LeX E0 118 σ (S_tidegatelaw05_StreamTurns_l1 x4 x9 v0)) (round : ∀ m v, F_tidegatelaw05_StreamTurns_l1 n x4 x9 k1_0_0 (m + 1) v = some r → AW E0 118 (thenA (fun σ' => ∃ v', F_tidegatelaw05_StreamTurns_l1 n x4 x9 k1_0_0 m v' = some r ∧ LeX E0 118 σ' (S_tidegatelaw05_StreamTurns_l1 x4 x9 v')) (AW E0 118 R K)) [.code c] .normal (S_tidegatelaw05_StreamTurns_l1 x4 x9 v)) : LoopX E0 118 (fun next σ' => AW E0 118 (thenA next (AW E0 118 R K)) [.code c] .normal σ') σ :=
  LoopA.o (S := S_tidegatelaw05_StreamTurns_l1 x4 x9) hF (fun _ => rfl) hl round
def F_tidegatelaw05_StreamTurns (n : Nat) (a0 : (List T_api_Event)) (a1 : Int) : Option (Bool) :=
  bnd (F_tidegateref05_Few n a0) fun x1 =>
  cnd (!(x1))
    (bnd (F_tidegatelaw05_awake n) fun x2 =>
    some x2)
  <| cnd (decide ((((List.map e_api_Event (a0)).length : Nat) : Int) = 0))
    (bnd (F_tidegatelaw05_awake n) fun x3 =>
    some x3)
  <| bnd (F_stream_Sort n a0) fun x4 =>
  nzx ((((List.map e_api_Event (a0)).length : Nat) : Int)) <| sls a0 (((IntKind.wrap .i64 a1)).tmod (((List.map e_api_Event (a0)).length : Nat) : Int)) (((List.map e_api_Event (a0)).length : Nat) : Int) fun x5 =>
  bndR (F_clone n x5) fun x6 =>
  sls a0 0 (((IntKind.wrap .i64 a1)).tmod (((List.map e_api_Event (a0)).length : Nat) : Int)) fun x7 =>
  app x6 x7 56 fun x8 =>
  bndC (F_rev n x8) fun x9 =>
  frz 44 <| reg <| bnd (F_stream_Sort n x9) fun x10 =>
  cnd (!decide (x4.2 = x10.2))
    (some false)
  <| bnd (F_tidegateref05_Same n x4.1 x10.1) fun x11 =>
  cnd (!(x11))
    (some false)
  <| cnd (!decide (x4.2 = 0))
    (cnd (decide (x4.2 = 2))
      (bnd (F_tidegatelaw05_awake n) fun x12 =>
      some x12)
    <| cnd (decide (x4.2 = 22))
      (bnd (F_tidegatelaw05_awake n) fun x13 =>
      some x13)
    <| some false)
  <| bnd (F_stream_Sort n x4.1) fun x14 =>
  cnd (!decide (x14.2 = 0))
    (some false)
  <| bnd (F_stream_Check n x4.1) fun x15 =>
  cnd (!decide (x15 = 0))
    (some false)
  <| bnd (F_tidegateref05_Same n x14.1 x4.1) fun x16 =>
  cnd (!(x16))
    (some false)
  <| F_tidegatelaw05_StreamTurns_l1 n x4 x9
    (fun k1_0_0y0 k1_0_0y1 => bnd (F_tidegateref05_Same n k1_0_0y1 k1_0_0y0) fun x59 =>
  cnd (x59)
    (bnd (F_tidegatelaw05_awake n) fun x60 =>
    some x60)
  <| some false) n ([], 0)
def R_tidegatelaw05_StreamTurns (r : Bool) : AV := .bool (r)
theorem con_tidegatelaw05_StreamTurns {n : Nat} {a0 : (List T_api_Event)} {a1 : Int} {r : Bool} (hF : F_tidegatelaw05_StreamTurns n a0 a1 = some r) : Con E0 true 9 [.sl 5 (List.map e_api_Event (a0)), .int .u8 (a1)] (R_tidegatelaw05_StreamTurns r) := by
  unfold F_tidegatelaw05_StreamTurns at hF
  refine Con.walk _ Try.func9 rfl (enters_of Try.func9 rfl rfl) rfl (Or.inr rfl) ?_
  repeat' first
    | (refine AW.regO hF (fun hF => ?_))
    | (refine AW.frzO hF 44 rfl (fun hF => ?_))
    | (refine AW.stepU [7] ?_; conv => whnf)
    | (refine CondX.o hF (fun hF => ?_) (fun hF => ?_))
    | (refine CondX.t ?_)
    | (refine CondX.f ?_)
    | (refine CallX.o hF R_tidegateref05_Few (fun a h => con_tidegateref05_Few h) (fun a hF => ?_))
    | (refine CallX.o hF R_tidegatelaw05_awake (fun a h => con_tidegatelaw05_awake h) (fun a hF => ?_))
    | (refine CallX.o hF R_stream_Sort (fun a h => con_stream_Sort h) (fun a hF => ?_))
    | (refine NzX.o hF (fun hF => ?_))
    | (refine SlsX.o e_api_Event hF (fun l hF => ?_))
    | (refine CallX.oR hF (fun r => r) e_api_Event (fun _ => AV.row 0) rfl (fun a h => conT_clone26 h) (fun a hF => ?_))
    | (refine CallX.oR hF (fun r => r) e_api_Event (fun _ => AV.row 0) rfl (fun a h => ConT.sub (by repeat' first | exact Sub.nil _ | exact Sub.refl _ | refine Sub.agg ?_ | refine Sub.tup ?_ | refine Sub.fn ?_ | exact SubL.nil | refine SubL.cons ?_ ?_ | refine Sub.sl _ ?_ | exact SubE.nil | refine SubE.cons ?_ ?_) (conT_clone26 h)) (fun a hF => ?_))
    | (refine AppX.o e_api_Event hF (by first | exact SubR.refl _ | (repeat' first | exact SubR.nil | refine SubR.cons ?_ ?_ | exact SubL.nil | refine SubL.cons ?_ ?_ | exact Sub.refl _ | exact Sub.nil _)) (fun l hF => ?_))
    | (refine CallC.oI hF 44 (fun r => r) e_api_Event (fun _ => AV.tup []) rfl (fun a h => revEv_con h) rfl rfl rfl (fun a hF => ?_))
    | (refine CallX.o hF R_tidegateref05_Same (fun a h => con_tidegateref05_Same h) (fun a hF => ?_))
    | (refine CallX.o hF R_stream_Check (fun a h => con_stream_Check h) (fun a hF => ?_))
    | (refine IdxX.o e_api_Event hF (fun x hF => ?_))
    | (refine CallX.o hF R_stream_Insert (fun a h => con_stream_Insert h) (fun a hF => ?_))
    | (refine CallX.o hF R_tidegateref05_Has (fun a h => con_tidegateref05_Has h) (fun a hF => ?_))
    | (exact ⟨_, hF, LeX.of [] rfl ⟨⟨rfl, rfl⟩, ⟨rfl, rfl⟩, ⟨rfl, rfl⟩, ⟨rfl, rfl⟩, ⟨rfl, rfl⟩, trivial⟩ trivial⟩)
    | (refine tidegatelaw05_StreamTurns_l1_o hF (LeX.trans (LeX.put 13 _ (by repeat' first | exact Sub.nil _ | exact Sub.refl _ | refine Sub.agg ?_ | refine Sub.tup ?_ | refine Sub.fn ?_ | exact SubL.nil | refine SubL.cons ?_ ?_ | refine Sub.sl _ ?_ | exact SubE.nil | refine SubE.cons ?_ ?_)) (LeX.of [] rfl ⟨⟨rfl, rfl⟩, ⟨rfl, rfl⟩, ⟨rfl, rfl⟩, ⟨rfl, rfl⟩, ⟨rfl, rfl⟩, trivial⟩ trivial)) (fun m v hF => ?_); unfold F_tidegatelaw05_StreamTurns_l1 at hF)
    | (refine And.intro ⟨by kernel_rfl, by kernel_rfl⟩ ?_)
    | (refine EqX.mk (by first | rfl | kernel_rfl) ?_)
    | (exact RetX.o hF (by repeat' first | exact Sub.nil _ | exact Sub.refl _ | refine Sub.agg ?_ | refine Sub.tup ?_ | refine Sub.fn ?_ | exact SubL.nil | refine SubL.cons ?_ ?_ | refine Sub.sl _ ?_ | exact SubE.nil | refine SubE.cons ?_ ?_))

end Go.Proofs.Ytdbapaofibgfcaa
