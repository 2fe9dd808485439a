/- What some functions compute, over plain values. Printed by a program of mine (gen_fun.lean). Chapter 37: the contracts of the seven laws. -/
import Derived.Test.YtimkhfaddnanhaaGreatK15
import Derived.Test.YtimkhfaddnanhaaGreatK13
set_option linter.unusedVariables false
set_option linter.unusedSimpArgs false
set_option maxRecDepth 100000
set_option maxHeartbeats 8000000
namespace Go.Proofs.YtimkhfaddnanhaaGreat
open Go.RowKit
theorem con_reorder_copied {n : Nat} {a0 : (List T_api_Event)} {r : (List T_api_Event)} (hF : F_reorder_copied n a0 = some r) : Con E0 false 45 [.sl 5 (List.map e_api_Event (a0))] (R_reorder_copied r) := by
  unfold F_reorder_copied at hF
  refine Con.walk _ Tryz.func45 rfl (enters_of Tryz.func45 rfl rfl) rfl (Or.inl rfl) ?_
  repeat' first
    | (refine AW.step ?_; conv => whnf)
    | (refine CondX.o hF (fun hF => ?_) (fun hF => ?_))
    | (refine CondX.t ?_)
    | (refine CondX.f ?_)
    | (refine IdxX.o e_api_Event hF (fun x hF => ?_))
    | (refine CallX.o hF (fun q => AV.sl 3 (List.map e_api_Value q)) (fun a h => con_clone72 h) (fun a hF => ?_))
    | (refine AppX.o e_api_Event hF (by first | exact SubR.refl _ | (repeat' first | exact SubR.nil | refine SubR.cons ?_ ?_ | exact SubL.nil | refine SubL.cons ?_ ?_ | exact Sub.refl _ | exact Sub.nil _)) (fun l hF => ?_))
    | (exact ⟨_, hF, LeX.of [(7019, 19)] rfl ⟨⟨rfl, rfl⟩, ⟨rfl, rfl⟩, ⟨rfl, rfl⟩, ⟨rfl, rfl⟩, trivial⟩ ⟨⟨rfl, rfl⟩, trivial⟩⟩)
    | (refine reorder_copied_l1_o hF (LeX.trans (LeX.adopt 3 7019 26 5 rfl rfl) (LeX.of [] rfl ⟨⟨rfl, rfl⟩, ⟨rfl, rfl⟩, ⟨rfl, rfl⟩, ⟨rfl, rfl⟩, trivial⟩ ⟨⟨rfl, rfl⟩, trivial⟩)) (fun m v hF => ?_); unfold F_reorder_copied_l1 at hF)
    | (refine And.intro ⟨by kernel_rfl, by kernel_rfl⟩ ?_)
    | (refine EqX.mk (by first | rfl | kernel_rfl) ?_)
    | (exact RetX.o hF (by repeat' first | exact Sub.nil _ | exact Sub.refl _ | refine Sub.agg ?_ | refine Sub.tup ?_ | refine Sub.fn ?_ | exact SubL.nil | refine SubL.cons ?_ ?_ | refine Sub.sl _ ?_ | exact SubE.nil | refine SubE.cons ?_ ?_))

def R_reorder_Add (r : (List Trk) × (List T_api_Event) × Int) : AV := .tup [.sl 4 (List.map aTrk (r.1)), .sl 5 (List.map e_api_Event (r.2.1)), aI (r.2.2)]
theorem con_reorder_Add {n : Nat} {a0 : (List Trk)} {a1 : (List T_api_Event)} {a2 : T_api_Message} {r : (List Trk) × (List T_api_Event) × Int} (hF : F_reorder_Add n a0 a1 a2 = some r) : Con E0 false 14 [.sl 4 (List.map aTrk (a0)), .sl 5 (List.map e_api_Event (a1)), .agg [aI (a2.fKind), aI (a2.fEvent.fSource), aI (a2.fEvent.fSeq), aI (a2.fEvent.fType), aI (a2.fEvent.fTime), .sl 3 (List.map e_api_Value (a2.fEvent.fValues)), aI (a2.fSource), aI (a2.fSeq), aI (a2.fTime)]] (R_reorder_Add r) := by
  unfold F_reorder_Add at hF
  refine Con.walk _ Tryz.func14 rfl (enters_of Tryz.func14 rfl rfl) rfl (Or.inl rfl) ?_
  repeat' first
    | (refine AW.step ?_; conv => whnf)
    | (refine CondX.o hF (fun hF => ?_) (fun hF => ?_))
    | (refine CondX.t ?_)
    | (refine CondX.f ?_)
    | (refine CallX.o hF R_reorder_check (fun a h => con_reorder_check h) (fun a hF => ?_))
    | (refine CallX.o hF R_watermark_Receive (fun a h => con_watermark_Receive h) (fun a hF => ?_))
    | (refine CallX.o hF R_reorder_copied (fun a h => con_reorder_copied h) (fun a hF => ?_))
    | (refine CallX.o hF R_stream_Insert (fun a h => con_stream_Insert h) (fun a hF => ?_))
    | (refine And.intro ⟨by kernel_rfl, by kernel_rfl⟩ ?_)
    | (refine EqX.mk (by first | rfl | kernel_rfl) ?_)
    | (exact RetX.o hF (by repeat' first | exact Sub.nil _ | exact Sub.refl _ | refine Sub.agg ?_ | refine Sub.tup ?_ | refine Sub.fn ?_ | exact SubL.nil | refine SubL.cons ?_ ?_ | refine Sub.sl _ ?_ | exact SubE.nil | refine SubE.cons ?_ ?_))

def S_reorder_release_l1 (a1 : (List T_api_Event)) (x1 : Int × Int) (v1_0 : Int) : AS := ⟨[(1, .sl 5 (List.map e_api_Event (a1))), (7, aI (x1.1)), (9, aI (v1_0))], []⟩
theorem reorder_release_l1_o {n N : Nat} {a1 : (List T_api_Event)} {x1 : Int × Int} {k1_0_0 : Int → Int → Option ((List T_api_Event) × (List T_api_Event) × Int)} {R : Exit → AS → Prop} {K : List KItem} {c : Code} {σ : AS} {v0 : Int} {r : (List T_api_Event) × (List T_api_Event) × Int} (hF : F_reorder_release_l1 n a1 x1 k1_0_0 N v0 = some r) (hl : LeX E0 39 σ (S_reorder_release_l1 a1 x1 v0)) (round : ∀ m v, F_reorder_release_l1 n a1 x1 k1_0_0 (m + 1) v = some r → AW E0 39 (thenA (fun σ' => ∃ v', F_reorder_release_l1 n a1 x1 k1_0_0 m v' = some r ∧ LeX E0 39 σ' (S_reorder_release_l1 a1 x1 v')) (AW E0 39 R K)) [.code c] .normal (S_reorder_release_l1 a1 x1 v)) : LoopX E0 39 (fun next σ' => AW E0 39 (thenA next (AW E0 39 R K)) [.code c] .normal σ') σ :=
  LoopA.o (S := S_reorder_release_l1 a1 x1) hF (fun _ => rfl) hl round
def R_reorder_release (r : (List T_api_Event) × (List T_api_Event) × Int) : AV := .tup [.sl 5 (List.map e_api_Event (r.1)), .sl 5 (List.map e_api_Event (r.2.1)), aI (r.2.2)]
theorem con_reorder_release {n : Nat} {a0 : (List Trk)} {a1 : (List T_api_Event)} {r : (List T_api_Event) × (List T_api_Event) × Int} (hF : F_reorder_release n a0 a1 = some r) : Con E0 false 60 [.sl 4 (List.map aTrk (a0)), .sl 5 (List.map e_api_Event (a1))] (R_reorder_release r) := by
  unfold F_reorder_release at hF
  refine Con.walk _ Tryz.func60 rfl (enters_of Tryz.func60 rfl rfl) rfl (Or.inl rfl) ?_
  repeat' first
    | (refine AW.step ?_; conv => whnf)
    | (refine CondX.o hF (fun hF => ?_) (fun hF => ?_))
    | (refine CondX.t ?_)
    | (refine CondX.f ?_)
    | (refine CallX.o hF R_watermark_Global (fun a h => con_watermark_Global h) (fun a hF => ?_))
    | (refine SlsX.o e_api_Event hF (fun l hF => ?_))
    | (refine CallX.o hF R_reorder_copied (fun a h => con_reorder_copied h) (fun a hF => ?_))
    | (refine IdxX.o e_api_Event hF (fun x hF => ?_))
    | (exact ⟨_, hF, LeX.of [] rfl ⟨⟨rfl, rfl⟩, ⟨rfl, rfl⟩, ⟨rfl, rfl⟩, trivial⟩ trivial⟩)
    | (refine reorder_release_l1_o hF (LeX.of [] rfl ⟨⟨rfl, rfl⟩, ⟨rfl, rfl⟩, ⟨rfl, rfl⟩, trivial⟩ trivial) (fun m v hF => ?_); unfold F_reorder_release_l1 at hF)
    | (refine And.intro ⟨by kernel_rfl, by kernel_rfl⟩ ?_)
    | (refine EqX.mk (by first | rfl | kernel_rfl) ?_)
    | (exact RetX.o hF (by repeat' first | exact Sub.nil _ | exact Sub.refl _ | refine Sub.agg ?_ | refine Sub.tup ?_ | refine Sub.fn ?_ | exact SubL.nil | refine SubL.cons ?_ ?_ | refine Sub.sl _ ?_ | exact SubE.nil | refine SubE.cons ?_ ?_))

def R_reorder_Release (r : (List T_api_Event) × (List T_api_Event) × Int) : AV := .tup [.sl 5 (List.map e_api_Event (r.1)), .sl 5 (List.map e_api_Event (r.2.1)), aI (r.2.2)]
theorem con_reorder_Release {n : Nat} {a0 : (List Trk)} {a1 : (List T_api_Event)} {r : (List T_api_Event) × (List T_api_Event) × Int} (hF : F_reorder_Release n a0 a1 = some r) : Con E0 false 29 [.sl 4 (List.map aTrk (a0)), .sl 5 (List.map e_api_Event (a1))] (R_reorder_Release r) := by
  unfold F_reorder_Release at hF
  refine Con.walk _ Tryz.func29 rfl (enters_of Tryz.func29 rfl rfl) rfl (Or.inl rfl) ?_
  repeat' first
    | (refine AW.step ?_; conv => whnf)
    | (refine CondX.o hF (fun hF => ?_) (fun hF => ?_))
    | (refine CondX.t ?_)
    | (refine CondX.f ?_)
    | (refine CallX.o hF R_reorder_check (fun a h => con_reorder_check h) (fun a hF => ?_))
    | (refine CallX.o hF R_reorder_release (fun a h => con_reorder_release h) (fun a hF => ?_))
    | (refine And.intro ⟨by kernel_rfl, by kernel_rfl⟩ ?_)
    | (refine EqX.mk (by first | rfl | kernel_rfl) ?_)
    | (exact RetX.o hF (by repeat' first | exact Sub.nil _ | exact Sub.refl _ | refine Sub.agg ?_ | refine Sub.tup ?_ | refine Sub.fn ?_ | exact SubL.nil | refine SubL.cons ?_ ?_ | refine Sub.sl _ ?_ | exact SubE.nil | refine SubE.cons ?_ ?_))

def R_reorder_begin (r : (List Trk) × Int) : AV := .tup [.sl 4 (List.map aTrk (r.1)), aI (r.2)]
theorem con_reorder_begin {n : Nat} {a0 : Int} {a1 : (List T_api_Message)} {r : (List Trk) × Int} (hF : F_reorder_begin n a0 a1 = some r) : Con E0 false 55 [aI (a0), .sl 9 (List.map e_api_Message (a1))] (R_reorder_begin r) := by
  unfold F_reorder_begin at hF
  refine Con.walk _ Tryz.func55 rfl (enters_of Tryz.func55 rfl rfl) rfl (Or.inl rfl) ?_
  repeat' first
    | (refine AW.step ?_; conv => whnf)
    | (refine CondX.o hF (fun hF => ?_) (fun hF => ?_))
    | (refine CondX.t ?_)
    | (refine CondX.f ?_)
    | (refine CallX.o hF R_reorder_Begin (fun a h => con_reorder_Begin h) (fun a hF => ?_))
    | (refine And.intro ⟨by kernel_rfl, by kernel_rfl⟩ ?_)
    | (refine EqX.mk (by first | rfl | kernel_rfl) ?_)
    | (exact RetX.o hF (by repeat' first | exact Sub.nil _ | exact Sub.refl _ | refine Sub.agg ?_ | refine Sub.tup ?_ | refine Sub.fn ?_ | exact SubL.nil | refine SubL.cons ?_ ?_ | refine Sub.sl _ ?_ | exact SubE.nil | refine SubE.cons ?_ ?_))

def R_tidegateref37_Begin (r : (List Trk) × Int) : AV := .tup [.sl 4 (List.map aTrk (r.1)), aI (r.2)]
theorem con_tidegateref37_Begin {n : Nat} {a0 : Int} {r : (List Trk) × Int} (hF : F_tidegateref37_Begin n a0 = some r) : Con E0 false 17 [aI (a0)] (R_tidegateref37_Begin r) := by
  unfold F_tidegateref37_Begin at hF
  refine Con.walk _ Tryz.func17 rfl (enters_of Tryz.func17 rfl rfl) rfl (Or.inl rfl) ?_
  repeat' first
    | (refine AW.step ?_; conv => whnf)
    | (refine CondX.o hF (fun hF => ?_) (fun hF => ?_))
    | (refine CondX.t ?_)
    | (refine CondX.f ?_)
    | (refine CallX.o hF R_tidegateref36_Begin (fun a h => con_tidegateref36_Begin h) (fun a hF => ?_))
    | (refine And.intro ⟨by kernel_rfl, by kernel_rfl⟩ ?_)
    | (refine EqX.mk (by first | rfl | kernel_rfl) ?_)
    | (exact RetX.o hF (by repeat' first | exact Sub.nil _ | exact Sub.refl _ | refine Sub.agg ?_ | refine Sub.tup ?_ | refine Sub.fn ?_ | exact SubL.nil | refine SubL.cons ?_ ?_ | refine Sub.sl _ ?_ | exact SubE.nil | refine SubE.cons ?_ ?_))

def R_tidegateref37_Add (r : (List Trk) × (List T_api_Event) × Int) : AV := .tup [.sl 4 (List.map aTrk (r.1)), .sl 5 (List.map e_api_Event (r.2.1)), aI (r.2.2)]
theorem con_tidegateref37_Add {n : Nat} {a0 : (List Trk)} {a1 : (List T_api_Event)} {a2 : T_api_Message} {r : (List Trk) × (List T_api_Event) × Int} (hF : F_tidegateref37_Add n a0 a1 a2 = some r) : Con E0 false 15 [.sl 4 (List.map aTrk (a0)), .sl 5 (List.map e_api_Event (a1)), .agg [aI (a2.fKind), aI (a2.fEvent.fSource), aI (a2.fEvent.fSeq), aI (a2.fEvent.fType), aI (a2.fEvent.fTime), .sl 3 (List.map e_api_Value (a2.fEvent.fValues)), aI (a2.fSource), aI (a2.fSeq), aI (a2.fTime)]] (R_tidegateref37_Add r) := by
  unfold F_tidegateref37_Add at hF
  refine Con.walk _ Tryz.func15 rfl (enters_of Tryz.func15 rfl rfl) rfl (Or.inl rfl) ?_
  repeat' first
    | (refine AW.step ?_; conv => whnf)
    | (refine CondX.o hF (fun hF => ?_) (fun hF => ?_))
    | (refine CondX.t ?_)
    | (refine CondX.f ?_)
    | (refine CallX.o hF R_tidegateref36_Check (fun a h => con_tidegateref36_Check h) (fun a hF => ?_))
    | (refine CallX.o hF R_tidegateref05_Check (fun a h => con_tidegateref05_Check h) (fun a hF => ?_))
    | (refine CallX.o hF R_tidegateref36_Receive (fun a h => con_tidegateref36_Receive h) (fun a hF => ?_))
    | (refine CallX.o hF R_tidegateref05_Insert (fun a h => con_tidegateref05_Insert h) (fun a hF => ?_))
    | (refine And.intro ⟨by kernel_rfl, by kernel_rfl⟩ ?_)
    | (refine EqX.mk (by first | rfl | kernel_rfl) ?_)
    | (exact RetX.o hF (by repeat' first | exact Sub.nil _ | exact Sub.refl _ | refine Sub.agg ?_ | refine Sub.tup ?_ | refine Sub.fn ?_ | exact SubL.nil | refine SubL.cons ?_ ?_ | refine Sub.sl _ ?_ | exact SubE.nil | refine SubE.cons ?_ ?_))

def S_tidegateref37_Release_l1 (a1 : (List T_api_Event)) (x1 : Int × Int) (v1_0 : Int) : AS := ⟨[(1, .sl 5 (List.map e_api_Event (a1))), (7, aI (x1.1)), (10, aI (v1_0))], []⟩
theorem tidegateref37_Release_l1_o {n N : Nat} {a1 : (List T_api_Event)} {x1 : Int × Int} {k1_0_0 : Int → Option ((List T_api_Event) × (List T_api_Event) × Int)} {R : Exit → AS → Prop} {K : List KItem} {c : Code} {σ : AS} {v0 : Int} {r : (List T_api_Event) × (List T_api_Event) × Int} (hF : F_tidegateref37_Release_l1 n a1 x1 k1_0_0 N v0 = some r) (hl : LeX E0 45 σ (S_tidegateref37_Release_l1 a1 x1 v0)) (round : ∀ m v, F_tidegateref37_Release_l1 n a1 x1 k1_0_0 (m + 1) v = some r → AW E0 45 (thenA (fun σ' => ∃ v', F_tidegateref37_Release_l1 n a1 x1 k1_0_0 m v' = some r ∧ LeX E0 45 σ' (S_tidegateref37_Release_l1 a1 x1 v')) (AW E0 45 R K)) [.code c] .normal (S_tidegateref37_Release_l1 a1 x1 v)) : LoopX E0 45 (fun next σ' => AW E0 45 (thenA next (AW E0 45 R K)) [.code c] .normal σ') σ :=
  LoopA.o (S := S_tidegateref37_Release_l1 a1 x1) hF (fun _ => rfl) hl round
def R_tidegateref37_Release (r : (List T_api_Event) × (List T_api_Event) × Int) : AV := .tup [.sl 5 (List.map e_api_Event (r.1)), .sl 5 (List.map e_api_Event (r.2.1)), aI (r.2.2)]
theorem con_tidegateref37_Release {n : Nat} {a0 : (List Trk)} {a1 : (List T_api_Event)} {r : (List T_api_Event) × (List T_api_Event) × Int} (hF : F_tidegateref37_Release n a0 a1 = some r) : Con E0 false 30 [.sl 4 (List.map aTrk (a0)), .sl 5 (List.map e_api_Event (a1))] (R_tidegateref37_Release r) := by
  unfold F_tidegateref37_Release at hF
  refine Con.walk _ Tryz.func30 rfl (enters_of Tryz.func30 rfl rfl) rfl (Or.inl rfl) ?_
  repeat' first
    | (refine AW.step ?_; conv => whnf)
    | (refine CondX.o hF (fun hF => ?_) (fun hF => ?_))
    | (refine CondX.t ?_)
    | (refine CondX.f ?_)
    | (refine CallX.o hF R_tidegateref36_Global (fun a h => con_tidegateref36_Global h) (fun a hF => ?_))
    | (refine CallX.o hF R_tidegateref05_Check (fun a h => con_tidegateref05_Check h) (fun a hF => ?_))
    | (refine SlsX.o e_api_Event hF (fun l hF => ?_))
    | (refine IdxX.o e_api_Event hF (fun x hF => ?_))
    | (exact ⟨_, hF, LeX.of [] rfl ⟨⟨rfl, rfl⟩, ⟨rfl, rfl⟩, ⟨rfl, rfl⟩, trivial⟩ trivial⟩)
    | (refine tidegateref37_Release_l1_o hF (LeX.of [] rfl ⟨⟨rfl, rfl⟩, ⟨rfl, rfl⟩, ⟨rfl, rfl⟩, trivial⟩ trivial) (fun m v hF => ?_); unfold F_tidegateref37_Release_l1 at hF)
    | (refine And.intro ⟨by kernel_rfl, by kernel_rfl⟩ ?_)
    | (refine EqX.mk (by first | rfl | kernel_rfl) ?_)
    | (exact RetX.o hF (by repeat' first | exact Sub.nil _ | exact Sub.refl _ | refine Sub.agg ?_ | refine Sub.tup ?_ | refine Sub.fn ?_ | exact SubL.nil | refine SubL.cons ?_ ?_ | refine Sub.sl _ ?_ | exact SubE.nil | refine SubE.cons ?_ ?_))

def S_tidegateref37_Few_l1 (a0 : (List T_api_Message)) (v1_0 : Int) : AS := ⟨[(0, .sl 9 (List.map e_api_Message (a0))), (3, aI (v1_0))], []⟩
theorem tidegateref37_Few_l1_o {n N : Nat} {a0 : (List T_api_Message)} {k1_0_0 : Option (Bool)} {R : Exit → AS → Prop} {K : List KItem} {c : Code} {σ : AS} {v0 : Int} {r : Bool} (hF : F_tidegateref37_Few_l1 n a0 k1_0_0 N v0 = some r) (hl : LeX E0 25 σ (S_tidegateref37_Few_l1 a0 v0)) (round : ∀ m v, F_tidegateref37_Few_l1 n a0 k1_0_0 (m + 1) v = some r → AW E0 25 (thenA (fun σ' => ∃ v', F_tidegateref37_Few_l1 n a0 k1_0_0 m v' = some r ∧ LeX E0 25 σ' (S_tidegateref37_Few_l1 a0 v')) (AW E0 25 R K)) [.code c] .normal (S_tidegateref37_Few_l1 a0 v)) : LoopX E0 25 (fun next σ' => AW E0 25 (thenA next (AW E0 25 R K)) [.code c] .normal σ') σ :=
  LoopA.o (S := S_tidegateref37_Few_l1 a0) hF (fun _ => rfl) hl round
def R_tidegateref37_Few (r : Bool) : AV := .bool (r)
theorem con_tidegateref37_Few {n : Nat} {a0 : (List T_api_Message)} {r : Bool} (hF : F_tidegateref37_Few n a0 = some r) : Con E0 true 12 [.sl 9 (List.map e_api_Message (a0))] (R_tidegateref37_Few r) := by
  unfold F_tidegateref37_Few at hF
  refine Con.walk _ Tryz.func12 rfl (enters_of Tryz.func12 rfl rfl) rfl (Or.inr rfl) ?_
  repeat' first
    | (refine AW.step ?_; conv => whnf)
    | (refine CondX.o hF (fun hF => ?_) (fun hF => ?_))
    | (refine CondX.t ?_)
    | (refine CondX.f ?_)
    | (refine IdxX.o e_api_Message hF (fun x hF => ?_))
    | (exact ⟨_, hF, LeX.of [] rfl ⟨⟨rfl, rfl⟩, ⟨rfl, rfl⟩, trivial⟩ trivial⟩)
    | (refine tidegateref37_Few_l1_o hF (LeX.of [] rfl ⟨⟨rfl, rfl⟩, ⟨rfl, rfl⟩, trivial⟩ trivial) (fun m v hF => ?_); unfold F_tidegateref37_Few_l1 at hF)
    | (refine And.intro ⟨by kernel_rfl, by kernel_rfl⟩ ?_)
    | (refine EqX.mk (by first | rfl | kernel_rfl) ?_)
    | (exact RetX.o hF (by repeat' first | exact Sub.nil _ | exact Sub.refl _ | refine Sub.agg ?_ | refine Sub.tup ?_ | refine Sub.fn ?_ | exact SubL.nil | refine SubL.cons ?_ ?_ | refine Sub.sl _ ?_ | exact SubE.nil | refine SubE.cons ?_ ?_))

def M_reorder_steps (a0 : (List Trk)) (a1 : (List T_api_Message)) : List (Nat × Ent) := []
def N_reorder_steps (r : (List Trk) × (List T_api_Message)) : List (Nat × Ent) := [(2, .box 22 [.sl 4 (List.map aTrk (r.1))]), (3, .box 32 [.sl 9 (List.map e_api_Message (r.2))])]
def R_reorder_steps (r : (List Trk) × (List T_api_Message)) : AV := .fn 88 [.ptr 2 0, .ptr 3 0]
def Z_reorder_steps (r : (List Trk) × (List T_api_Message)) : AS := ⟨[(4, .fn 88 [.ptr 2 0, .ptr 3 0])], N_reorder_steps r⟩
theorem con_reorder_steps {n : Nat} {a0 : (List Trk)} {a1 : (List T_api_Message)} {r : (List Trk) × (List T_api_Message)} (hF : F_reorder_steps n a0 a1 = some r) : ConG E0.P none (CalF E0.P 56 0) [.sl 4 (List.map aTrk (a0)), .sl 9 (List.map e_api_Message (a1))] [] (M_reorder_steps a0 a1) (R_reorder_steps r) (N_reorder_steps r) := by
  unfold F_reorder_steps at hF
  refine ConG.walk (E := (E0p 2)) (caps := []) _ Tryz.func56 rfl rfl rfl rfl rfl ?_
  repeat' first
    | (refine AW.step ?_; conv => whnf)
    | (refine CondX.o hF (fun hF => ?_) (fun hF => ?_))
    | (refine CondX.t ?_)
    | (refine CondX.f ?_)
    | (refine GX.o (res := R_reorder_steps) (meF := N_reorder_steps) hF ?_; exact GX.mk (Z_reorder_steps _) (LeX.of [] rfl ⟨⟨rfl, rfl⟩, trivial⟩ ⟨⟨rfl, rfl⟩, ⟨rfl, rfl⟩, trivial⟩) rfl _ rfl (by repeat' first | exact Sub.nil _ | exact Sub.refl _ | refine Sub.agg ?_ | refine Sub.tup ?_ | refine Sub.fn ?_ | exact SubL.nil | refine SubL.cons ?_ ?_ | refine Sub.sl _ ?_ | exact SubE.nil | refine SubE.cons ?_ ?_) [] trivial rfl)
    | (refine And.intro ⟨by kernel_rfl, by kernel_rfl⟩ ?_)
    | (refine EqX.mk (by first | rfl | kernel_rfl) ?_)

def M_reorder_Peak_b5 (m0 : Int) : List (Nat × Ent) := [(100000, .box 3 [aI (m0)])]
def N_reorder_Peak_b5 (r : Int) : List (Nat × Ent) := [(100000, .box 3 [aI (r)])]
def Z_reorder_Peak_b5 (r : Int) : AS := ⟨[(8, .ptr 100000 0)], N_reorder_Peak_b5 r⟩
def M_reorder_steps_1_1_s97 (a0 : T_api_Message) (m0 : (List Trk)) (m1 : (List T_api_Event)) : List (Nat × Ent) := [(100000, .box 22 [.sl 4 (List.map aTrk (m0))]), (100001, .box 23 [.sl 5 (List.map e_api_Event (m1))])]
def N_reorder_steps_1_1_s97 (r : (List Trk) × (List T_api_Event)) : List (Nat × Ent) := [(100000, .box 22 [.sl 4 (List.map aTrk (r.1))]), (100001, .box 23 [.sl 5 (List.map e_api_Event (r.2))])]
def R_reorder_steps_1_1_s97 (r : (List Trk) × (List T_api_Event)) : AV := .tup []
def Z_reorder_steps_1_1_s97 (r : (List Trk) × (List T_api_Event)) : AS := ⟨[(1, .ptr 100000 0), (2, .ptr 100001 0)], N_reorder_steps_1_1_s97 r⟩
theorem con_reorder_steps_1_1_s97 {n : Nat} {a0 : T_api_Message} {m0 : (List Trk)} {m1 : (List T_api_Event)} {r : (List Trk) × (List T_api_Event)} (hF : F_reorder_steps_1_1_s97 n a0 m0 m1 = some r) : ConG E0.P none (CalF E0.P 89 0) [.agg [aI (a0.fKind), aI (a0.fEvent.fSource), aI (a0.fEvent.fSeq), aI (a0.fEvent.fType), aI (a0.fEvent.fTime), .sl 3 (List.map e_api_Value (a0.fEvent.fValues)), aI (a0.fSource), aI (a0.fSeq), aI (a0.fTime)], .ptr 100000 0, .ptr 100001 0] [] (M_reorder_steps_1_1_s97 a0 m0 m1) (R_reorder_steps_1_1_s97 r) (N_reorder_steps_1_1_s97 r) := by
  unfold F_reorder_steps_1_1_s97 at hF
  refine ConG.walk (E := (E0p 3)) (caps := []) _ Tryz.func89 rfl rfl rfl rfl rfl ?_
  repeat' first
    | (refine AW.step ?_; conv => whnf)
    | (refine CondX.o hF (fun hF => ?_) (fun hF => ?_))
    | (refine CondX.t ?_)
    | (refine CondX.f ?_)
    | (refine CallX.o hF R_reorder_Add (fun a h => Con.env rfl rfl (con_reorder_Add h)) (fun a hF => ?_))
    | (refine GX.o (res := R_reorder_steps_1_1_s97) (meF := N_reorder_steps_1_1_s97) hF ?_; exact GX.mk (Z_reorder_steps_1_1_s97 _) (LeX.of [] rfl ⟨⟨rfl, rfl⟩, ⟨rfl, rfl⟩, trivial⟩ ⟨⟨rfl, rfl⟩, ⟨rfl, rfl⟩, trivial⟩) rfl _ rfl (by repeat' first | exact Sub.nil _ | exact Sub.refl _ | refine Sub.agg ?_ | refine Sub.tup ?_ | refine Sub.fn ?_ | exact SubL.nil | refine SubL.cons ?_ ?_ | refine Sub.sl _ ?_ | exact SubE.nil | refine SubE.cons ?_ ?_) [] trivial rfl)
    | (refine And.intro ⟨by kernel_rfl, by kernel_rfl⟩ ?_)
    | (refine EqX.mk (by first | rfl | kernel_rfl) ?_)

def S_reorder_steps_1_l1 (yl_l : Nat) (yl_T : Array Value) (m2 : (List T_api_Message)) (v1_0 : Int × Int × (List Trk) × (List T_api_Event)) : AS := ⟨[(0, .yld yl_l yl_T [.any, .any, .any, .any, .any, .any, .any, .any, .ptr 100000 0]), (1, .ptr 100001 0), (2, .ptr 100002 0), (4, .ptr 4 0), (5, .fn 89 [.ptr 100001 0, .ptr 4 0]), (12, .sl 9 (List.map e_api_Message (m2))), (13, aI ((((List.map e_api_Message (m2)).length : Nat) : Int))), (14, aI (v1_0.1))], [(100000, .box 3 [aI (v1_0.2.1)]), (100001, .box 22 [.sl 4 (List.map aTrk (v1_0.2.2.1))]), (100002, .box 32 [.sl 9 (List.map e_api_Message (m2))]), (4, .box 23 [.sl 5 (List.map e_api_Event (v1_0.2.2.2))])]⟩
theorem reorder_steps_1_l1_o {n N : Nat} {yl_l : Nat} {yl_R : Obj} {yl_T : Array Value} {m2 : (List T_api_Message)} {k1_0_0 : Int → (List Trk) → Option (Int × (List Trk) × (List T_api_Message))} {R : Exit → AS → Prop} {K : List KItem} {c : Code} {σ : AS} {v0 : Int × Int × (List Trk) × (List T_api_Event)} {r : Int × (List Trk) × (List T_api_Message)} (hF : F_reorder_steps_1_l1 n m2 k1_0_0 N v0 = some r) (hl : LeX (E0y yl_l yl_R 3) 38 σ (S_reorder_steps_1_l1 yl_l yl_T m2 v0)) (round : ∀ m v, F_reorder_steps_1_l1 n m2 k1_0_0 (m + 1) v = some r → AW (E0y yl_l yl_R 3) 38 (thenA (fun σ' => ∃ v', F_reorder_steps_1_l1 n m2 k1_0_0 m v' = some r ∧ LeX (E0y yl_l yl_R 3) 38 σ' (S_reorder_steps_1_l1 yl_l yl_T m2 v')) (AW (E0y yl_l yl_R 3) 38 R K)) [.code c] .normal (S_reorder_steps_1_l1 yl_l yl_T m2 v)) : LoopX (E0y yl_l yl_R 3) 38 (fun next σ' => AW (E0y yl_l yl_R 3) 38 (thenA next (AW (E0y yl_l yl_R 3) 38 R K)) [.code c] .normal σ') σ :=
  LoopA.o (S := S_reorder_steps_1_l1 yl_l yl_T m2) hF (fun _ => rfl) hl round
def M_reorder_steps_1 (m0 : Int) (m1 : (List Trk)) (m2 : (List T_api_Message)) : List (Nat × Ent) := [(100000, .box 3 [aI (m0)]), (100001, .box 22 [.sl 4 (List.map aTrk (m1))]), (100002, .box 32 [.sl 9 (List.map e_api_Message (m2))])]
def N_reorder_steps_1 (r : Int × (List Trk) × (List T_api_Message)) : List (Nat × Ent) := [(100000, .box 3 [aI (r.1)]), (100001, .box 22 [.sl 4 (List.map aTrk (r.2.1))]), (100002, .box 32 [.sl 9 (List.map e_api_Message (r.2.2))])]
def R_reorder_steps_1 (r : Int × (List Trk) × (List T_api_Message)) : AV := .tup []
def Z_reorder_steps_1 (yl_l : Nat) (yl_T : Array Value) (r : Int × (List Trk) × (List T_api_Message)) : AS := ⟨[(0, .yld yl_l yl_T [.any, .any, .any, .any, .any, .any, .any, .any, .ptr 100000 0]), (1, .ptr 100001 0), (2, .ptr 100002 0)], N_reorder_steps_1 r⟩
theorem con_reorder_steps_1 {n : Nat} {m0 : Int} {m1 : (List Trk)} {m2 : (List T_api_Message)} {r : Int × (List Trk) × (List T_api_Message)} (hF : F_reorder_steps_1 n m0 m1 m2 = some r) (yl_l : Nat) (yl_R : Obj) (yl_T : Array Value) (hY : ∀ {n : Nat} {a0 : T_reorder_step} {m0 : Int} {r : Int}, F_reorder_Peak_b5 n a0 m0 = some r → ConG E0.P (some (yl_l, yl_R)) (fun vs cs w R => cs = yl_T → CalY E0.P yl_l vs cs w R) [.agg [.sl 5 (List.map e_api_Event (a0.freleased)), aI (a0.fwaiting), aI (a0.fmark)]] [.any, .any, .any, .any, .any, .any, .any, .any, .ptr 100000 0] (M_reorder_Peak_b5 m0) (.bool true) (N_reorder_Peak_b5 r)) : ConG E0.P (some (yl_l, yl_R)) (CalF E0.P 88 0) [.yld yl_l yl_T [.any, .any, .any, .any, .any, .any, .any, .any, .ptr 100000 0], .ptr 100001 0, .ptr 100002 0] [] (M_reorder_steps_1 m0 m1 m2) (R_reorder_steps_1 r) (N_reorder_steps_1 r) := by
  unfold F_reorder_steps_1 at hF
  refine ConG.walk (E := (E0y yl_l yl_R 3)) (caps := []) _ Tryz.func88 rfl rfl rfl rfl rfl ?_
  repeat' first
    | (refine AW.step ?_; conv => whnf)
    | (refine CondX.o hF (fun hF => ?_) (fun hF => ?_))
    | (refine CondX.t ?_)
    | (refine CondX.f ?_)
    | (refine GX.o (res := R_reorder_steps_1) (meF := N_reorder_steps_1) hF ?_; exact GX.mk (Z_reorder_steps_1 yl_l yl_T _) (LeX.of [] rfl ⟨⟨rfl, rfl⟩, ⟨rfl, rfl⟩, ⟨rfl, rfl⟩, trivial⟩ ⟨⟨rfl, rfl⟩, ⟨rfl, rfl⟩, ⟨rfl, rfl⟩, trivial⟩) rfl _ rfl (by repeat' first | exact Sub.nil _ | exact Sub.refl _ | refine Sub.agg ?_ | refine Sub.tup ?_ | refine Sub.fn ?_ | exact SubL.nil | refine SubL.cons ?_ ?_ | refine Sub.sl _ ?_ | exact SubE.nil | refine SubE.cons ?_ ?_) [100000] ⟨⟨0, 0, 8, _, _, _, _, _, _, rfl, rfl, rfl, rfl, rfl⟩, trivial⟩ rfl)
    | (refine IdxX.o e_api_Message hF (fun x hF => ?_))
    | (refine CallC.oM hF [(100000, 100001), (100001, 4)] [(100000, 100001), (100001, 4)] _ _ N_reorder_steps_1_1_s97 R_reorder_steps_1_1_s97 [] (fun a h => ConG.up (con_reorder_steps_1_1_s97 h)) (enters_of Tryz.func89 rfl rfl) rfl rfl rfl ⟨⟨rfl, rfl⟩, ⟨⟨rfl, rfl⟩, trivial⟩⟩ (fun a => ⟨rfl, rfl, rfl, rfl, rfl, rfl, rfl, rfl⟩) (fun a hF => ?_))
    | (refine CallX.oM hF [(100000, 100001), (100001, 4)] [(100000, 100001), (100001, 4)] _ _ N_reorder_steps_1_1_s97 R_reorder_steps_1_1_s97 [] (fun a h => ConG.up (con_reorder_steps_1_1_s97 h)) (enters_of Tryz.func89 rfl rfl) rfl rfl rfl ⟨⟨rfl, rfl⟩, ⟨⟨rfl, rfl⟩, trivial⟩⟩ (fun a => ⟨rfl, rfl, rfl, rfl, rfl, rfl, rfl, rfl⟩) (fun a hF => ?_))
    | (refine CallX.o hF R_reorder_release (fun a h => Con.env rfl rfl (con_reorder_release h)) (fun a hF => ?_))
    | (refine YldX.oM hF [(100000, 100000)] [(100000, 100000)] _ _ _ N_reorder_Peak_b5 (fun _ => AV.bool true) [] (fun a h => hY h) rfl rfl rfl rfl rfl ⟨⟨rfl, rfl⟩, trivial⟩ (fun a => ⟨rfl, rfl, rfl, rfl, rfl, rfl, rfl, rfl⟩) (fun a hF => ?_))
    | (exact ⟨_, hF, LeX.of [] rfl ⟨⟨rfl, rfl⟩, ⟨rfl, rfl⟩, ⟨rfl, rfl⟩, ⟨rfl, rfl⟩, ⟨rfl, rfl⟩, ⟨rfl, rfl⟩, ⟨rfl, rfl⟩, ⟨rfl, rfl⟩, trivial⟩ ⟨⟨rfl, rfl⟩, ⟨rfl, rfl⟩, ⟨rfl, rfl⟩, ⟨rfl, rfl⟩, trivial⟩⟩)
    | (refine reorder_steps_1_l1_o hF (LeX.trans (LeX.putE 4 _ _ rfl (EntSub.box _ (by repeat' first | exact Sub.nil _ | exact Sub.refl _ | refine Sub.agg ?_ | refine Sub.tup ?_ | exact SubL.nil | refine SubL.cons ?_ ?_))) (LeX.of [] rfl ⟨⟨rfl, rfl⟩, ⟨rfl, rfl⟩, ⟨rfl, rfl⟩, ⟨rfl, rfl⟩, ⟨rfl, rfl⟩, ⟨rfl, rfl⟩, ⟨rfl, rfl⟩, ⟨rfl, rfl⟩, trivial⟩ ⟨⟨rfl, rfl⟩, ⟨rfl, rfl⟩, ⟨rfl, rfl⟩, ⟨rfl, rfl⟩, trivial⟩)) (fun m v hF => ?_); unfold F_reorder_steps_1_l1 at hF)
    | (refine And.intro ⟨by kernel_rfl, by kernel_rfl⟩ ?_)
    | (refine EqX.mk (by first | rfl | kernel_rfl) ?_)

def R_reorder_Peak (r : Int × Int) : AV := .tup [aI (r.1), aI (r.2)]
theorem con_reorder_Peak {n : Nat} {a0 : Int} {a1 : (List T_api_Message)} {r : Int × Int} (hF : F_reorder_Peak n a0 a1 = some r) : Con E0 true 22 [aI (a0), .sl 9 (List.map e_api_Message (a1))] (R_reorder_Peak r) := by
  unfold F_reorder_Peak at hF
  refine Con.walkM (E := E0r) _ Tryz.func22 rfl (enters_of Tryz.func22 rfl rfl) rfl (Or.inr rfl) ?_ rfl rfl rfl
  repeat' first
    | (refine AW.step ?_; conv => whnf)
    | (refine CondX.o hF (fun hF => ?_) (fun hF => ?_))
    | (refine CondX.t ?_)
    | (refine CondX.f ?_)
    | (refine CallX.o hF R_reorder_begin (fun a h => Con.env rfl rfl (con_reorder_begin h)) (fun a hF => ?_))
    | (refine CallC.oM hF [] [(2, 22000000), (3, 22000001)] _ _ N_reorder_steps R_reorder_steps [] (fun a h => ConG.up (con_reorder_steps h)) (enters_of Tryz.func56 rfl rfl) rfl rfl rfl trivial (fun a => ⟨rfl, rfl, rfl, rfl, rfl, rfl, rfl, rfl⟩) (fun a hF => ?_))
    | (refine CallX.oM hF [] [(2, 22000000), (3, 22000001)] _ _ N_reorder_steps R_reorder_steps [] (fun a h => ConG.up (con_reorder_steps h)) (enters_of Tryz.func56 rfl rfl) rfl rfl rfl trivial (fun a => ⟨rfl, rfl, rfl, rfl, rfl, rfl, rfl, rfl⟩) (fun a hF => ?_))
    | (refine BX.o (meF := N_reorder_Peak_b5) hF ?_; exact BX.mk (Z_reorder_Peak_b5 _) (LeX.of [] rfl ⟨⟨rfl, rfl⟩, trivial⟩ ⟨⟨rfl, rfl⟩, trivial⟩) rfl rfl)
    | (refine RngX.oM hF [(100000, 8), (100001, 22000000), (100002, 22000001)] [(100000, 8), (100001, 22000000), (100002, 22000001)] _ _ _ N_reorder_steps_1 [] (fun x h l D fn T hT => con_reorder_steps_1 h l _ T (fun hF => ConG.round (E := E0p 9) rfl rfl rfl rfl rfl rfl ?_ l D fn T hT)) (enters_of Tryz.func88 rfl rfl) rfl rfl rfl rfl rfl ⟨⟨rfl, rfl⟩, trivial⟩ ⟨⟨rfl, rfl⟩, ⟨⟨rfl, rfl⟩, ⟨⟨rfl, rfl⟩, trivial⟩⟩⟩ (fun a => ⟨rfl, rfl, rfl, rfl, rfl, rfl, rfl, rfl⟩) (fun a hF => ?_))
    | (refine And.intro ⟨by kernel_rfl, by kernel_rfl⟩ ?_)
    | (refine EqX.mk (by first | rfl | kernel_rfl) ?_)
    | (exact RetX.o hF (by repeat' first | exact Sub.nil _ | exact Sub.refl _ | refine Sub.agg ?_ | refine Sub.tup ?_ | refine Sub.fn ?_ | exact SubL.nil | refine SubL.cons ?_ ?_ | refine Sub.sl _ ?_ | exact SubE.nil | refine SubE.cons ?_ ?_))

def M_reorder_Run_b6 (m0 : (List T_api_Event)) (m1 : (List Int)) : List (Nat × Ent) := [(100000, .box 23 [.row 200000]), (200000, .row 26 5 (List.map e_api_Event (m0))), (100001, .box 46 [.row 200001]), (200001, .row 3 1 (List.map aI (m1)))]
def N_reorder_Run_b6 (r : (List T_api_Event) × (List Int)) : List (Nat × Ent) := [(100000, .box 23 [.row 250000]), (250000, .row 26 5 (List.map e_api_Event (r.1))), (100001, .box 46 [.row 250001]), (250001, .row 3 1 (List.map aI (r.2)))]
def Z_reorder_Run_b6 (r : (List T_api_Event) × (List Int)) : AS := ⟨[(9, .ptr 100000 0), (10, .ptr 100001 0)], N_reorder_Run_b6 r⟩
def S_reorder_steps_1_s101_l1 (yl_l : Nat) (yl_T : Array Value) (m3 : (List T_api_Message)) (v1_0 : Int × (List Trk) × (List T_api_Event) × (List T_api_Event) × (List Int)) : AS := ⟨[(0, .yld yl_l yl_T [.any, .any, .any, .any, .any, .any, .any, .any, .any, .ptr 100000 0, .ptr 100001 0]), (1, .ptr 100002 0), (2, .ptr 100003 0), (4, .ptr 4 0), (5, .fn 89 [.ptr 100002 0, .ptr 4 0]), (12, .sl 9 (List.map e_api_Message (m3))), (13, aI ((((List.map e_api_Message (m3)).length : Nat) : Int))), (14, aI (v1_0.1))], [(100000, .box 23 [.row 36000001]), (100001, .box 46 [.row 36000003]), (100002, .box 22 [.sl 4 (List.map aTrk (v1_0.2.1))]), (100003, .box 32 [.sl 9 (List.map e_api_Message (m3))]), (4, .box 23 [.sl 5 (List.map e_api_Event (v1_0.2.2.1))]), (36000001, .row 26 5 (List.map e_api_Event (v1_0.2.2.2.1))), (36000003, .row 3 1 (List.map aI (v1_0.2.2.2.2)))]⟩
theorem reorder_steps_1_s101_l1_o {n N : Nat} {yl_l : Nat} {yl_R : Obj} {yl_T : Array Value} {m3 : (List T_api_Message)} {k1_0_0 : (List Trk) → (List T_api_Event) → (List Int) → Option ((List T_api_Event) × (List Int) × (List Trk) × (List T_api_Message))} {R : Exit → AS → Prop} {K : List KItem} {c : Code} {σ : AS} {v0 : Int × (List Trk) × (List T_api_Event) × (List T_api_Event) × (List Int)} {r : (List T_api_Event) × (List Int) × (List Trk) × (List T_api_Message)} (hF : F_reorder_steps_1_s101_l1 n m3 k1_0_0 N v0 = some r) (hl : LeX (E0y yl_l yl_R 3) 38 σ (S_reorder_steps_1_s101_l1 yl_l yl_T m3 v0)) (round : ∀ m v, F_reorder_steps_1_s101_l1 n m3 k1_0_0 (m + 1) v = some r → AW (E0y yl_l yl_R 3) 38 (thenA (fun σ' => ∃ v', F_reorder_steps_1_s101_l1 n m3 k1_0_0 m v' = some r ∧ LeX (E0y yl_l yl_R 3) 38 σ' (S_reorder_steps_1_s101_l1 yl_l yl_T m3 v')) (AW (E0y yl_l yl_R 3) 38 R K)) [.code c] .normal (S_reorder_steps_1_s101_l1 yl_l yl_T m3 v)) : LoopX (E0y yl_l yl_R 3) 38 (fun next σ' => AW (E0y yl_l yl_R 3) 38 (thenA next (AW (E0y yl_l yl_R 3) 38 R K)) [.code c] .normal σ') σ :=
  LoopA.o (S := S_reorder_steps_1_s101_l1 yl_l yl_T m3) hF (fun _ => rfl) hl round
def M_reorder_steps_1_s101 (m2 : (List Trk)) (m3 : (List T_api_Message)) : List (Nat × Ent) := [(100000, .box 23 [.nils]), (100001, .box 46 [.nils]), (100002, .box 22 [.sl 4 (List.map aTrk (m2))]), (100003, .box 32 [.sl 9 (List.map e_api_Message (m3))])]
def N_reorder_steps_1_s101 (r : (List T_api_Event) × (List Int) × (List Trk) × (List T_api_Message)) : List (Nat × Ent) := [(100000, .box 23 [.row 250000]), (250000, .row 26 5 (List.map e_api_Event (r.1))), (100001, .box 46 [.row 250001]), (250001, .row 3 1 (List.map aI (r.2.1))), (100002, .box 22 [.sl 4 (List.map aTrk (r.2.2.1))]), (100003, .box 32 [.sl 9 (List.map e_api_Message (r.2.2.2))])]
def R_reorder_steps_1_s101 (r : (List T_api_Event) × (List Int) × (List Trk) × (List T_api_Message)) : AV := .tup []
def Z_reorder_steps_1_s101 (yl_l : Nat) (yl_T : Array Value) (r : (List T_api_Event) × (List Int) × (List Trk) × (List T_api_Message)) : AS := ⟨[(0, .yld yl_l yl_T [.any, .any, .any, .any, .any, .any, .any, .any, .any, .ptr 100000 0, .ptr 100001 0]), (1, .ptr 100002 0), (2, .ptr 100003 0)], N_reorder_steps_1_s101 r⟩
theorem con_reorder_steps_1_s101 {n : Nat} {m2 : (List Trk)} {m3 : (List T_api_Message)} {r : (List T_api_Event) × (List Int) × (List Trk) × (List T_api_Message)} (hF : F_reorder_steps_1_s101 n m2 m3 = some r) (yl_l : Nat) (yl_R : Obj) (yl_T : Array Value) (hY : ∀ {n : Nat} {a0 : T_reorder_step} {m0 : (List T_api_Event)} {m1 : (List Int)} {r : (List T_api_Event) × (List Int)}, F_reorder_Run_b6 n a0 m0 m1 = some r → ConG E0.P (some (yl_l, yl_R)) (fun vs cs w R => cs = yl_T → CalY E0.P yl_l vs cs w R) [.agg [.sl 5 (List.map e_api_Event (a0.freleased)), aI (a0.fwaiting), aI (a0.fmark)]] [.any, .any, .any, .any, .any, .any, .any, .any, .any, .ptr 100000 0, .ptr 100001 0] (M_reorder_Run_b6 m0 m1) (.bool true) (N_reorder_Run_b6 r)) : ConG E0.P (some (yl_l, yl_R)) (CalF E0.P 88 0) [.yld yl_l yl_T [.any, .any, .any, .any, .any, .any, .any, .any, .any, .ptr 100000 0, .ptr 100001 0], .ptr 100002 0, .ptr 100003 0] [] (M_reorder_steps_1_s101 m2 m3) (R_reorder_steps_1_s101 r) (N_reorder_steps_1_s101 r) := by
  unfold F_reorder_steps_1_s101 at hF
  refine ConG.walk (E := (E0y yl_l yl_R 3)) (caps := []) _ Tryz.func88 rfl rfl rfl rfl rfl ?_
  repeat' first
    | (refine AW.step ?_; conv => whnf)
    | (refine CondX.o hF (fun hF => ?_) (fun hF => ?_))
    | (refine CondX.t ?_)
    | (refine CondX.f ?_)
    | (refine GX.o (res := R_reorder_steps_1_s101) (meF := N_reorder_steps_1_s101) hF ?_; exact GX.mk (Z_reorder_steps_1_s101 yl_l yl_T _) (LeX.of [(250000, 36000001), (250001, 36000003)] rfl ⟨⟨rfl, rfl⟩, ⟨rfl, rfl⟩, ⟨rfl, rfl⟩, trivial⟩ ⟨⟨rfl, rfl⟩, ⟨rfl, rfl⟩, ⟨rfl, rfl⟩, ⟨rfl, rfl⟩, ⟨rfl, rfl⟩, ⟨rfl, rfl⟩, trivial⟩) rfl _ rfl (by repeat' first | exact Sub.nil _ | exact Sub.refl _ | refine Sub.agg ?_ | refine Sub.tup ?_ | refine Sub.fn ?_ | exact SubL.nil | refine SubL.cons ?_ ?_ | refine Sub.sl _ ?_ | exact SubE.nil | refine SubE.cons ?_ ?_) [100000, 100001] ⟨⟨0, 0, 9, _, _, _, _, _, _, rfl, rfl, rfl, rfl, rfl⟩, ⟨⟨0, 0, 10, _, _, _, _, _, _, rfl, rfl, rfl, rfl, rfl⟩, trivial⟩⟩ rfl)
    | (refine IdxX.o e_api_Message hF (fun x hF => ?_))
    | (refine CallC.oM hF [(100000, 100002), (100001, 4)] [(100000, 100002), (100001, 4)] _ _ N_reorder_steps_1_1_s97 R_reorder_steps_1_1_s97 [] (fun a h => ConG.up (con_reorder_steps_1_1_s97 h)) (enters_of Tryz.func89 rfl rfl) rfl rfl rfl ⟨⟨rfl, rfl⟩, ⟨⟨rfl, rfl⟩, trivial⟩⟩ (fun a => ⟨rfl, rfl, rfl, rfl, rfl, rfl, rfl, rfl⟩) (fun a hF => ?_))
    | (refine CallX.oM hF [(100000, 100002), (100001, 4)] [(100000, 100002), (100001, 4)] _ _ N_reorder_steps_1_1_s97 R_reorder_steps_1_1_s97 [] (fun a h => ConG.up (con_reorder_steps_1_1_s97 h)) (enters_of Tryz.func89 rfl rfl) rfl rfl rfl ⟨⟨rfl, rfl⟩, ⟨⟨rfl, rfl⟩, trivial⟩⟩ (fun a => ⟨rfl, rfl, rfl, rfl, rfl, rfl, rfl, rfl⟩) (fun a hF => ?_))
    | (refine CallX.o hF R_reorder_release (fun a h => Con.env rfl rfl (con_reorder_release h)) (fun a hF => ?_))
    | (refine YldX.oM hF [(100000, 100000), (200000, 36000001), (100001, 100001), (200001, 36000003)] [(100000, 100000), (250000, 36500001), (100001, 100001), (250001, 36500003)] _ _ _ N_reorder_Run_b6 (fun _ => AV.bool true) [36000001, 36000003] (fun a h => hY h) rfl rfl rfl rfl rfl ⟨⟨rfl, rfl⟩, ⟨⟨rfl, rfl⟩, ⟨⟨rfl, rfl⟩, ⟨⟨rfl, rfl⟩, trivial⟩⟩⟩⟩ (fun a => ⟨rfl, rfl, rfl, rfl, rfl, rfl, rfl, rfl⟩) (fun a hF => ?_))
    | (exact ⟨_, hF, LeX.of [(36000001, 36500001), (36000003, 36500003)] rfl ⟨⟨rfl, rfl⟩, ⟨rfl, rfl⟩, ⟨rfl, rfl⟩, ⟨rfl, rfl⟩, ⟨rfl, rfl⟩, ⟨rfl, rfl⟩, ⟨rfl, rfl⟩, ⟨rfl, rfl⟩, trivial⟩ ⟨⟨rfl, rfl⟩, ⟨rfl, rfl⟩, ⟨rfl, rfl⟩, ⟨rfl, rfl⟩, ⟨rfl, rfl⟩, ⟨rfl, rfl⟩, ⟨rfl, rfl⟩, trivial⟩⟩)
    | (refine reorder_steps_1_s101_l1_o hF (LeX.trans (LeX.putE 4 _ _ rfl (EntSub.box _ (by repeat' first | exact Sub.nil _ | exact Sub.refl _ | refine Sub.agg ?_ | refine Sub.tup ?_ | exact SubL.nil | refine SubL.cons ?_ ?_))) (LeX.trans (LeX.adoptC 100000 0 36000001 26 5 23 _ rfl rfl rfl) (LeX.trans (LeX.adoptC 100001 0 36000003 3 1 46 _ rfl rfl rfl) (LeX.of [] rfl ⟨⟨rfl, rfl⟩, ⟨rfl, rfl⟩, ⟨rfl, rfl⟩, ⟨rfl, rfl⟩, ⟨rfl, rfl⟩, ⟨rfl, rfl⟩, ⟨rfl, rfl⟩, ⟨rfl, rfl⟩, trivial⟩ ⟨⟨rfl, rfl⟩, ⟨rfl, rfl⟩, ⟨rfl, rfl⟩, ⟨rfl, rfl⟩, ⟨rfl, rfl⟩, ⟨rfl, rfl⟩, ⟨rfl, rfl⟩, trivial⟩)))) (fun m v hF => ?_); unfold F_reorder_steps_1_s101_l1 at hF)
    | (refine And.intro ⟨by kernel_rfl, by kernel_rfl⟩ ?_)
    | (refine EqX.mk (by first | rfl | kernel_rfl) ?_)

def R_reorder_Run (r : (List T_api_Event) × (List Int) × Int) : AV := .tup [.sl 5 (List.map e_api_Event (r.1)), .sl 1 (List.map aI (r.2.1)), aI (r.2.2)]
theorem con_reorder_Run {n : Nat} {a0 : Int} {a1 : (List T_api_Message)} {r : (List T_api_Event) × (List Int) × Int} (hF : F_reorder_Run n a0 a1 = some r) : Con E0 false 20 [aI (a0), .sl 9 (List.map e_api_Message (a1))] (R_reorder_Run r) := by
  unfold F_reorder_Run at hF
  refine Con.walkM (E := E0r) _ Tryz.func20 rfl (enters_of Tryz.func20 rfl rfl) rfl (Or.inl rfl) ?_ rfl rfl rfl
  repeat' first
    | (refine AW.step ?_; conv => whnf)
    | (refine CondX.o hF (fun hF => ?_) (fun hF => ?_))
    | (refine CondX.t ?_)
    | (refine CondX.f ?_)
    | (refine CallX.o hF R_reorder_begin (fun a h => Con.env rfl rfl (con_reorder_begin h)) (fun a hF => ?_))
    | (refine CallC.oM hF [] [(2, 24000000), (3, 24000001)] _ _ N_reorder_steps R_reorder_steps [] (fun a h => ConG.up (con_reorder_steps h)) (enters_of Tryz.func56 rfl rfl) rfl rfl rfl trivial (fun a => ⟨rfl, rfl, rfl, rfl, rfl, rfl, rfl, rfl⟩) (fun a hF => ?_))
    | (refine CallX.oM hF [] [(2, 24000000), (3, 24000001)] _ _ N_reorder_steps R_reorder_steps [] (fun a h => ConG.up (con_reorder_steps h)) (enters_of Tryz.func56 rfl rfl) rfl rfl rfl trivial (fun a => ⟨rfl, rfl, rfl, rfl, rfl, rfl, rfl, rfl⟩) (fun a hF => ?_))
    | (refine AppX.o e_api_Event hF (by first | exact SubR.refl _ | (repeat' first | exact SubR.nil | refine SubR.cons ?_ ?_ | exact SubL.nil | refine SubL.cons ?_ ?_ | exact Sub.refl _ | exact Sub.nil _)) (fun l hF => ?_))
    | (refine AppX.o aI hF (by first | exact SubR.refl _ | (repeat' first | exact SubR.nil | refine SubR.cons ?_ ?_ | exact SubL.nil | refine SubL.cons ?_ ?_ | exact Sub.refl _ | exact Sub.nil _)) (fun l hF => ?_))
    | (refine BX.o (meF := N_reorder_Run_b6) hF ?_; exact BX.mk (Z_reorder_Run_b6 _) (LeX.of [(250000, 28), (250001, 33)] rfl ⟨⟨rfl, rfl⟩, ⟨rfl, rfl⟩, trivial⟩ ⟨⟨rfl, rfl⟩, ⟨rfl, rfl⟩, ⟨rfl, rfl⟩, ⟨rfl, rfl⟩, trivial⟩) rfl rfl)
    | (refine RngX.oM hF [(100000, 9), (100001, 10), (100002, 24000000), (100003, 24000001)] [(100000, 9), (250000, 810000001), (100001, 10), (250001, 810000003), (100002, 24000000), (100003, 24000001)] _ _ _ N_reorder_steps_1_s101 [] (fun x h l D fn T hT => con_reorder_steps_1_s101 h l _ T (fun hF => ConG.round (E := E0p 11) rfl rfl rfl rfl rfl rfl ?_ l D fn T hT)) (enters_of Tryz.func88 rfl rfl) rfl rfl rfl rfl rfl ⟨⟨rfl, rfl⟩, ⟨⟨rfl, rfl⟩, trivial⟩⟩ ⟨⟨rfl, rfl⟩, ⟨⟨rfl, rfl⟩, ⟨⟨rfl, rfl⟩, ⟨⟨rfl, rfl⟩, trivial⟩⟩⟩⟩ (fun a => ⟨rfl, rfl, rfl, rfl, rfl, rfl, rfl, rfl⟩) (fun a hF => ?_))
    | (refine And.intro ⟨by kernel_rfl, by kernel_rfl⟩ ?_)
    | (refine EqX.mk (by first | rfl | kernel_rfl) ?_)
    | (exact RetX.o hF (by repeat' first | exact Sub.nil _ | exact Sub.refl _ | refine Sub.agg ?_ | refine Sub.tup ?_ | refine Sub.fn ?_ | exact SubL.nil | refine SubL.cons ?_ ?_ | refine Sub.sl _ ?_ | exact SubE.nil | refine SubE.cons ?_ ?_))

def S_tidegatelaw37_honest_l1 (a1 : (List T_api_Message)) (a0 : Int) (v1_0 : Int × (List T_api_Event)) : AS := ⟨[(0, aI (a0)), (1, .sl 9 (List.map e_api_Message (a1))), (6, .row 7024), (11, .sl 9 (List.map e_api_Message (a1))), (12, aI ((((List.map e_api_Message (a1)).length : Nat) : Int))), (13, aI (v1_0.1))], [(7024, .row 26 5 (List.map e_api_Event (v1_0.2)))]⟩
theorem tidegatelaw37_honest_l1_o {n N : Nat} {a1 : (List T_api_Message)} {a0 : Int} {k1_0_0 : (List T_api_Event) → Option ((List T_api_Event) × Bool)} {R : Exit → AS → Prop} {K : List KItem} {c : Code} {σ : AS} {v0 : Int × (List T_api_Event)} {r : (List T_api_Event) × Bool} (hF : F_tidegatelaw37_honest_l1 n a1 a0 k1_0_0 N v0 = some r) (hl : LeX E0 39 σ (S_tidegatelaw37_honest_l1 a1 a0 v0)) (round : ∀ m v, F_tidegatelaw37_honest_l1 n a1 a0 k1_0_0 (m + 1) v = some r → AW E0 39 (thenA (fun σ' => ∃ v', F_tidegatelaw37_honest_l1 n a1 a0 k1_0_0 m v' = some r ∧ LeX E0 39 σ' (S_tidegatelaw37_honest_l1 a1 a0 v')) (AW E0 39 R K)) [.code c] .normal (S_tidegatelaw37_honest_l1 a1 a0 v)) : LoopX E0 39 (fun next σ' => AW E0 39 (thenA next (AW E0 39 R K)) [.code c] .normal σ') σ :=
  LoopA.o (S := S_tidegatelaw37_honest_l1 a1 a0) hF (fun _ => rfl) hl round
def R_tidegatelaw37_honest (r : (List T_api_Event) × Bool) : AV := .tup [.sl 5 (List.map e_api_Event (r.1)), .bool (r.2)]
theorem con_tidegatelaw37_honest {n : Nat} {a0 : Int} {a1 : (List T_api_Message)} {r : (List T_api_Event) × Bool} (hF : F_tidegatelaw37_honest n a0 a1 = some r) : Con E0 false 25 [aI (a0), .sl 9 (List.map e_api_Message (a1))] (R_tidegatelaw37_honest r) := by
  unfold F_tidegatelaw37_honest at hF
  refine Con.walk _ Tryz.func25 rfl (enters_of Tryz.func25 rfl rfl) rfl (Or.inl rfl) ?_
  repeat' first
    | (refine AW.regO hF (fun hF => ?_))
    | (refine AW.frzO hF 7024 rfl (fun hF => ?_))
    | (refine AW.stepU [8] ?_; conv => whnf)
    | (refine CondX.o hF (fun hF => ?_) (fun hF => ?_))
    | (refine CondX.t ?_)
    | (refine CondX.f ?_)
    | (refine CallX.o hF R_tidegateref05_Sort (fun a h => con_tidegateref05_Sort h) (fun a hF => ?_))
    | (refine CallX.o hF R_tidegateref36_Honest (fun a h => con_tidegateref36_Honest h) (fun a hF => ?_))
    | (refine IdxX.o e_api_Message hF (fun x hF => ?_))
    | (refine AppX.o e_api_Event hF (by first | exact SubR.refl _ | (repeat' first | exact SubR.nil | refine SubR.cons ?_ ?_ | exact SubL.nil | refine SubL.cons ?_ ?_ | exact Sub.refl _ | exact Sub.nil _)) (fun l hF => ?_))
    | (exact ⟨_, hF, LeX.of [(7024, 24)] rfl ⟨⟨rfl, rfl⟩, ⟨rfl, rfl⟩, ⟨rfl, rfl⟩, ⟨rfl, rfl⟩, ⟨rfl, rfl⟩, ⟨rfl, rfl⟩, trivial⟩ ⟨⟨rfl, rfl⟩, trivial⟩⟩)
    | (exact ⟨_, hF, LeX.of [] rfl ⟨⟨rfl, rfl⟩, ⟨rfl, rfl⟩, ⟨rfl, rfl⟩, ⟨rfl, rfl⟩, ⟨rfl, rfl⟩, ⟨rfl, rfl⟩, trivial⟩ ⟨⟨rfl, rfl⟩, trivial⟩⟩)
    | (refine tidegatelaw37_honest_l1_o hF (LeX.trans (LeX.adopt 6 7024 26 5 rfl rfl) (LeX.of [] rfl ⟨⟨rfl, rfl⟩, ⟨rfl, rfl⟩, ⟨rfl, rfl⟩, ⟨rfl, rfl⟩, ⟨rfl, rfl⟩, ⟨rfl, rfl⟩, trivial⟩ ⟨⟨rfl, rfl⟩, trivial⟩)) (fun m v hF => ?_); unfold F_tidegatelaw37_honest_l1 at hF)
    | (refine And.intro ⟨by kernel_rfl, by kernel_rfl⟩ ?_)
    | (refine EqX.mk (by first | rfl | kernel_rfl) ?_)
    | (exact RetX.o hF (by repeat' first | exact Sub.nil _ | exact Sub.refl _ | refine Sub.agg ?_ | refine Sub.tup ?_ | refine Sub.fn ?_ | exact SubL.nil | refine SubL.cons ?_ ?_ | refine Sub.sl _ ?_ | exact SubE.nil | refine SubE.cons ?_ ?_))

def R_tidegatelaw37_event (r : T_api_Message) : AV := .agg [aI (r.fKind), aI (r.fEvent.fSource), aI (r.fEvent.fSeq), aI (r.fEvent.fType), aI (r.fEvent.fTime), .sl 3 (List.map e_api_Value (r.fEvent.fValues)), aI (r.fSource), aI (r.fSeq), aI (r.fTime)]
theorem con_tidegatelaw37_event {n : Nat} {a0 : Int} {a1 : Int} {r : T_api_Message} (hF : F_tidegatelaw37_event n a0 a1 = some r) : Con E0 false 42 [aI (a0), aI (a1)] (R_tidegatelaw37_event r) := by
  unfold F_tidegatelaw37_event at hF
  refine Con.walk _ Tryz.func42 rfl (enters_of Tryz.func42 rfl rfl) rfl (Or.inl rfl) ?_
  repeat' first
    | (refine AW.step ?_; conv => whnf)
    | (refine CondX.o hF (fun hF => ?_) (fun hF => ?_))
    | (refine CondX.t ?_)
    | (refine CondX.f ?_)
    | (refine And.intro ⟨by kernel_rfl, by kernel_rfl⟩ ?_)
    | (refine EqX.mk (by first | rfl | kernel_rfl) ?_)
    | (exact RetX.o hF (by repeat' first | exact Sub.nil _ | exact Sub.refl _ | refine Sub.agg ?_ | refine Sub.tup ?_ | refine Sub.fn ?_ | exact SubL.nil | refine SubL.cons ?_ ?_ | refine Sub.sl _ ?_ | exact SubE.nil | refine SubE.cons ?_ ?_))

def R_tidegatelaw37_point (r : T_api_Message) : AV := .agg [aI (r.fKind), aI (r.fEvent.fSource), aI (r.fEvent.fSeq), aI (r.fEvent.fType), aI (r.fEvent.fTime), .sl 3 (List.map e_api_Value (r.fEvent.fValues)), aI (r.fSource), aI (r.fSeq), aI (r.fTime)]
theorem con_tidegatelaw37_point {n : Nat} {a0 : Int} {a1 : Int} {r : T_api_Message} (hF : F_tidegatelaw37_point n a0 a1 = some r) : Con E0 false 43 [aI (a0), aI (a1)] (R_tidegatelaw37_point r) := by
  unfold F_tidegatelaw37_point at hF
  refine Con.walk _ Tryz.func43 rfl (enters_of Tryz.func43 rfl rfl) rfl (Or.inl rfl) ?_
  repeat' first
    | (refine AW.step ?_; conv => whnf)
    | (refine CondX.o hF (fun hF => ?_) (fun hF => ?_))
    | (refine CondX.t ?_)
    | (refine CondX.f ?_)
    | (refine And.intro ⟨by kernel_rfl, by kernel_rfl⟩ ?_)
    | (refine EqX.mk (by first | rfl | kernel_rfl) ?_)
    | (exact RetX.o hF (by repeat' first | exact Sub.nil _ | exact Sub.refl _ | refine Sub.agg ?_ | refine Sub.tup ?_ | refine Sub.fn ?_ | exact SubL.nil | refine SubL.cons ?_ ?_ | refine Sub.sl _ ?_ | exact SubE.nil | refine SubE.cons ?_ ?_))

def S_slices_Equal_s106_l1 (a1 : (List Int)) (a0 : (List Int)) (v1_0 : Int) : AS := ⟨[(0, .sl 1 (List.map aI (a0))), (1, .sl 1 (List.map aI (a1))), (12, aI ((((List.map aI (a0)).length : Nat) : Int))), (13, aI (v1_0))], []⟩
end Go.Proofs.YtimkhfaddnanhaaGreat
namespace Go.Proofs.YtimkhfaddnanhaaGreat
open Go.RowKit
theorem slices_Equal_s106_l1_o {n N : Nat} {a1 : (List Int)} {a0 : (List Int)} {k1_0_0 : Option (Bool)} {R : Exit → AS → Prop} {K : List KItem} {c : Code} {σ : AS} {v0 : Int} {r : Bool} (hF : F_slices_Equal_s106_l1 n a1 a0 k1_0_0 N v0 = some r) (hl : LeX E0 26 σ (S_slices_Equal_s106_l1 a1 a0 v0)) (round : ∀ m v, F_slices_Equal_s106_l1 n a1 a0 k1_0_0 (m + 1) v = some r → AW E0 26 (thenA (fun σ' => ∃ v', F_slices_Equal_s106_l1 n a1 a0 k1_0_0 m v' = some r ∧ LeX E0 26 σ' (S_slices_Equal_s106_l1 a1 a0 v')) (AW E0 26 R K)) [.code c] .normal (S_slices_Equal_s106_l1 a1 a0 v)) : LoopX E0 26 (fun next σ' => AW E0 26 (thenA next (AW E0 26 R K)) [.code c] .normal σ') σ :=
  LoopA.o (S := S_slices_Equal_s106_l1 a1 a0) hF (fun _ => rfl) hl round
def R_slices_Equal_s106 (r : Bool) : AV := .bool (r)
theorem con_slices_Equal_s106 {n : Nat} {a0 : (List Int)} {a1 : (List Int)} {r : Bool} (hF : F_slices_Equal_s106 n a0 a1 = some r) : Con E0 true 24 [.sl 1 (List.map aI (a0)), .sl 1 (List.map aI (a1))] (R_slices_Equal_s106 r) := by
  unfold F_slices_Equal_s106 at hF
  refine Con.walk _ Tryz.func24 rfl (enters_of Tryz.func24 rfl rfl) rfl (Or.inr rfl) ?_
  repeat' first
    | (refine AW.step ?_; conv => whnf)
    | (refine CondX.o hF (fun hF => ?_) (fun hF => ?_))
    | (refine CondX.t ?_)
    | (refine CondX.f ?_)
    | (refine IdxX.o aI hF (fun x hF => ?_))
    | (exact ⟨_, hF, LeX.of [] rfl ⟨⟨rfl, rfl⟩, ⟨rfl, rfl⟩, ⟨rfl, rfl⟩, ⟨rfl, rfl⟩, trivial⟩ trivial⟩)
    | (refine slices_Equal_s106_l1_o hF (LeX.of [] rfl ⟨⟨rfl, rfl⟩, ⟨rfl, rfl⟩, ⟨rfl, rfl⟩, ⟨rfl, rfl⟩, trivial⟩ trivial) (fun m v hF => ?_); unfold F_slices_Equal_s106_l1 at hF)
    | (refine And.intro ⟨by kernel_rfl, by kernel_rfl⟩ ?_)
    | (refine EqX.mk (by first | rfl | kernel_rfl) ?_)
    | (exact RetX.o hF (by repeat' first | exact Sub.nil _ | exact Sub.refl _ | refine Sub.agg ?_ | refine Sub.tup ?_ | refine Sub.fn ?_ | exact SubL.nil | refine SubL.cons ?_ ?_ | refine Sub.sl _ ?_ | exact SubE.nil | refine SubE.cons ?_ ?_))

def R_tidegatelaw37_awake (r : Bool) : AV := .bool (r)
theorem con_tidegatelaw37_awake {n : Nat} {r : Bool} (hF : F_tidegatelaw37_awake n = some r) : Con E0 true 13 [] (R_tidegatelaw37_awake r) := by
  unfold F_tidegatelaw37_awake at hF
  refine Con.walk _ Tryz.func13 rfl (enters_of Tryz.func13 rfl rfl) rfl (Or.inr rfl) ?_
  repeat' first
    | (refine AW.step ?_; conv => whnf)
    | (refine CondX.o hF (fun hF => ?_) (fun hF => ?_))
    | (refine CondX.t ?_)
    | (refine CondX.f ?_)
    | (refine CallX.o hF R_tidegatelaw37_event (fun a h => con_tidegatelaw37_event h) (fun a hF => ?_))
    | (refine CallX.o hF R_tidegatelaw37_point (fun a h => con_tidegatelaw37_point h) (fun a hF => ?_))
    | (refine CallX.o hF R_reorder_Run (fun a h => con_reorder_Run h) (fun a hF => ?_))
    | (refine CallX.o hF R_reorder_Peak (fun a h => con_reorder_Peak h) (fun a hF => ?_))
    | (refine CallX.o hF R_tidegateref05_Same (fun a h => con_tidegateref05_Same h) (fun a hF => ?_))
    | (refine CallX.o hF R_tidegateref05_Same (fun a h => Con.sub (by repeat' first | exact Sub.nil _ | exact Sub.refl _ | refine Sub.agg ?_ | refine Sub.tup ?_ | refine Sub.fn ?_ | exact SubL.nil | refine SubL.cons ?_ ?_ | refine Sub.sl _ ?_ | exact SubE.nil | refine SubE.cons ?_ ?_) (con_tidegateref05_Same h)) (fun a hF => ?_))
    | (refine CallX.o hF R_slices_Equal_s106 (fun a h => con_slices_Equal_s106 h) (fun a hF => ?_))
    | (refine And.intro ⟨by kernel_rfl, by kernel_rfl⟩ ?_)
    | (refine EqX.mk (by first | rfl | kernel_rfl) ?_)
    | (exact RetX.o hF (by repeat' first | exact Sub.nil _ | exact Sub.refl _ | refine Sub.agg ?_ | refine Sub.tup ?_ | refine Sub.fn ?_ | exact SubL.nil | refine SubL.cons ?_ ?_ | refine Sub.sl _ ?_ | exact SubE.nil | refine SubE.cons ?_ ?_))

set_option maxHeartbeats 400000 in
theorem clone26_any (l : List (Cel 9)) (S : Nat → Prop) (v : Value) (w : World) (h : Sl w S 9 encC v l) (hl : l.length ≤ 1000000000) :
    Calls Tryz.prog 26 #[v] w (RetOwn 28 9 encC l w) := by
  have eok : EOk Tryz.prog 32 28 9 88 (encC (n := 9)) := eokC (sz := 9) tyOk32 rfl tyOk28 (by omega) rfl
  obtain ⟨A, c, rfl, hc, _⟩ := h.form
  have hq := fun (W : World) => Lib.run_eql_slice_nil W 32 28 A l.length c 0 0 Tryz.underlying32
  have H := hide h
  cases A with
  | none =>
    have h0 : l = [] := h.none_nil
    subst h0
    clear h H hl hc
    simp only [List.length_nil, Option.isNone_none] at hq ⊢
    go_enter Tryz.func26, Tryz.ntmps26
    go_wp2
    go_ret
    exact ⟨none, 0, rfl, Own.nil_, by go_grown⟩
  | some ad =>
    clear h
    go_enter Tryz.func26, Tryz.ntmps26
    go_wp2_with (at_builtin; refine wpList_append_sl rfl _ _ rfl eok rfl Own.made_ rfl (H.out.alloc _) (by simp; omega) (by omega) (by simp) ?_; intro A' c' w1 ho hg _)
    go_ret
    exact ⟨A', c', rfl, ho, (Own.made_ (sz := 9) (enc := encC (n := 9))).grown ((Below.refl _ _).alloc (Nat.le_refl _) _) (Nat.le_refl _) (by simp) hg⟩
theorem conT_clone26 {n : Nat} {a r : List T_api_Message} (hF : F_clone n a = some r) : ConT E0 26 [.sl 9 (List.map e_api_Message a)] 28 9 (List.map e_api_Message r) (.row 0) := clone_gen rfl (enters_of Tryz.func26 rfl rfl) clone26_any hF
end Go.Proofs.YtimkhfaddnanhaaGreat
namespace Go.Proofs.YtimkhfaddnanhaaGreat
open Go.RowKit
end Go.Proofs.YtimkhfaddnanhaaGreat
