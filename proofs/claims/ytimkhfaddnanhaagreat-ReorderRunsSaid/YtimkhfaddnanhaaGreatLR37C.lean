/- Arguments opened: what any row needs. What some functions compute, over plain values. Printed by a program of mine (gen_fun.lean). Chapter 37, plain: what Add, Release, Run and Peak (both) compute. Chapter 37, plain: the examples; Adds, Releases, Runs. Chapter 37: the contracts of the seven laws. -/
import Derived.Test.YtimkhfaddnanhaaGreatK07
import Derived.Test.YtimkhfaddnanhaaGreatK08
import Derived.Test.YtimkhfaddnanhaaGreatK10
import Derived.Test.YtimkhfaddnanhaaGreatK12
import Derived.Test.YtimkhfaddnanhaaGreatK13
import Derived.Test.YtimkhfaddnanhaaGreatK15
import Derived.Test.YtimkhfaddnanhaaGreatK16
set_option linter.unusedVariables false
set_option linter.unusedSimpArgs false
set_option maxRecDepth 100000
set_option maxHeartbeats 8000000
namespace Go.Proofs.YtimkhfaddnanhaaGreat
open Go.ChangeShapes Go.WideShapes Go.ChangeAt Go.RowKit Go.Joins Go.Deep

section
variable {H : Type} {enc : TypeId × Value → H} {W : World} {base : Nat} {v : Value} {d : DataW H} {p : List MemPlace}
set_option maxRecDepth 100000
theorem i64_open (hv : Value.okWide Tryz.prog W .any base 3 v) (h : DataW.Trod enc Tryz.prog W 0 (fun _ => true) true 3 v d p) : ∃ n : Int, v = .int .i64 n := okWide_int Tryz.underlying3 hv
end
end Go.Proofs.YtimkhfaddnanhaaGreat
namespace Go.Proofs.YtimkhfaddnanhaaGreat
open Go.RowKit
def F_tidegateref37_Steps_l1 (n : Nat) (a1 : (List T_api_Message)) (k1_0_0 : Int → (List T_api_Event) → (List Int) → Option ((List T_api_Event) × (List Int) × Int × Int)) : Nat → (List Trk) × (List T_api_Event) × Int × Int × (List T_api_Event) × (List Int) → Option ((List T_api_Event) × (List Int) × Int × Int)
  | 0, _ => none
  | mv1_0 + 1, v1_0 =>
    cnd (decide (v1_0.2.2.2.1 < (((List.map e_api_Message (a1)).length : Nat) : Int)))
      (idx a1 v1_0.2.2.2.1 fun x45 =>
      bnd (F_tidegateref37_Add n v1_0.1 v1_0.2.1 x45) fun x46 =>
      cnd (decide (x46.2.2 = 0))
        (bnd (F_tidegateref37_Release n x46.1 x46.2.1) fun x47 =>
        app v1_0.2.2.2.2.1 x47.1 56 fun x48 =>
        bnd (F_tidegateref36_Global n x46.1) fun x49 =>
        app v1_0.2.2.2.2.2 [x49.1] 8 fun x50 =>
        F_tidegateref37_Steps_l1 n a1 k1_0_0 mv1_0 (x46.1, x47.2.1, (max v1_0.2.2.1 (((List.map e_api_Event (x47.2.1)).length : Nat) : Int)), (IntKind.wrap .i64 (v1_0.2.2.2.1 + 1)), x48, x50))
      <| bnd (F_tidegateref37_Release n v1_0.1 v1_0.2.1) fun x51 =>
      app v1_0.2.2.2.2.1 x51.1 56 fun x52 =>
      bnd (F_tidegateref36_Global n v1_0.1) fun x53 =>
      app v1_0.2.2.2.2.2 [x53.1] 8 fun x54 =>
      F_tidegateref37_Steps_l1 n a1 k1_0_0 mv1_0 (v1_0.1, x51.2.1, (max v1_0.2.2.1 (((List.map e_api_Event (x51.2.1)).length : Nat) : Int)), (IntKind.wrap .i64 (v1_0.2.2.2.1 + 1)), x52, x54))
    <| k1_0_0 v1_0.2.2.1 v1_0.2.2.2.2.1 v1_0.2.2.2.2.2
def F_tidegateref37_Steps (n : Nat) (a0 : Int) (a1 : (List T_api_Message)) : Option ((List T_api_Event) × (List Int) × Int × Int) :=
  bnd (F_tidegateref37_Begin n a0) fun x1 =>
  cnd (!decide (x1.2 = 0))
    (some ([], [], 0, x1.2))
  <| cnd (decide (4096 < (((List.map e_api_Message (a1)).length : Nat) : Int)))
    (some ([], [], 0, 5))
  <| F_tidegateref37_Steps_l1 n a1
    (fun k1_0_0y0 k1_0_0y1 k1_0_0y2 => some (k1_0_0y1, k1_0_0y2, k1_0_0y0, 0)) n (x1.1, [], 0, 0, [], [])
def F_tidegateref37_Run (n : Nat) (a0 : Int) (a1 : (List T_api_Message)) : Option ((List T_api_Event) × (List Int) × Int) :=
  bnd (F_tidegateref37_Steps n a0 a1) fun x1 =>
  some (x1.1, x1.2.1, x1.2.2.2)
def F_tidegateref37_Peak (n : Nat) (a0 : Int) (a1 : (List T_api_Message)) : Option (Int × Int) :=
  bnd (F_tidegateref37_Steps n a0 a1) fun x1 =>
  some (x1.2.2.1, x1.2.2.2)
def F_tidegatelaw37_ReorderRuns (n : Nat) (a0 : Int) (a1 : (List T_api_Message)) : Option (Bool) :=
  bnd (F_tidegateref37_Few n a1) fun x1 =>
  cnd (!(x1))
    (bnd (F_tidegatelaw37_awake n) fun x2 =>
    some x2)
  <| bnd (F_reorder_Run n a0 a1) fun x3 =>
  bnd (F_tidegateref37_Run n a0 a1) fun x4 =>
  bnd (F_reorder_Peak n a0 a1) fun x5 =>
  bnd (F_tidegateref37_Peak n a0 a1) fun x6 =>
  bnd (F_tidegateref05_Same n x3.1 x4.1) fun x7 =>
  cnd (x7)
    (bnd (F_slices_Equal_s106 n x3.2.1 x4.2.1) fun x8 =>
    cnd (x8)
      (cnd (decide (x3.2.2 = x4.2.2))
        (cnd (decide (x5.1 = x6.1))
          (cnd (decide (x5.2 = x6.2))
            (bnd (F_tidegatelaw37_awake n) fun x9 =>
            some x9)
          <| some false)
        <| some false)
      <| some false)
    <| some false)
  <| some false
end Go.Proofs.YtimkhfaddnanhaaGreat
namespace Go.Proofs.YtimkhfaddnanhaaGreat
open Go.RowKit
open S05

theorem p_rsteps_l1 (n : Nat) (hn : 1000 ≤ n) (ms : List T_api_Message) (hms : ms.length ≤ 100) (hsv : ∀ m ∈ ms, sv m.fEvent) (K : Int → List Ev → List Int → Option (List Ev × List Int × Int × Int)) : ∀ (f k : Nat) (l : List Trk) (w R out : List Ev) (mk : List Int) (p : Int), k ≤ ms.length → ms.length < f + k → Inv l w R → (∀ x ∈ w, sv x) → w.length + out.length ≤ k → mk.length ≤ k →
    F_tidegateref37_Steps_l1 n ms K f (l, w, p, (k : Int), out, mk) = K (pkW l w p (ms.drop k)) (out ++ relW l w (ms.drop k)) (mk ++ mksW l w (ms.drop k))
  | 0, k, l, w, R, out, mk, p, h1, h2, hi, hv, h3, h4 => by omega
  | f + 1, k, l, w, R, out, mk, p, h1, h2, hi, hv, h3, h4 => by
    unfold F_tidegateref37_Steps_l1
    simp only [List.length_map, cnd_if]
    by_cases h : k < ms.length
    · have hm := hsv _ (List.getElem_mem h)
      obtain ⟨_, q2, q1, q3, q4⟩ := p_rel_next n hi ms[k] hv hm (by omega) hn
      obtain ⟨n1, _, _, _, n5, _⟩ := hi.next ms[k] (by omega)
      have hnw := news_len l ms[k]
      have ex := hi.nxtE ms[k] (by omega)
      rw [if_pos (by omega), idx_nat h, wrapS k (by omega), p_radd37 n l w ms[k] hv hm (by omega) hn, bnd_some, drop_cons ms k h, relW_cons, mksW_cons]
      have fin := p_rsteps_l1 n hn ms hms hsv K f (k + 1) (nxt l w ms[k]).1 (rstS (nxt l w ms[k])) _ (out ++ outS (nxt l w ms[k])) (mk ++ [leastOf (nxt l w ms[k]).1]) (max p (rstS (nxt l w ms[k])).length) (by omega) (by omega) n1 q3 (by simp; omega) (by simp; omega)
      simp only [List.append_assoc, List.singleton_append] at fin
      have go : ∀ (F : Option (List Ev × List Int × Int × Int)), (bnd (F_tidegateref37_Release n (nxt l w ms[k]).1 (nxt l w ms[k]).2) fun x47 => app out x47.1 56 fun x48 => bnd (F_tidegateref36_Global n (nxt l w ms[k]).1) fun x49 => app mk [x49.1] 8 fun x50 =>
          F_tidegateref37_Steps_l1 n ms K f ((nxt l w ms[k]).1, x47.2.1, (max p (((List.map e_api_Event (x47.2.1)).length : Nat) : Int)), ((k + 1 : Nat) : Int), x48, x50)) = K (pkW l w p (ms[k] :: ms.drop (k + 1))) (out ++ (outS (nxt l w ms[k]) ++ relW (nxt l w ms[k]).1 (rstS (nxt l w ms[k])) (ms.drop (k + 1)))) (mk ++ leastOf (nxt l w ms[k]).1 :: mksW (nxt l w ms[k]).1 (rstS (nxt l w ms[k])) (ms.drop (k + 1))) := fun F => by
        rw [p_rRelease37 n _ _ (by omega) hn, bnd_some, q1, app_ok (by simp; omega) (by omega), p_rglobal n _ (by omega), bnd_some, q2, app_ok (by simp; omega) (by omega)]
        simp only [List.length_map]
        exact fin
      have go := go none
      split
      · rename_i h0
        rw [if_pos h0] at ex
        rw [ex] at go ⊢
        simpa only [List.length_map] using go
      · rename_i h0
        rw [if_neg h0] at ex
        rw [ex] at go ⊢
        simpa only [List.length_map] using go
    · rw [if_neg (by omega), List.drop_eq_nil_of_le (by omega)]; simp [pkW, relW, mksW]
theorem p_rsteps (n : Nat) (k : Int) (ms : List T_api_Message) (hms : ms.length ≤ 100) (hsv : ∀ m ∈ ms, sv m.fEvent) (hn : 1000 ≤ n) : F_tidegateref37_Steps n k ms = some ((runP k ms).1, (runP k ms).2.1, (peakP k ms).1, (runP k ms).2.2) ∧ (peakP k ms).2 = (runP k ms).2.2 := by
  unfold F_tidegateref37_Steps F_tidegateref37_Begin runP peakP
  rw [p_rbegin n k (by omega)]
  simp only [bnd_some, cnd_not, cnd_if, List.length_map]
  rw [if_neg (show ¬ (4096 : Int) < (ms.length : Int) by omega)]
  by_cases h : (beginT k).2 = 0
  · rw [if_pos h, if_neg (show ¬ (beginT k).2 ≠ 0 by simpa using h), if_neg (show ¬ (beginT k).2 ≠ 0 by simpa using h)]
    have := p_rsteps_l1 n hn ms hms hsv (fun k1_0_0y0 k1_0_0y1 k1_0_0y2 => some (k1_0_0y1, k1_0_0y2, k1_0_0y0, 0)) n 0 (beginT k).1 [] [] [] [] 0 (by omega) (by omega) (inv_begin k h) (by simp) (by simp) (by simp)
    simp only [Int.natCast_zero, List.drop_zero, List.nil_append] at this
    rw [this]
    exact ⟨rfl, rfl⟩
  · rw [if_neg h, if_pos h, if_pos h]; exact ⟨rfl, rfl⟩
theorem p_rrun37 (n : Nat) (k : Int) (ms : List T_api_Message) (hms : ms.length ≤ 100) (hsv : ∀ m ∈ ms, sv m.fEvent) (hn : 1000 ≤ n) : F_tidegateref37_Run n k ms = some (runP k ms) := by
  unfold F_tidegateref37_Run
  rw [(p_rsteps n k ms hms hsv hn).1, bnd_some]
theorem p_rpeak37 (n : Nat) (k : Int) (ms : List T_api_Message) (hms : ms.length ≤ 100) (hsv : ∀ m ∈ ms, sv m.fEvent) (hn : 1000 ≤ n) : F_tidegateref37_Peak n k ms = some (peakP k ms) := by
  unfold F_tidegateref37_Peak
  rw [(p_rsteps n k ms hms hsv hn).1, bnd_some, ← (p_rsteps n k ms hms hsv hn).2]

end Go.Proofs.YtimkhfaddnanhaaGreat
namespace Go.Proofs.YtimkhfaddnanhaaGreat
open Go.RowKit
open S05

theorem law_runs37 (k : Int) (ms : List T_api_Message) : F_tidegatelaw37_ReorderRuns 100000 k ms = some true := by
  unfold F_tidegatelaw37_ReorderRuns
  rw [p_few37 _ ms (by omega), awake37]
  simp only [bnd_some, cnd_not]
  cases h1 : few37 ms with
  | false => rw [cnd_f]
  | true =>
    simp only [cnd_t]
    obtain ⟨f1, f2⟩ := few37_out h1
    obtain ⟨o1, o2, o3⟩ := runP_out k ms (by omega) f2
    rw [p_run37 _ k ms (by omega) f2 (by omega), p_rrun37 _ k ms (by omega) f2 (by omega), p_peak37 _ k ms (by omega) f2 (by omega), p_rpeak37 _ k ms (by omega) f2 (by omega)]
    simp only [bnd_some]
    rw [Same_refl o1 (by omega), p_eqI _ _ _ (by omega) (by omega)]
    simp only [bnd_some, cnd_t, decide_true]
end Go.Proofs.YtimkhfaddnanhaaGreat
namespace Go.Proofs.YtimkhfaddnanhaaGreat
open Go.RowKit
def S_tidegateref37_Steps_l1 (a1 : (List T_api_Message)) (v1_0 : (List Trk) × (List T_api_Event) × Int × Int × (List T_api_Event) × (List Int)) : AS := ⟨[(1, .sl 9 (List.map e_api_Message (a1))), (8, .sl 4 (List.map aTrk (v1_0.1))), (10, .sl 5 (List.map e_api_Event (v1_0.2.1))), (11, .row 7064), (12, .row 7078), (13, aI (v1_0.2.2.1)), (14, aI (v1_0.2.2.2.1))], [(7064, .row 26 5 (List.map e_api_Event (v1_0.2.2.2.2.1))), (7078, .row 3 1 (List.map aI (v1_0.2.2.2.2.2)))]⟩
theorem tidegateref37_Steps_l1_o {n N : Nat} {a1 : (List T_api_Message)} {k1_0_0 : Int → (List T_api_Event) → (List Int) → Option ((List T_api_Event) × (List Int) × Int × Int)} {R : Exit → AS → Prop} {K : List KItem} {c : Code} {σ : AS} {v0 : (List Trk) × (List T_api_Event) × Int × Int × (List T_api_Event) × (List Int)} {r : (List T_api_Event) × (List Int) × Int × Int} (hF : F_tidegateref37_Steps_l1 n a1 k1_0_0 N v0 = some r) (hl : LeX E0 82 σ (S_tidegateref37_Steps_l1 a1 v0)) (round : ∀ m v, F_tidegateref37_Steps_l1 n a1 k1_0_0 (m + 1) v = some r → AW E0 82 (thenA (fun σ' => ∃ v', F_tidegateref37_Steps_l1 n a1 k1_0_0 m v' = some r ∧ LeX E0 82 σ' (S_tidegateref37_Steps_l1 a1 v')) (AW E0 82 R K)) [.code c] .normal (S_tidegateref37_Steps_l1 a1 v)) : LoopX E0 82 (fun next σ' => AW E0 82 (thenA next (AW E0 82 R K)) [.code c] .normal σ') σ :=
  LoopA.o (S := S_tidegateref37_Steps_l1 a1) hF (fun _ => rfl) hl round
def R_tidegateref37_Steps (r : (List T_api_Event) × (List Int) × Int × Int) : AV := .tup [.sl 5 (List.map e_api_Event (r.1)), .sl 1 (List.map aI (r.2.1)), aI (r.2.2.1), aI (r.2.2.2)]
theorem con_tidegateref37_Steps {n : Nat} {a0 : Int} {a1 : (List T_api_Message)} {r : (List T_api_Event) × (List Int) × Int × Int} (hF : F_tidegateref37_Steps n a0 a1 = some r) : Con E0 false 57 [aI (a0), .sl 9 (List.map e_api_Message (a1))] (R_tidegateref37_Steps r) := by
  unfold F_tidegateref37_Steps at hF
  refine Con.walk _ Tryz.func57 rfl (enters_of Tryz.func57 rfl rfl) rfl (Or.inl rfl) ?_
  repeat' first
    | (refine AW.step ?_; conv => whnf)
    | (refine CondX.o hF (fun hF => ?_) (fun hF => ?_))
    | (refine CondX.t ?_)
    | (refine CondX.f ?_)
    | (refine CallX.o hF R_tidegateref37_Begin (fun a h => con_tidegateref37_Begin h) (fun a hF => ?_))
    | (refine IdxX.o e_api_Message hF (fun x hF => ?_))
    | (refine CallX.o hF R_tidegateref37_Add (fun a h => con_tidegateref37_Add h) (fun a hF => ?_))
    | (refine CallX.o hF R_tidegateref37_Release (fun a h => con_tidegateref37_Release h) (fun a hF => ?_))
    | (refine AppX.o e_api_Event hF (by first | exact SubR.refl _ | (repeat' first | exact SubR.nil | refine SubR.cons ?_ ?_ | exact SubL.nil | refine SubL.cons ?_ ?_ | exact Sub.refl _ | exact Sub.nil _)) (fun l hF => ?_))
    | (refine CallX.o hF R_tidegateref36_Global (fun a h => con_tidegateref36_Global h) (fun a hF => ?_))
    | (refine AppX.o aI hF (by first | exact SubR.refl _ | (repeat' first | exact SubR.nil | refine SubR.cons ?_ ?_ | exact SubL.nil | refine SubL.cons ?_ ?_ | exact Sub.refl _ | exact Sub.nil _)) (fun l hF => ?_))
    | (exact ⟨_, hF, LeX.of [(7064, 64), (7078, 78)] rfl ⟨⟨rfl, rfl⟩, ⟨rfl, rfl⟩, ⟨rfl, rfl⟩, ⟨rfl, rfl⟩, ⟨rfl, rfl⟩, ⟨rfl, rfl⟩, ⟨rfl, rfl⟩, trivial⟩ ⟨⟨rfl, rfl⟩, ⟨rfl, rfl⟩, trivial⟩⟩)
    | (refine tidegateref37_Steps_l1_o hF (LeX.trans (LeX.put 10 _ (by repeat' first | exact Sub.nil _ | exact Sub.refl _ | refine Sub.agg ?_ | refine Sub.tup ?_ | refine Sub.fn ?_ | exact SubL.nil | refine SubL.cons ?_ ?_ | refine Sub.sl _ ?_ | exact SubE.nil | refine SubE.cons ?_ ?_)) (LeX.trans (LeX.adopt 11 7064 26 5 rfl rfl) (LeX.trans (LeX.adopt 12 7078 3 1 rfl rfl) (LeX.of [] rfl ⟨⟨rfl, rfl⟩, ⟨rfl, rfl⟩, ⟨rfl, rfl⟩, ⟨rfl, rfl⟩, ⟨rfl, rfl⟩, ⟨rfl, rfl⟩, ⟨rfl, rfl⟩, trivial⟩ ⟨⟨rfl, rfl⟩, ⟨rfl, rfl⟩, trivial⟩)))) (fun m v hF => ?_); unfold F_tidegateref37_Steps_l1 at hF)
    | (refine And.intro ⟨by kernel_rfl, by kernel_rfl⟩ ?_)
    | (refine EqX.mk (by first | rfl | kernel_rfl) ?_)
    | (exact RetX.o hF (by repeat' first | exact Sub.nil _ | exact Sub.refl _ | refine Sub.agg ?_ | refine Sub.tup ?_ | refine Sub.fn ?_ | exact SubL.nil | refine SubL.cons ?_ ?_ | refine Sub.sl _ ?_ | exact SubE.nil | refine SubE.cons ?_ ?_))

def R_tidegateref37_Run (r : (List T_api_Event) × (List Int) × Int) : AV := .tup [.sl 5 (List.map e_api_Event (r.1)), .sl 1 (List.map aI (r.2.1)), aI (r.2.2)]
theorem con_tidegateref37_Run {n : Nat} {a0 : Int} {a1 : (List T_api_Message)} {r : (List T_api_Event) × (List Int) × Int} (hF : F_tidegateref37_Run n a0 a1 = some r) : Con E0 false 21 [aI (a0), .sl 9 (List.map e_api_Message (a1))] (R_tidegateref37_Run r) := by
  unfold F_tidegateref37_Run at hF
  refine Con.walk _ Tryz.func21 rfl (enters_of Tryz.func21 rfl rfl) rfl (Or.inl rfl) ?_
  repeat' first
    | (refine AW.step ?_; conv => whnf)
    | (refine CondX.o hF (fun hF => ?_) (fun hF => ?_))
    | (refine CondX.t ?_)
    | (refine CondX.f ?_)
    | (refine CallX.o hF R_tidegateref37_Steps (fun a h => con_tidegateref37_Steps h) (fun a hF => ?_))
    | (refine And.intro ⟨by kernel_rfl, by kernel_rfl⟩ ?_)
    | (refine EqX.mk (by first | rfl | kernel_rfl) ?_)
    | (exact RetX.o hF (by repeat' first | exact Sub.nil _ | exact Sub.refl _ | refine Sub.agg ?_ | refine Sub.tup ?_ | refine Sub.fn ?_ | exact SubL.nil | refine SubL.cons ?_ ?_ | refine Sub.sl _ ?_ | exact SubE.nil | refine SubE.cons ?_ ?_))

def R_tidegateref37_Peak (r : Int × Int) : AV := .tup [aI (r.1), aI (r.2)]
theorem con_tidegateref37_Peak {n : Nat} {a0 : Int} {a1 : (List T_api_Message)} {r : Int × Int} (hF : F_tidegateref37_Peak n a0 a1 = some r) : Con E0 true 23 [aI (a0), .sl 9 (List.map e_api_Message (a1))] (R_tidegateref37_Peak r) := by
  unfold F_tidegateref37_Peak at hF
  refine Con.walk _ Tryz.func23 rfl (enters_of Tryz.func23 rfl rfl) rfl (Or.inr rfl) ?_
  repeat' first
    | (refine AW.step ?_; conv => whnf)
    | (refine CondX.o hF (fun hF => ?_) (fun hF => ?_))
    | (refine CondX.t ?_)
    | (refine CondX.f ?_)
    | (refine CallX.o hF R_tidegateref37_Steps (fun a h => con_tidegateref37_Steps h) (fun a hF => ?_))
    | (refine And.intro ⟨by kernel_rfl, by kernel_rfl⟩ ?_)
    | (refine EqX.mk (by first | rfl | kernel_rfl) ?_)
    | (exact RetX.o hF (by repeat' first | exact Sub.nil _ | exact Sub.refl _ | refine Sub.agg ?_ | refine Sub.tup ?_ | refine Sub.fn ?_ | exact SubL.nil | refine SubL.cons ?_ ?_ | refine Sub.sl _ ?_ | exact SubE.nil | refine SubE.cons ?_ ?_))

end Go.Proofs.YtimkhfaddnanhaaGreat
namespace Go.Proofs.YtimkhfaddnanhaaGreat
open Go.RowKit
def R_tidegatelaw37_ReorderRuns (r : Bool) : AV := .bool (r)
theorem con_tidegatelaw37_ReorderRuns {n : Nat} {a0 : Int} {a1 : (List T_api_Message)} {r : Bool} (hF : F_tidegatelaw37_ReorderRuns n a0 a1 = some r) : Con E0 true 4 [aI (a0), .sl 9 (List.map e_api_Message (a1))] (R_tidegatelaw37_ReorderRuns r) := by
  unfold F_tidegatelaw37_ReorderRuns at hF
  refine Con.walk _ Tryz.func4 rfl (enters_of Tryz.func4 rfl rfl) rfl (Or.inr rfl) ?_
  repeat' first
    | (refine AW.step ?_; conv => whnf)
    | (refine CondX.o hF (fun hF => ?_) (fun hF => ?_))
    | (refine CondX.t ?_)
    | (refine CondX.f ?_)
    | (refine CallX.o hF R_tidegateref37_Few (fun a h => con_tidegateref37_Few h) (fun a hF => ?_))
    | (refine CallX.o hF R_tidegatelaw37_awake (fun a h => con_tidegatelaw37_awake h) (fun a hF => ?_))
    | (refine CallX.o hF R_reorder_Run (fun a h => con_reorder_Run h) (fun a hF => ?_))
    | (refine CallX.o hF R_tidegateref37_Run (fun a h => con_tidegateref37_Run h) (fun a hF => ?_))
    | (refine CallX.o hF R_reorder_Peak (fun a h => con_reorder_Peak h) (fun a hF => ?_))
    | (refine CallX.o hF R_tidegateref37_Peak (fun a h => con_tidegateref37_Peak h) (fun a hF => ?_))
    | (refine CallX.o hF R_tidegateref05_Same (fun a h => con_tidegateref05_Same h) (fun a hF => ?_))
    | (refine CallX.o hF R_slices_Equal_s106 (fun a h => con_slices_Equal_s106 h) (fun a hF => ?_))
    | (refine And.intro ⟨by kernel_rfl, by kernel_rfl⟩ ?_)
    | (refine EqX.mk (by first | rfl | kernel_rfl) ?_)
    | (exact RetX.o hF (by repeat' first | exact Sub.nil _ | exact Sub.refl _ | refine Sub.agg ?_ | refine Sub.tup ?_ | refine Sub.fn ?_ | exact SubL.nil | refine SubL.cons ?_ ?_ | refine Sub.sl _ ?_ | exact SubE.nil | refine SubE.cons ?_ ?_))

end Go.Proofs.YtimkhfaddnanhaaGreat
namespace Go.Proofs.YtimkhfaddnanhaaGreat
open Go.RowKit
theorem runs_con37 (k : Int) (l : List T_api_Message) : Con E0 true 4 [aI k, .sl 9 (l.map e_api_Message)] (.bool true) := con_tidegatelaw37_ReorderRuns (law_runs37 k l)
end Go.Proofs.YtimkhfaddnanhaaGreat
