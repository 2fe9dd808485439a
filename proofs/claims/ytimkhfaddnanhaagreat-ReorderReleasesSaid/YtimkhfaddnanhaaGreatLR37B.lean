/- What some functions compute, over plain values. Printed by a program of mine (gen_fun.lean). Chapter 37, plain: the examples; Adds, Releases, Runs. Chapter 37: the contracts of the seven laws. -/
import Derived.Test.YtimkhfaddnanhaaGreatK08
import Derived.Test.YtimkhfaddnanhaaGreatK10
import Derived.Test.YtimkhfaddnanhaaGreatK13
import Derived.Test.YtimkhfaddnanhaaGreatK16
set_option linter.unusedVariables false
set_option linter.unusedSimpArgs false
set_option maxRecDepth 100000
set_option maxHeartbeats 8000000
namespace Go.Proofs.YtimkhfaddnanhaaGreat
open Go.RowKit
def F_tidegatelaw37_ReorderReleases (n : Nat) (a0 : (List Trk)) (a1 : (List T_api_Event)) : Option (Bool) :=
  bnd (F_tidegateref36_Few n a0) fun x1 =>
  cnd (!(x1))
    (bnd (F_tidegatelaw37_awake n) fun x2 =>
    some x2)
  <| bnd (F_tidegateref05_Few n a1) fun x3 =>
  cnd (!(x3))
    (bnd (F_tidegatelaw37_awake n) fun x4 =>
    some x4)
  <| bnd (F_reorder_Release n a0 a1) fun x5 =>
  bnd (F_tidegateref37_Release n a0 a1) fun x6 =>
  bnd (F_tidegateref05_Same n x5.1 x6.1) fun x7 =>
  cnd (x7)
    (bnd (F_tidegateref05_Same n x5.2.1 x6.2.1) fun x8 =>
    cnd (x8)
      (cnd (decide (x5.2.2 = x6.2.2))
        (bnd (F_tidegatelaw37_awake n) fun x9 =>
        some x9)
      <| some false)
    <| some false)
  <| some false
end Go.Proofs.YtimkhfaddnanhaaGreat
namespace Go.Proofs.YtimkhfaddnanhaaGreat
open Go.RowKit
open S05

theorem relS_out (l : List Trk) (w : List Ev) : (∀ x ∈ (relS l w).1, x ∈ w) ∧ (∀ x ∈ (relS l w).2.1, x ∈ w) ∧ (relS l w).1.length ≤ w.length ∧ (relS l w).2.1.length ≤ w.length := by
  unfold relS
  split
  · simp
  · split
    · simp
    · exact ⟨fun x hx => (List.takeWhile_sublist _).subset hx, fun x hx => (List.dropWhile_sublist _).subset hx, (List.takeWhile_sublist _).length_le, (List.dropWhile_sublist _).length_le⟩
theorem law_releases37 (l : List Trk) (w : List Ev) : F_tidegatelaw37_ReorderReleases 100000 l w = some true := by
  unfold F_tidegatelaw37_ReorderReleases
  rw [p_few _ l (by omega), S05.p_few _ w (by omega), awake37]
  simp only [bnd_some, cnd_not]
  cases h1 : few36 l with
  | false => rw [cnd_f]
  | true =>
    cases h2 : fewE w with
    | false => simp only [cnd_t, cnd_f]
    | true =>
      simp only [cnd_t]
      obtain ⟨f2, f3⟩ := fewE_out h2
      rw [p_Release37 _ l w f3 (by omega) (by omega), p_rRelease37 _ l w (by omega) (by omega)]
      simp only [bnd_some]
      obtain ⟨a1, a2, a3, a4⟩ := relS_out l w
      rw [Same_refl (fun x hx => f3 x (a1 x hx)) (by omega), Same_refl (fun x hx => f3 x (a2 x hx)) (by omega)]
      simp only [bnd_some, cnd_t, decide_true]
end Go.Proofs.YtimkhfaddnanhaaGreat
namespace Go.Proofs.YtimkhfaddnanhaaGreat
open Go.RowKit
def R_tidegatelaw37_ReorderReleases (r : Bool) : AV := .bool (r)
theorem con_tidegatelaw37_ReorderReleases {n : Nat} {a0 : (List Trk)} {a1 : (List T_api_Event)} {r : Bool} (hF : F_tidegatelaw37_ReorderReleases n a0 a1 = some r) : Con E0 true 7 [.sl 4 (List.map aTrk (a0)), .sl 5 (List.map e_api_Event (a1))] (R_tidegatelaw37_ReorderReleases r) := by
  unfold F_tidegatelaw37_ReorderReleases at hF
  refine Con.walk _ Tryz.func7 rfl (enters_of Tryz.func7 rfl rfl) rfl (Or.inr rfl) ?_
  repeat' first
    | (refine AW.step ?_; conv => whnf)
    | (refine CondX.o hF (fun hF => ?_) (fun hF => ?_))
    | (refine CondX.t ?_)
    | (refine CondX.f ?_)
    | (refine CallX.o hF R_tidegateref36_Few (fun a h => con_tidegateref36_Few h) (fun a hF => ?_))
    | (refine CallX.o hF R_tidegatelaw37_awake (fun a h => con_tidegatelaw37_awake h) (fun a hF => ?_))
    | (refine CallX.o hF R_tidegateref05_Few (fun a h => con_tidegateref05_Few h) (fun a hF => ?_))
    | (refine CallX.o hF R_reorder_Release (fun a h => con_reorder_Release h) (fun a hF => ?_))
    | (refine CallX.o hF R_tidegateref37_Release (fun a h => con_tidegateref37_Release h) (fun a hF => ?_))
    | (refine CallX.o hF R_tidegateref05_Same (fun a h => con_tidegateref05_Same h) (fun a hF => ?_))
    | (refine And.intro ⟨by kernel_rfl, by kernel_rfl⟩ ?_)
    | (refine EqX.mk (by first | rfl | kernel_rfl) ?_)
    | (exact RetX.o hF (by repeat' first | exact Sub.nil _ | exact Sub.refl _ | refine Sub.agg ?_ | refine Sub.tup ?_ | refine Sub.fn ?_ | exact SubL.nil | refine SubL.cons ?_ ?_ | refine Sub.sl _ ?_ | exact SubE.nil | refine SubE.cons ?_ ?_))

end Go.Proofs.YtimkhfaddnanhaaGreat
namespace Go.Proofs.YtimkhfaddnanhaaGreat
open Go.RowKit
theorem releases_con37 (l : List Trk) (w : List T_api_Event) : Con E0 true 7 [.sl 4 (l.map aTrk), .sl 5 (w.map e_api_Event)] (.bool true) := con_tidegatelaw37_ReorderReleases (law_releases37 l w)
end Go.Proofs.YtimkhfaddnanhaaGreat
