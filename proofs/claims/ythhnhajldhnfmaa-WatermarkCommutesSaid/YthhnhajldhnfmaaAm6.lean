/- The laws of layer 35, by the abstract walk: Commutes. -/
import Derived.Test.YthhnhajldhnfmaaAm5
import Derived.Test.YthhnhajldhnfmaaPunJ
import Derived.Test.YthhnhajldhnfmaaAmN
set_option linter.unusedVariables false
set_option linter.unusedSimpArgs false
namespace Go.Proofs.Ythhnhajldhnfmaa
open Go.RowKit

theorem rep_tb {w : World} {S : Nat → Prop} {γ : Gam} {a : AV} {v : Value} (b : Bool) (h : Rep w S γ a v) : Rep w S γ (.tup [a, .bool b]) (.tuple #[v, .bool b]) :=
  .tup _ rfl fun i hi => by
    have hi' : i < 2 := hi
    rcases i with _ | _ | i
    · exact h
    · exact .bool _
    · omega
theorem withL_adds (t : Trk) (l : List Pt) : withL t l = addsT t l := by
  induction l generalizing t with
  | nil => rfl
  | cons p r ih => simp only [withL, addsT, ih]
theorem lwith_con (t : Trk) (ps : List Pt) (hl1 : t.beyond.length ≤ 1000000) (hl2 : t.points.length + ps.length ≤ 1000000) : Con E0 false 26 [aTrk t, aPts ps] (.tup [aTrk (addsT t ps).1, .bool (addsT t ps).2]) :=
  Con.of2 (enters_of Try.func26 rfl rfl) fun S w x y hx hy => by
    rw [← withL_adds]
    refine (withL_any t ps S S x y w (rep_trk.1 hx) (rep_pts.1 hy) hl1 hl2).mono fun e w' ⟨A, c, A', c', h1, h2, h4⟩ => ⟨_, h1, h4, rep_tb _ ?_⟩
    have hv : TrkV w' (fun b => S b ∨ w.heap.size ≤ b) _ (withL t ps).1 := ⟨_, _, rfl, h2⟩
    have := rep_trk.2 hv
    exact this.mono (Nat.le_refl _) (fun b hb _ => ⟨rfl, hb.imp (fun h => ⟨rfl, h⟩) id⟩)

theorem adds_small (t : Trk) (l : List Pt) (h1 : t.beyond.length ≤ 300) : (addsT t l).1.beyond.length ≤ 300 ∧ (addsT t l).1.points.length ≤ t.points.length + l.length := by
  induction l generalizing t with
  | nil => exact ⟨h1, by simp [addsT]⟩
  | cons p r ih =>
    unfold addsT
    split
    · exact ⟨h1, by simp⟩
    · rename_i h
      have h : (addT t p).2 = 0 := by simpa using h
      obtain ⟨k1, k2⟩ := addT_len t p h
      obtain ⟨i1, i2⟩ := ih (addT t p).1 (by rw [k1]; exact h1)
      exact ⟨i1, by simp only [List.length_cons]; omega⟩

def cS (t a : Trk) (l : List Pt) (turn : Nat) (ok : Bool) (acc : List Pt) (k : Nat) : AS := ⟨[(1, aPts l), (2, .int .u8 turn), (3, .ptr 3 0), (7, .ptr 7 0), (8, .bool ok), (9, .row 100), (10, aI k)],
  [(3, .box 25 (wT t)), (7, .box 25 (wT a)), (100, .row 27 2 (acc.map aPt))]⟩
set_option maxRecDepth 100000 in
set_option maxHeartbeats 1600000 in
theorem commutes_con (t : Trk) (l : List Pt) (turn : Nat) (ht : turn ≤ 255) : Con E0 true 5 [aTrk t, aPts l, .int .u8 turn] (.bool true) := by
  refine Con.walk _ Try.func5 rfl (enters_of Try.func5 rfl rfl) rfl (Or.inr rfl) ?_
  refine AW.step ?_; conv => whnf
  refine CallX.mk _ _ (few_con t) ?_
  refine AW.step ?_; conv => whnf
  repeat' (first
    | ((with_reducible refine CondX.t ?_); refine AW.step ?_; conv => whnf)
    | ((with_reducible refine CondX.f ?_); refine AW.step ?_; conv => whnf)
    | (refine CallX.mk _ _ (puCheck_con t) ?_; refine AW.step ?_; conv => whnf)
    | (refine CallX.mk _ _ awake_con ?_; refine AW.step ?_; conv => whnf)
    | (refine And.intro ⟨by kernel_rfl, by kernel_rfl⟩ ?_; refine AW.step ?_; conv => whnf)
    | (refine CondX.mk (fun h => ?_) (fun h => ?_) <;> (refine AW.step ?_; conv => whnf)))
  all_goals try exact RetX.mk rfl
  have hf := few_true (t := t) (by simp_all)
  have hl : l.length ≤ 12 := by simp_all <;> omega
  have hc : puCheck t = 0 := by simp_all
  have hp : t.points.length ≤ 50 := by simp_all <;> omega
  have hT := (puCheck_zero t).1 hc
  refine CallX.mk _ _ (lwith_con t l (by omega) (by omega)) ?_
  refine AW.step ?_; conv => whnf
  obtain ⟨a, ha⟩ : ∃ a, a = addsT t l := ⟨_, rfl⟩
  rw [← ha]
  refine LoopX.mk (fun n σ => ∃ (k : Nat) (acc : List Pt), n = l.length - k ∧ k ≤ l.length ∧ acc.length = 2 * k ∧ (∀ x ∈ acc, x ∈ l) ∧ (∀ (i : Nat) (h : i < l.length), i < k → l[i] ∈ acc) ∧ σ = cS t a.1 l turn a.2 acc k) l.length (cS t a.1 l turn a.2 [] 0)
    (LeX.trans (LeX.adopt 9 100 27 2 rfl rfl) (LeX.of [] rfl ⟨⟨rfl, rfl⟩, ⟨rfl, rfl⟩, ⟨rfl, rfl⟩, ⟨rfl, rfl⟩, ⟨rfl, rfl⟩, ⟨rfl, rfl⟩, ⟨rfl, rfl⟩, trivial⟩ ⟨⟨rfl, rfl⟩, ⟨rfl, rfl⟩, ⟨rfl, rfl⟩, trivial⟩)) ⟨0, [], by simp, by omega, rfl, by simp, by simp, rfl⟩ ?_
  rintro n σ ⟨k, acc, rfl, hk, hal, hin, hall, rfl⟩
  by_cases hlt : k < l.length
  · refine AW.step ?_; conv => whnf
    refine CondX.mk (fun h => ?_) (fun h => by simp at h; omega)
    refine AW.step ?_; conv => whnf
    have hw1 : IntKind.i64.wrap (turn : Int) = turn := wrap_in _ (by omega)
    have hw2 : IntKind.i64.wrap ((k : Int) + IntKind.i64.wrap (turn : Int)) = ((k + turn : Nat) : Int) := by rw [hw1]; exact (wrap_in _ (by omega)).trans (by simp)
    have hmod : (k + turn) % l.length < l.length := Nat.mod_lt _ (by omega)
    refine NzX.mk (by simp; intro h0; subst h0; simp at hlt) ?_
    refine AW.step ?_; conv => whnf
    refine IdxX.mk ((k + turn) % l.length) (aPt l[(k + turn) % l.length]) (by rw [hw2]; simp only [List.length_map]; rw [Int.tmod_eq_emod_of_nonneg (by omega)]; first | exact (Int.natCast_emod _ _).symm | exact (Int.natCast_mod _ _).symm | simp) (by simp [hmod]) ?_
    refine AW.step ?_; conv => whnf
    refine IdxX.mk k (aPt l[k]) rfl (by simp [hlt]) ?_
    refine AW.step ?_; conv => whnf
    refine AppX.mk (by simp; omega) (by simp; omega) ?_
    refine AW.step ?_; conv => whnf
    refine And.intro ⟨by kernel_rfl, by kernel_rfl⟩ ?_
    refine AW.step ?_; conv => whnf
    refine ⟨l.length - (k + 1), cS t a.1 l turn a.2 (acc ++ [l[(k + turn) % l.length], l[k]]) (k + 1), LeX.of [(100, 61)] rfl ⟨⟨rfl, rfl⟩, ⟨rfl, rfl⟩, ⟨rfl, rfl⟩, ⟨rfl, rfl⟩, ⟨rfl, rfl⟩, ⟨rfl, rfl⟩, ⟨congrArg aI (wrap_in (↑k + 1) (by omega)), rfl⟩, trivial⟩ ⟨⟨rfl, rfl⟩, ⟨rfl, rfl⟩, ⟨congrArg (fun q => some (Ent.row 27 2 q)) (by simp [aPt, aI]), rfl⟩, trivial⟩, by omega, k + 1, _, rfl, by omega, by simp [hal]; omega, ?_, ?_, rfl⟩
    · intro x hx
      simp only [List.mem_append, List.mem_cons, List.not_mem_nil, or_false] at hx
      rcases hx with hx | rfl | rfl
      · exact hin x hx
      · exact List.getElem_mem _
      · exact List.getElem_mem _
    · intro i hi hik
      by_cases hi2 : i = k
      · subst hi2; simp
      · exact List.mem_append_left _ (hall i hi (by omega))
  · refine AW.step ?_; conv => whnf
    refine CondX.mk (fun h => by simp at h; omega) (fun h => ?_)
    refine AW.step ?_; conv => whnf
    refine AW.stepN 2 ?_; conv => whnf
    refine AW.weaken (LeX.freeze 9 100 27 2 (acc.map aPt) rfl rfl) ?_
    refine AW.step ?_; conv => whnf
    refine CallX.mk _ _ (lwith_con t acc (by omega) (by omega)) ?_
    refine AW.step ?_; conv => whnf
    refine CallX.mk _ _ awake_con ?_
    refine AW.step ?_; conv => whnf
    have hsm := adds_small t l hf.1
    have G := adds_same t l acc hT (by omega) (by omega) (fun x => ⟨fun hx => by obtain ⟨i, hi, rfl⟩ := List.getElem_of_mem hx; exact hall i hi (by omega), hin x⟩)
    rw [← ha] at G hsm
    generalize addsT t acc = b at G ⊢
    repeat' (first
      | ((with_reducible refine CondX.t ?_); refine AW.step ?_; conv => whnf)
      | ((with_reducible refine CondX.f ?_); refine AW.step ?_; conv => whnf)
      | (refine CallX.mk _ _ (same_con a.1 b.1 (by omega) (by omega)) ?_; refine AW.step ?_; conv => whnf)
      | (refine CallX.mk _ _ (puCheck_con a.1) ?_; refine AW.step ?_; conv => whnf)
      | (refine And.intro ⟨by kernel_rfl, by kernel_rfl⟩ ?_; refine AW.step ?_; conv => whnf)
      | (refine CondX.mk (fun h => ?_) (fun h => ?_) <;> (refine AW.step ?_; conv => whnf)))
    all_goals refine RetX.mk (congrArg AV.bool ?_)
    all_goals obtain ⟨G1, G2⟩ := G
    all_goals clear hin hall hal hk hlt
    all_goals simp_all
end Go.Proofs.Ythhnhajldhnfmaa
