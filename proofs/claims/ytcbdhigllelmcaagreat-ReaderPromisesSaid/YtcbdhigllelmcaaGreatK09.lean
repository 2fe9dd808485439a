/- Plain laws of layer 35: the reference's Add is the program's; what a punctuation forbids; several punctuations in any order. The reference of layer 35: With and Add, by the abstract walk. The laws of layer 35, by the abstract walk: Adds, Grows, Implied, Commutes. The abstract walk, fourteenth part: rows frozen; steps counted; weakening between statements. The abstract walk, after its evaluator: rows given up everywhere; contracts whose result holds a row. What a walked function computes, as a term over plain values: the forms of such terms, and how the walk's stops follow them. Clones of slices, for elements of any kind. Chapter 36: plain functions and plain laws. Contracts that were walked by hand, in the form in which the printed ones call them. -/
import Derived.Test.YtcbdhigllelmcaaGreatK08
import Derived.Test.YtcbdhigllelmcaaGreatK06
import Derived.Test.YtcbdhigllelmcaaGreatK07
set_option linter.unusedVariables false
set_option linter.unusedSimpArgs false
namespace Go.Proofs.YtcbdhigllelmcaaGreat
open Go.RowKit

theorem withLoop_true (p : Pt) (acc l : List Pt) : withLoop p true acc l = (true, acc ++ l.filter fun x => !implies p x) := by
  induction l generalizing acc with
  | nil => simp [withLoop]
  | cons x r ih =>
    unfold withLoop
    by_cases h : implies p x = true
    · simp [h, ih]
    · simp [h, ih]
theorem withLoop_false (p : Pt) (acc l : List Pt) (hs : l.Pairwise fun a b => a.seq < b.seq) (hn : ∀ x ∈ l, implies x p = false) :
    (if (withLoop p false acc l).1 = true then (withLoop p false acc l).2 else (withLoop p false acc l).2 ++ [p]) =
      acc ++ ((l.filter fun x => !implies p x).take (below (l.filter fun x => !implies p x) p.seq) ++ p :: (l.filter fun x => !implies p x).drop (below (l.filter fun x => !implies p x) p.seq)) := by
  induction l generalizing acc with
  | nil => simp [withLoop, below]
  | cons x r ih =>
    have hs' := List.pairwise_cons.1 hs
    have hx := hn x (by simp)
    have hr : ∀ y ∈ r, implies y p = false := fun y hy => hn y (by simp [hy])
    unfold withLoop
    by_cases hlt : p.seq < x.seq
    · have hb : ∀ l' : List Pt, (∀ y ∈ l', p.seq < y.seq) → below l' p.seq = 0 := fun l' h => by
        unfold below
        rw [List.length_eq_zero_iff, List.filter_eq_nil_iff]
        intro y hy
        have := h y hy
        simp; omega
      have hbr : below ((x :: r).filter fun x => !implies p x) p.seq = 0 := hb _ (fun y hy => by
        rcases List.mem_cons.1 (List.mem_filter.1 hy).1 with rfl | hy
        · exact hlt
        · have := hs'.1 y hy; omega)
      rw [hbr]
      simp only [hlt, decide_true, Bool.or_true, and_self, if_true, withLoop_true, List.take_zero, List.nil_append, List.drop_zero]
      by_cases hi : implies p x = true
      · simp [hi]
      · simp [hi]
    · have hlt' : x.seq ≤ p.seq := by omega
      simp only [hlt, decide_false, Bool.or_false, and_false, if_false]
      by_cases hi : implies p x = true
      · rw [if_pos hi, ih acc hs'.2 hr]
        simp [hi]
      · rw [if_neg hi, ih _ hs'.2 hr]
        have hxs : x.seq < p.seq := by
          simp only [implies, Bool.and_eq_true, decide_eq_true_eq, Bool.and_eq_false_iff, decide_eq_false_iff_not] at hi hx
          omega
        have : below ((x :: r).filter fun x => !implies p x) p.seq = below (r.filter fun x => !implies p x) p.seq + 1 := by
          unfold below
          rw [List.filter_cons_of_pos (by simp [hi]), List.filter_cons_of_pos (by simpa using hxs), List.length_cons]
        rw [this, List.filter_cons_of_pos (by simp [hi])]
        simp
theorem any_false {α : Type} {q : α → Bool} {l : List α} (h : ¬ l.any q = true) : ∀ x ∈ l, q x = false := fun x hx => by
  cases hq : q x with
  | false => rfl
  | true => exact absurd (List.any_eq_true.2 ⟨x, hx, hq⟩) h
theorem addR_eq (t : Trk) (p : Pt) : addR t p = addT t p := by
  unfold addR addT
  by_cases h1 : puCheck t ≠ 0
  · rw [if_pos h1, if_pos h1]
  rw [if_neg h1, if_neg h1]
  have h1 : puCheck t = 0 := by simpa using h1
  have ht := (puCheck_zero t).1 h1
  by_cases h2 : ptValid p = false
  · rw [if_pos h2, if_pos h2]
  rw [if_neg h2, if_neg h2]
  unfold withR
  by_cases h3 : p.time ≤ t.mark
  · rw [if_pos h3, if_pos (Or.inl h3), if_neg (by have := ht.len; omega)]
  by_cases h4 : (t.points.any fun x => implies x p) = true
  · rw [if_neg h3, if_pos h4, if_pos (Or.inr h4), if_neg (by have := ht.len; omega)]
  rw [if_neg h3, if_neg h4, if_neg (t := (t, (0 : Int))) (fun h => h.elim h3 h4)]
  dsimp only
  by_cases h5 : p.seq ≤ t.next
  · have e : decide (p.seq ≤ t.next) = true := by simp [h5]
    have hl := List.length_filter_le (fun x => !implies p x) t.points
    rw [e, withLoop_true, if_pos h5, if_neg (by have := ht.len; simp; omega)]
    simp [h5]
  · have e : decide (p.seq ≤ t.next) = false := by simp [h5]
    have hL := withLoop_false p [] t.points ((List.pairwise_cons.1 ht.asc).2.imp fun h => h.1) (any_false h4)
    have hlen : ∀ (l : List Pt) (k : Nat), ([] ++ (l.take k ++ p :: l.drop k)).length = l.length + 1 := fun l k => by
      simp; omega
    simp only [if_neg h5, e]
    generalize (if (withLoop p false [] t.points).1 = true then (withLoop p false [] t.points).2 else (withLoop p false [] t.points).2 ++ [p]) = L at *
    subst hL
    rw [hlen]
    rfl

def Forb (t : Trk) (s τ : Int) : Prop := τ ≤ t.mark ∨ ∃ p ∈ t.points, p.seq ≤ s ∧ τ ≤ p.time
theorem implies_iff (a b : Pt) : implies a b = true ↔ a.seq ≤ b.seq ∧ b.time ≤ a.time := by simp [implies]
theorem implies_false (a b : Pt) : implies a b = false ↔ b.seq < a.seq ∨ a.time < b.time := by
  simp only [implies, Bool.and_eq_false_iff, decide_eq_false_iff_not]; omega
theorem pairwise_insert {R : Pt → Pt → Prop} (l : List Pt) (k : Nat) (p : Pt) (hl : l.Pairwise R) (h1 : ∀ x ∈ l.take k, R x p) (h2 : ∀ x ∈ l.drop k, R p x) : (l.take k ++ p :: l.drop k).Pairwise R := by
  have e := List.take_append_drop k l
  rw [← e] at hl
  have h := List.pairwise_append.1 hl
  refine List.pairwise_append.2 ⟨h.1, List.pairwise_cons.2 ⟨h2, h.2.1⟩, fun a ha b hb => ?_⟩
  rcases List.mem_cons.1 hb with rfl | hb
  · exact h1 a ha
  · exact h.2.2 a ha b hb
theorem below_take (l : List Pt) (s : Int) (h : l.Pairwise fun a b => a.seq < b.seq) : (∀ x ∈ l.take (below l s), x.seq < s) ∧ (∀ x ∈ l.drop (below l s), s ≤ x.seq) := by
  have hb := below_lt l s h
  constructor
  · intro x hx
    obtain ⟨k, hk, rfl⟩ := List.mem_iff_getElem.1 hx
    rw [List.length_take] at hk
    rw [List.getElem_take]
    exact (hb k (by omega)).2 (by omega)
  · intro x hx
    obtain ⟨k, hk, rfl⟩ := List.mem_iff_getElem.1 hx
    rw [List.length_drop] at hk
    rw [List.getElem_drop]
    have := (hb (below l s + k) (by omega))
    omega

structure Added (t u : Trk) (p : Pt) : Prop where
  ok : TOk u
  next : u.next = t.next
  beyond : u.beyond = t.beyond
  len : u.points.length ≤ t.points.length + 1
  forb : ∀ s τ, t.next ≤ s → (Forb u s τ ↔ Forb t s τ ∨ p.seq ≤ s ∧ τ ≤ p.time)
  mark : t.mark ≤ u.mark
  has : p.time ≤ u.mark ∨ (u.points.any fun x => implies x p) = true

theorem added (t : Trk) (p : Pt) (h : (addT t p).2 = 0) : TOk t ∧ ptValid p = true ∧ Added t (addT t p).1 p := by
  unfold addT at h ⊢
  by_cases h1 : puCheck t ≠ 0
  · rw [if_pos h1] at h; exact absurd h h1
  rw [if_neg h1] at h ⊢
  have h1 : puCheck t = 0 := by simpa using h1
  have ht := (puCheck_zero t).1 h1
  by_cases h2 : ptValid p = false
  · rw [if_pos h2] at h; exact absurd h (by simp)
  rw [if_neg h2] at h ⊢
  have hv : ptValid p = true := by simpa using h2
  have hp := (ptValid_iff p).1 hv
  refine ⟨ht, hv, ?_⟩
  by_cases h3 : p.time ≤ t.mark ∨ (t.points.any fun x => implies x p) = true
  · rw [if_pos h3]
    refine ⟨ht, rfl, rfl, Nat.le_succ _, fun s τ hs => ⟨Or.inl, fun hf => hf.elim id fun ⟨a, b⟩ => ?_⟩, Int.le_refl _, h3⟩
    rcases h3 with h3 | h3
    · exact Or.inl (by show τ ≤ t.mark; omega)
    · obtain ⟨x, hx, hi⟩ := List.any_eq_true.1 h3
      have := (implies_iff x p).1 hi
      exact Or.inr ⟨x, hx, by omega, by omega⟩
  rw [if_neg h3] at h ⊢
  have h3a : t.mark < p.time := by omega
  have h3b : ∀ x ∈ t.points, implies x p = false := any_false (fun h => h3 (Or.inr h))
  have hpw := (List.pairwise_cons.1 ht.asc).2
  have hgt : ∀ x ∈ t.points, t.next < x.seq ∧ t.mark < x.time := (List.pairwise_cons.1 ht.asc).1
  have hfl := List.length_filter_le (fun x => !implies p x) t.points
  by_cases h4 : p.seq ≤ t.next
  · rw [if_pos h4]
    refine ⟨⟨ht.sq, ⟨by have := ht.mark; show -1 ≤ p.time; omega, hp.2.2.2⟩, by have := ht.len; show (List.filter _ _).length ≤ 256; omega, fun x hx => ht.ok x (List.mem_filter.1 hx).1, ?_⟩, rfl, rfl, by show (List.filter _ _).length ≤ _; omega, fun s τ hs => ?_, by show t.mark ≤ p.time; omega, Or.inl (Int.le_refl _)⟩
    · refine List.pairwise_cons.2 ⟨fun x hx => ?_, hpw.filter _⟩
      obtain ⟨hx, hi⟩ := List.mem_filter.1 hx
      have hi : implies p x = false := by simpa using hi
      have := (implies_false p x).1 hi
      have hg := hgt x hx
      exact ⟨hg.1, by show p.time < x.time; omega⟩
    · constructor
      · rintro (h | ⟨x, hx, h⟩)
        · exact Or.inr ⟨by omega, h⟩
        · exact Or.inl (Or.inr ⟨x, (List.mem_filter.1 hx).1, h⟩)
      · rintro ((h | ⟨x, hx, h⟩) | h)
        · exact Or.inl (by show τ ≤ p.time; omega)
        · by_cases hi : implies p x = true
          · exact Or.inl (by have := (implies_iff p x).1 hi; show τ ≤ p.time; omega)
          · exact Or.inr ⟨x, List.mem_filter.2 ⟨hx, by simpa using hi⟩, h⟩
        · exact Or.inl h.2
  rw [if_neg h4] at h ⊢
  by_cases h5 : 256 < ((t.points.filter fun x => !implies p x).length + 1)
  · rw [if_pos h5] at h; exact absurd h (by simp)
  rw [if_neg h5]
  clear h
  have hkf : ∀ x ∈ t.points.filter fun x => !implies p x, x ∈ t.points ∧ (x.seq < p.seq → x.time < p.time) ∧ (p.seq ≤ x.seq → p.time < x.time) ∧ (p.seq ≤ x.seq → p.seq < x.seq) := fun x hx => by
    obtain ⟨hx, hi⟩ := List.mem_filter.1 hx
    have hi : implies p x = false := by simpa using hi
    have a := (implies_false p x).1 hi
    have b := (implies_false x p).1 (h3b x hx)
    exact ⟨hx, by omega, by omega, by omega⟩
  have hfpw : (t.points.filter fun x => !implies p x).Pairwise Asc2 := hpw.filter _
  have hbt := below_take (t.points.filter fun x => !implies p x) p.seq (hfpw.imp fun h => h.1)
  have hmem : ∀ x, x ∈ ((t.points.filter fun x => !implies p x).take (below (t.points.filter fun x => !implies p x) p.seq) ++ p :: (t.points.filter fun x => !implies p x).drop (below (t.points.filter fun x => !implies p x) p.seq)) ↔ x = p ∨ x ∈ t.points.filter fun x => !implies p x := fun x => by
    conv => rhs; rw [← List.take_append_drop (below (t.points.filter fun x => !implies p x) p.seq) (t.points.filter fun x => !implies p x)]
    simp only [List.mem_append, List.mem_cons]
    constructor
    · rintro (h | h | h)
      · exact Or.inr (Or.inl h)
      · exact Or.inl h
      · exact Or.inr (Or.inr h)
    · rintro (h | h | h)
      · exact Or.inr (Or.inl h)
      · exact Or.inl h
      · exact Or.inr (Or.inr h)
  have hlen : ((t.points.filter fun x => !implies p x).take (below (t.points.filter fun x => !implies p x) p.seq) ++ p :: (t.points.filter fun x => !implies p x).drop (below (t.points.filter fun x => !implies p x) p.seq)).length = (t.points.filter fun x => !implies p x).length + 1 := by
    simp; omega
  have hins : ((t.points.filter fun x => !implies p x).take (below (t.points.filter fun x => !implies p x) p.seq) ++ p :: (t.points.filter fun x => !implies p x).drop (below (t.points.filter fun x => !implies p x) p.seq)).Pairwise Asc2 :=
    pairwise_insert _ _ p hfpw
      (fun x hx => by have a := hbt.1 x hx; have b := hkf x (List.take_subset _ _ hx); exact ⟨a, b.2.1 a⟩)
      (fun x hx => by have a := hbt.2 x hx; have b := hkf x (List.drop_subset _ _ hx); exact ⟨b.2.2.2 a, b.2.2.1 a⟩)
  generalize ((t.points.filter fun x => !implies p x).take (below (t.points.filter fun x => !implies p x) p.seq) ++ p :: (t.points.filter fun x => !implies p x).drop (below (t.points.filter fun x => !implies p x) p.seq)) = L at *
  refine ⟨⟨ht.sq, ht.mark, by show L.length ≤ 256; omega, fun x hx => ?_, List.pairwise_cons.2 ⟨fun x hx => ?_, hins⟩⟩, rfl, rfl, by show L.length ≤ _; omega, fun s τ hs => ?_, Int.le_refl _, Or.inr (List.any_eq_true.2 ⟨p, (hmem p).2 (Or.inl rfl), (implies_iff p p).2 ⟨Int.le_refl _, Int.le_refl _⟩⟩)⟩
  · rcases (hmem x).1 hx with rfl | hx
    · exact hp
    · exact ht.ok x (hkf x hx).1
  · rcases (hmem x).1 hx with rfl | hx
    · exact ⟨by show t.next < x.seq; omega, h3a⟩
    · exact hgt x (hkf x hx).1
  · unfold Forb
    constructor
    · rintro (h | ⟨x, hx, h⟩)
      · exact Or.inl (Or.inl h)
      · rcases (hmem x).1 hx with rfl | hx
        · exact Or.inr h
        · exact Or.inl (Or.inr ⟨x, (hkf x hx).1, h⟩)
    · rintro ((h | ⟨x, hx, h⟩) | h)
      · exact Or.inl h
      · by_cases hi : implies p x = true
        · have := (implies_iff p x).1 hi
          exact Or.inr ⟨p, (hmem p).2 (Or.inl rfl), by omega, by omega⟩
        · exact Or.inr ⟨x, (hmem x).2 (Or.inr (List.mem_filter.2 ⟨hx, by simpa using hi⟩)), h⟩
      · exact Or.inr ⟨p, (hmem p).2 (Or.inl rfl), h⟩
theorem add_fits (t : Trk) (p : Pt) (ht : TOk t) (hp : ptValid p = true) (hl : t.points.length < 256) : (addT t p).2 = 0 := by
  unfold addT
  have hfl := List.length_filter_le (fun x => !implies p x) t.points
  rw [if_neg (by simp [(puCheck_zero t).2 ht]), if_neg (by simp [hp])]
  split
  · rfl
  split
  · rfl
  rw [if_neg (by omega)]
theorem add_invalid (t : Trk) (p : Pt) (hp : ptValid p = false) : (addT t p).2 ≠ 0 := by
  unfold addT
  split
  · assumption
  · simp

end Go.Proofs.YtcbdhigllelmcaaGreat
namespace Go.Proofs.YtcbdhigllelmcaaGreat
open Go.RowKit

theorem rimplies_con (a b : Pt) : Con E0 true 112 [aPt a, aPt b] (.bool (implies a b)) := by
  refine Con.walk _ Tryz.func112 rfl (enters_of Tryz.func112 rfl rfl) rfl (Or.inr rfl) ?_
  refine AW.step ?_; conv => whnf
  repeat' (first | ((with_reducible refine CondX.t ?_); refine AW.step ?_; conv => whnf) | ((with_reducible refine CondX.f ?_); refine AW.step ?_; conv => whnf) | (refine CondX.mk (fun h => ?_) (fun h => ?_) <;> (refine AW.step ?_; conv => whnf)))
  all_goals (refine RetX.mk (congrArg AV.bool ?_); simp_all [implies] <;> omega)
set_option maxRecDepth 100000 in
theorem rvalid_con (p : Pt) : Con E0 true 82 [aPt p] (.bool (ptValid p)) := by
  refine Con.walk _ Tryz.func82 rfl (enters_of Tryz.func82 rfl rfl) rfl (Or.inr rfl) ?_
  refine AW.step ?_; conv => whnf
  repeat' (first | ((with_reducible refine CondX.t ?_); refine AW.step ?_; conv => whnf) | ((with_reducible refine CondX.f ?_); refine AW.step ?_; conv => whnf) | (refine CondX.mk (fun h => ?_) (fun h => ?_) <;> (refine AW.step ?_; conv => whnf)))
  all_goals (refine RetX.mk (congrArg AV.bool ?_); simp_all [ptValid] <;> omega)

def wT (t : Trk) : List AV := [aI t.next, aInts t.beyond, aPts t.points, aI t.mark]
def wS1 (t : Trk) (p : Pt) (k : Nat) : AS := ⟨[(2, .ptr 2 0), (3, .ptr 3 0), (4, .ptr 4 0), (5, aI k)], [(2, .box 26 (wT t)), (3, .box 116 [aI p.seq, aI p.time]), (4, .box 26 [aI 0, .nils, .nils, aI 0])]⟩
def wS2 (t : Trk) (p : Pt) (mk : Int) (put : Bool) (acc : List Pt) (k : Nat) : AS := ⟨[(2, .ptr 2 0), (3, .ptr 3 0), (4, .ptr 4 0), (6, .ptr 6 0), (7, .bool put), (8, aI k)],
  [(2, .box 26 (wT t)), (3, .box 116 [aI p.seq, aI p.time]), (4, .box 26 [aI 0, .nils, .nils, aI 0]), (6, .box 26 [aI t.next, aInts t.beyond, .row 100, aI mk]), (100, .row 116 2 (acc.map aPt))]⟩
theorem any_drop (l : List Pt) (p : Pt) (k : Nat) (h : k < l.length) : (l.drop k).any (fun x => implies x p) = (implies l[k] p || (l.drop (k + 1)).any fun x => implies x p) := by
  rw [drop_cons l k h]; rfl
theorem withLoop_cons (p : Pt) (put : Bool) (acc : List Pt) (x : Pt) (r : List Pt) : withLoop p put acc (x :: r) =
    withLoop p (put || decide (p.seq < x.seq)) (if implies p x = true then (if put = false ∧ p.seq < x.seq then acc ++ [p] else acc) else (if put = false ∧ p.seq < x.seq then acc ++ [p] else acc) ++ [x]) r := rfl
set_option maxRecDepth 100000 in
set_option maxHeartbeats 1600000 in
theorem with_con (t : Trk) (p : Pt) (hl : t.points.length ≤ 1000000) : Con E0 false 103 [aTrk t, aPt p] (aTrk (withR t p)) := by
  obtain ⟨next, lb, l, mark⟩ := t
  obtain ⟨p0, p1⟩ := p
  dsimp only at hl
  refine Con.walk _ Tryz.func103 rfl (enters_of Tryz.func103 rfl rfl) rfl (Or.inl rfl) ?_
  refine AW.step ?_; conv => whnf
  refine CondX.mk (fun h => ?_) (fun h => ?_) <;> (refine AW.step ?_; conv => whnf)
  all_goals simp only [decide_eq_true_eq, decide_eq_false_iff_not] at h
  · exact RetX.mk (by unfold withR; rw [if_pos h]; rfl)
  have hm : ¬ p1 ≤ mark := h
  refine LoopX.mk (fun n σ => ∃ k : Nat, n = l.length - k ∧ k ≤ l.length ∧ (l.drop k).any (fun x => implies x ⟨p0, p1⟩) = l.any (fun x => implies x ⟨p0, p1⟩) ∧ σ = wS1 ⟨next, lb, l, mark⟩ ⟨p0, p1⟩ k) l.length (wS1 ⟨next, lb, l, mark⟩ ⟨p0, p1⟩ 0)
    (LeX.of [] rfl ⟨⟨rfl, rfl⟩, ⟨rfl, rfl⟩, ⟨rfl, rfl⟩, ⟨rfl, rfl⟩, trivial⟩ ⟨⟨rfl, rfl⟩, ⟨rfl, rfl⟩, ⟨rfl, rfl⟩, trivial⟩) ⟨0, rfl, by omega, rfl, rfl⟩ ?_
  rintro n σ ⟨k, rfl, hk, hs, rfl⟩
  by_cases hlt : k < l.length
  · refine AW.step ?_; conv => whnf
    refine CondX.mk (fun h => ?_) (fun h => by simp at h; omega)
    refine AW.step ?_; conv => whnf
    refine IdxX.mk k (aPt l[k]) rfl (by simp [hlt]) ?_
    refine AW.step ?_; conv => whnf
    refine CallX.mk _ _ (rimplies_con l[k] ⟨p0, p1⟩) ?_
    refine AW.step ?_; conv => whnf
    refine And.intro ⟨by kernel_rfl, by kernel_rfl⟩ ?_
    refine AW.step ?_; conv => whnf
    rw [any_drop l _ k hlt] at hs
    refine CondX.mk (fun h => ?_) (fun h => ?_) <;> (refine AW.step ?_; conv => whnf)
    · refine AW.step ?_; conv => whnf
      rw [h, Bool.true_or] at hs
      exact RetX.mk (by unfold withR; rw [if_neg hm, if_pos hs.symm]; rfl)
    · rw [h, Bool.false_or] at hs
      exact ⟨l.length - (k + 1), wS1 ⟨next, lb, l, mark⟩ ⟨p0, p1⟩ (k + 1), LeX.of [] rfl ⟨⟨rfl, rfl⟩, ⟨rfl, rfl⟩, ⟨rfl, rfl⟩, ⟨congrArg aI (wrap_in (↑k + 1) (by omega)), rfl⟩, trivial⟩ ⟨⟨rfl, rfl⟩, ⟨rfl, rfl⟩, ⟨rfl, rfl⟩, trivial⟩, by omega, k + 1, rfl, by omega, hs, rfl⟩
  · refine AW.step ?_; conv => whnf
    refine CondX.mk (fun h => by simp at h; omega) (fun h => ?_)
    refine AW.step ?_; conv => whnf
    refine AW.step ?_; conv => whnf
    rw [List.drop_eq_nil_of_le (by omega)] at hs
    have hn : ¬ (l.any fun x => implies x ⟨p0, p1⟩) = true := by rw [← hs]; simp
    have hW : withR ⟨next, lb, l, mark⟩ ⟨p0, p1⟩ = ⟨next, lb, if (withLoop ⟨p0, p1⟩ (decide (p0 ≤ next)) [] l).1 = true then (withLoop ⟨p0, p1⟩ (decide (p0 ≤ next)) [] l).2 else (withLoop ⟨p0, p1⟩ (decide (p0 ≤ next)) [] l).2 ++ [⟨p0, p1⟩], if p0 ≤ next then p1 else mark⟩ := by
      unfold withR; rw [if_neg hm, if_neg hn]
    clear hs hk hlt h
    refine CondX.mk (fun h => ?_) (fun h => ?_) <;> (refine AW.step ?_; conv => whnf)
    all_goals simp only [decide_eq_true_eq, decide_eq_false_iff_not] at h
    · obtain ⟨put0, hput⟩ : ∃ b : Bool, b = true := ⟨_, rfl⟩
      obtain ⟨mk, hmk⟩ : ∃ b : Int, b = p1 := ⟨_, rfl⟩
      have hW' : withR ⟨next, lb, l, mark⟩ ⟨p0, p1⟩ = ⟨next, lb, if (withLoop ⟨p0, p1⟩ put0 [] l).1 = true then (withLoop ⟨p0, p1⟩ put0 [] l).2 else (withLoop ⟨p0, p1⟩ put0 [] l).2 ++ [⟨p0, p1⟩], mk⟩ := by
        rw [hW, hput, hmk, if_pos h, decide_eq_true h]
      clear hW
      refine LoopX.mk (fun n σ => ∃ (k : Nat) (put : Bool) (acc : List Pt), n = l.length - k ∧ k ≤ l.length ∧ withLoop ⟨p0, p1⟩ put acc (l.drop k) = withLoop ⟨p0, p1⟩ put0 [] l ∧ acc.length ≤ 2 * k ∧ σ = wS2 ⟨next, lb, l, mark⟩ ⟨p0, p1⟩ mk put acc k) l.length (wS2 ⟨next, lb, l, mark⟩ ⟨p0, p1⟩ mk put0 [] 0)
        (LeX.trans (LeX.adoptC 6 2 100 116 2 26 [aI next, aInts lb, .nils, aI p1] rfl rfl rfl) (LeX.of [] rfl ⟨⟨rfl, rfl⟩, ⟨rfl, rfl⟩, ⟨rfl, rfl⟩, ⟨rfl, rfl⟩, ⟨congrArg AV.bool (by simp [hput]; omega), rfl⟩, ⟨rfl, rfl⟩, trivial⟩ ⟨⟨rfl, rfl⟩, ⟨rfl, rfl⟩, ⟨rfl, rfl⟩, ⟨by rw [hmk]; rfl, rfl⟩, ⟨rfl, rfl⟩, trivial⟩)) ⟨0, put0, [], rfl, by omega, rfl, by simp, rfl⟩ ?_
      rintro n σ ⟨k, put, acc, rfl, hk, hs, hal, rfl⟩
      by_cases hlt : k < l.length
      · refine AW.step ?_; conv => whnf
        refine CondX.mk (fun h => ?_) (fun h => by simp at h; omega)
        refine AW.step ?_; conv => whnf
        repeat' (first
          | ((with_reducible refine CondX.t ?_); refine AW.step ?_; conv => whnf)
          | ((with_reducible refine CondX.f ?_); refine AW.step ?_; conv => whnf)
          | (refine CondX.mk (fun h => ?_) (fun h => ?_) <;> (refine AW.step ?_; conv => whnf))
          | (refine AW.step ?_; conv => whnf)
          | (refine IdxX.mk k (aPt l[k]) rfl (by simp [hlt]) ?_; refine AW.step ?_; conv => whnf)
          | (refine CallX.mk _ _ (rimplies_con ⟨p0, p1⟩ l[k]) ?_; refine AW.step ?_; conv => whnf)
          | (refine And.intro ⟨by kernel_rfl, by kernel_rfl⟩ ?_; refine AW.step ?_; conv => whnf)
          | (refine AppX.mk (by simp; omega) (by simp; omega) ?_; refine AW.step ?_; conv => whnf))
        all_goals rw [drop_cons l k hlt, withLoop_cons] at hs
        all_goals dsimp only at hs
        · have a1 : (!put) = true := by assumption
          have a2 : decide (p0 < l[k].seq) = true := by assumption
          have a3 : (!implies ⟨p0, p1⟩ l[k]) = true := by assumption
          have a1 : put = false := by simpa using a1
          have a3 : implies ⟨p0, p1⟩ l[k] = false := by simpa using a3
          have a2 : p0 < l[k].seq := by simpa using a2
          subst a1
          simp [a3, a2] at hs
          refine ⟨l.length - (k + 1), wS2 ⟨next, lb, l, mark⟩ ⟨p0, p1⟩ mk true (acc ++ [⟨p0, p1⟩] ++ [l[k]]) (k + 1), LeX.of [(100, 83)] rfl ⟨⟨rfl, rfl⟩, ⟨rfl, rfl⟩, ⟨rfl, rfl⟩, ⟨rfl, rfl⟩, ⟨rfl, rfl⟩, ⟨congrArg aI (wrap_in (↑k + 1) (by omega)), rfl⟩, trivial⟩ ⟨⟨rfl, rfl⟩, ⟨rfl, rfl⟩, ⟨rfl, rfl⟩, ⟨rfl, rfl⟩, ⟨congrArg (fun q => some (Ent.row 116 2 q)) (by simp [aPt, aI]), rfl⟩, trivial⟩, by omega, k + 1, true, acc ++ [⟨p0, p1⟩] ++ [l[k]], rfl, by omega, ?_, by first | omega | (simp; omega), rfl⟩
          simpa using hs
        · have a1 : (!put) = true := by assumption
          have a2 : decide (p0 < l[k].seq) = true := by assumption
          have a3 : (!implies ⟨p0, p1⟩ l[k]) = false := by assumption
          have a1 : put = false := by simpa using a1
          have a3 : implies ⟨p0, p1⟩ l[k] = true := by simpa using a3
          have a2 : p0 < l[k].seq := by simpa using a2
          subst a1
          simp [a3, a2] at hs
          refine ⟨l.length - (k + 1), wS2 ⟨next, lb, l, mark⟩ ⟨p0, p1⟩ mk true (acc ++ [⟨p0, p1⟩]) (k + 1), LeX.of [(100, 65)] rfl ⟨⟨rfl, rfl⟩, ⟨rfl, rfl⟩, ⟨rfl, rfl⟩, ⟨rfl, rfl⟩, ⟨rfl, rfl⟩, ⟨congrArg aI (wrap_in (↑k + 1) (by omega)), rfl⟩, trivial⟩ ⟨⟨rfl, rfl⟩, ⟨rfl, rfl⟩, ⟨rfl, rfl⟩, ⟨rfl, rfl⟩, ⟨congrArg (fun q => some (Ent.row 116 2 q)) (by simp [aPt, aI]), rfl⟩, trivial⟩, by omega, k + 1, true, acc ++ [⟨p0, p1⟩], rfl, by omega, ?_, by first | omega | (simp; omega), rfl⟩
          simpa using hs
        · have a1 : (!put) = true := by assumption
          have a2 : decide (p0 < l[k].seq) = false := by assumption
          have a3 : (!implies ⟨p0, p1⟩ l[k]) = true := by assumption
          have a1 : put = false := by simpa using a1
          have a3 : implies ⟨p0, p1⟩ l[k] = false := by simpa using a3
          have a2 : ¬ p0 < l[k].seq := by simpa using a2
          subst a1
          simp [a3, a2] at hs
          refine ⟨l.length - (k + 1), wS2 ⟨next, lb, l, mark⟩ ⟨p0, p1⟩ mk false (acc ++ [l[k]]) (k + 1), LeX.of [(100, 83)] rfl ⟨⟨rfl, rfl⟩, ⟨rfl, rfl⟩, ⟨rfl, rfl⟩, ⟨rfl, rfl⟩, ⟨rfl, rfl⟩, ⟨congrArg aI (wrap_in (↑k + 1) (by omega)), rfl⟩, trivial⟩ ⟨⟨rfl, rfl⟩, ⟨rfl, rfl⟩, ⟨rfl, rfl⟩, ⟨rfl, rfl⟩, ⟨congrArg (fun q => some (Ent.row 116 2 q)) (by simp [aPt, aI]), rfl⟩, trivial⟩, by omega, k + 1, false, acc ++ [l[k]], rfl, by omega, ?_, by first | omega | (simp; omega), rfl⟩
          simpa using hs
        · have a1 : (!put) = true := by assumption
          have a2 : decide (p0 < l[k].seq) = false := by assumption
          have a3 : (!implies ⟨p0, p1⟩ l[k]) = false := by assumption
          have a1 : put = false := by simpa using a1
          have a3 : implies ⟨p0, p1⟩ l[k] = true := by simpa using a3
          have a2 : ¬ p0 < l[k].seq := by simpa using a2
          subst a1
          simp [a3, a2] at hs
          refine ⟨l.length - (k + 1), wS2 ⟨next, lb, l, mark⟩ ⟨p0, p1⟩ mk false (acc) (k + 1), LeX.of [(100, 100)] rfl ⟨⟨rfl, rfl⟩, ⟨rfl, rfl⟩, ⟨rfl, rfl⟩, ⟨rfl, rfl⟩, ⟨rfl, rfl⟩, ⟨congrArg aI (wrap_in (↑k + 1) (by omega)), rfl⟩, trivial⟩ ⟨⟨rfl, rfl⟩, ⟨rfl, rfl⟩, ⟨rfl, rfl⟩, ⟨rfl, rfl⟩, ⟨rfl, rfl⟩, trivial⟩, by omega, k + 1, false, acc, rfl, by omega, ?_, by first | omega | (simp; omega), rfl⟩
          simpa using hs
        · have a1 : (!put) = false := by assumption
          have a3 : (!implies ⟨p0, p1⟩ l[k]) = true := by assumption
          have a1 : put = true := by simpa using a1
          have a3 : implies ⟨p0, p1⟩ l[k] = false := by simpa using a3
          subst a1
          simp [a3] at hs
          refine ⟨l.length - (k + 1), wS2 ⟨next, lb, l, mark⟩ ⟨p0, p1⟩ mk true (acc ++ [l[k]]) (k + 1), LeX.of [(100, 83)] rfl ⟨⟨rfl, rfl⟩, ⟨rfl, rfl⟩, ⟨rfl, rfl⟩, ⟨rfl, rfl⟩, ⟨rfl, rfl⟩, ⟨congrArg aI (wrap_in (↑k + 1) (by omega)), rfl⟩, trivial⟩ ⟨⟨rfl, rfl⟩, ⟨rfl, rfl⟩, ⟨rfl, rfl⟩, ⟨rfl, rfl⟩, ⟨congrArg (fun q => some (Ent.row 116 2 q)) (by simp [aPt, aI]), rfl⟩, trivial⟩, by omega, k + 1, true, acc ++ [l[k]], rfl, by omega, ?_, by first | omega | (simp; omega), rfl⟩
          simpa using hs
        · have a1 : (!put) = false := by assumption
          have a3 : (!implies ⟨p0, p1⟩ l[k]) = false := by assumption
          have a1 : put = true := by simpa using a1
          have a3 : implies ⟨p0, p1⟩ l[k] = true := by simpa using a3
          subst a1
          simp [a3] at hs
          refine ⟨l.length - (k + 1), wS2 ⟨next, lb, l, mark⟩ ⟨p0, p1⟩ mk true (acc) (k + 1), LeX.of [(100, 100)] rfl ⟨⟨rfl, rfl⟩, ⟨rfl, rfl⟩, ⟨rfl, rfl⟩, ⟨rfl, rfl⟩, ⟨rfl, rfl⟩, ⟨congrArg aI (wrap_in (↑k + 1) (by omega)), rfl⟩, trivial⟩ ⟨⟨rfl, rfl⟩, ⟨rfl, rfl⟩, ⟨rfl, rfl⟩, ⟨rfl, rfl⟩, ⟨rfl, rfl⟩, trivial⟩, by omega, k + 1, true, acc, rfl, by omega, ?_, by first | omega | (simp; omega), rfl⟩
          simpa using hs
      · refine AW.step ?_; conv => whnf
        refine CondX.mk (fun h => by simp at h; omega) (fun h => ?_)
        refine AW.step ?_; conv => whnf
        refine AW.step ?_; conv => whnf
        rw [List.drop_eq_nil_of_le (by omega)] at hs
        rw [hW']
        rw [← hs]
        refine CondX.mk (fun h => ?_) (fun h => ?_) <;> (refine AW.step ?_; conv => whnf)
        · have a1 : put = false := by simpa using h
          subst a1
          refine AppX.mk (by simp; omega) (by simp; omega) ?_
          refine AW.step ?_; conv => whnf
          exact RetX.mk (by simp [withLoop, aTrk, aPts, aPt, aI, aInts])
        · have a1 : put = true := by simpa using h
          subst a1
          exact RetX.mk (by simp [withLoop, aTrk, aPts, aPt, aI, aInts])
    · obtain ⟨put0, hput⟩ : ∃ b : Bool, b = false := ⟨_, rfl⟩
      obtain ⟨mk, hmk⟩ : ∃ b : Int, b = mark := ⟨_, rfl⟩
      have hW' : withR ⟨next, lb, l, mark⟩ ⟨p0, p1⟩ = ⟨next, lb, if (withLoop ⟨p0, p1⟩ put0 [] l).1 = true then (withLoop ⟨p0, p1⟩ put0 [] l).2 else (withLoop ⟨p0, p1⟩ put0 [] l).2 ++ [⟨p0, p1⟩], mk⟩ := by
        rw [hW, hput, hmk, if_neg h, decide_eq_false h]
      clear hW
      refine LoopX.mk (fun n σ => ∃ (k : Nat) (put : Bool) (acc : List Pt), n = l.length - k ∧ k ≤ l.length ∧ withLoop ⟨p0, p1⟩ put acc (l.drop k) = withLoop ⟨p0, p1⟩ put0 [] l ∧ acc.length ≤ 2 * k ∧ σ = wS2 ⟨next, lb, l, mark⟩ ⟨p0, p1⟩ mk put acc k) l.length (wS2 ⟨next, lb, l, mark⟩ ⟨p0, p1⟩ mk put0 [] 0)
        (LeX.trans (LeX.adoptC 6 2 100 116 2 26 [aI next, aInts lb, .nils, aI mark] rfl rfl rfl) (LeX.of [] rfl ⟨⟨rfl, rfl⟩, ⟨rfl, rfl⟩, ⟨rfl, rfl⟩, ⟨rfl, rfl⟩, ⟨congrArg AV.bool (by simp [hput]; omega), rfl⟩, ⟨rfl, rfl⟩, trivial⟩ ⟨⟨rfl, rfl⟩, ⟨rfl, rfl⟩, ⟨rfl, rfl⟩, ⟨by rw [hmk]; rfl, rfl⟩, ⟨rfl, rfl⟩, trivial⟩)) ⟨0, put0, [], rfl, by omega, rfl, by simp, rfl⟩ ?_
      rintro n σ ⟨k, put, acc, rfl, hk, hs, hal, rfl⟩
      by_cases hlt : k < l.length
      · refine AW.step ?_; conv => whnf
        refine CondX.mk (fun h => ?_) (fun h => by simp at h; omega)
        refine AW.step ?_; conv => whnf
        repeat' (first
          | ((with_reducible refine CondX.t ?_); refine AW.step ?_; conv => whnf)
          | ((with_reducible refine CondX.f ?_); refine AW.step ?_; conv => whnf)
          | (refine CondX.mk (fun h => ?_) (fun h => ?_) <;> (refine AW.step ?_; conv => whnf))
          | (refine AW.step ?_; conv => whnf)
          | (refine IdxX.mk k (aPt l[k]) rfl (by simp [hlt]) ?_; refine AW.step ?_; conv => whnf)
          | (refine CallX.mk _ _ (rimplies_con ⟨p0, p1⟩ l[k]) ?_; refine AW.step ?_; conv => whnf)
          | (refine And.intro ⟨by kernel_rfl, by kernel_rfl⟩ ?_; refine AW.step ?_; conv => whnf)
          | (refine AppX.mk (by simp; omega) (by simp; omega) ?_; refine AW.step ?_; conv => whnf))
        all_goals rw [drop_cons l k hlt, withLoop_cons] at hs
        all_goals dsimp only at hs
        · have a1 : (!put) = true := by assumption
          have a2 : decide (p0 < l[k].seq) = true := by assumption
          have a3 : (!implies ⟨p0, p1⟩ l[k]) = true := by assumption
          have a1 : put = false := by simpa using a1
          have a3 : implies ⟨p0, p1⟩ l[k] = false := by simpa using a3
          have a2 : p0 < l[k].seq := by simpa using a2
          subst a1
          simp [a3, a2] at hs
          refine ⟨l.length - (k + 1), wS2 ⟨next, lb, l, mark⟩ ⟨p0, p1⟩ mk true (acc ++ [⟨p0, p1⟩] ++ [l[k]]) (k + 1), LeX.of [(100, 83)] rfl ⟨⟨rfl, rfl⟩, ⟨rfl, rfl⟩, ⟨rfl, rfl⟩, ⟨rfl, rfl⟩, ⟨rfl, rfl⟩, ⟨congrArg aI (wrap_in (↑k + 1) (by omega)), rfl⟩, trivial⟩ ⟨⟨rfl, rfl⟩, ⟨rfl, rfl⟩, ⟨rfl, rfl⟩, ⟨rfl, rfl⟩, ⟨congrArg (fun q => some (Ent.row 116 2 q)) (by simp [aPt, aI]), rfl⟩, trivial⟩, by omega, k + 1, true, acc ++ [⟨p0, p1⟩] ++ [l[k]], rfl, by omega, ?_, by first | omega | (simp; omega), rfl⟩
          simpa using hs
        · have a1 : (!put) = true := by assumption
          have a2 : decide (p0 < l[k].seq) = true := by assumption
          have a3 : (!implies ⟨p0, p1⟩ l[k]) = false := by assumption
          have a1 : put = false := by simpa using a1
          have a3 : implies ⟨p0, p1⟩ l[k] = true := by simpa using a3
          have a2 : p0 < l[k].seq := by simpa using a2
          subst a1
          simp [a3, a2] at hs
          refine ⟨l.length - (k + 1), wS2 ⟨next, lb, l, mark⟩ ⟨p0, p1⟩ mk true (acc ++ [⟨p0, p1⟩]) (k + 1), LeX.of [(100, 65)] rfl ⟨⟨rfl, rfl⟩, ⟨rfl, rfl⟩, ⟨rfl, rfl⟩, ⟨rfl, rfl⟩, ⟨rfl, rfl⟩, ⟨congrArg aI (wrap_in (↑k + 1) (by omega)), rfl⟩, trivial⟩ ⟨⟨rfl, rfl⟩, ⟨rfl, rfl⟩, ⟨rfl, rfl⟩, ⟨rfl, rfl⟩, ⟨congrArg (fun q => some (Ent.row 116 2 q)) (by simp [aPt, aI]), rfl⟩, trivial⟩, by omega, k + 1, true, acc ++ [⟨p0, p1⟩], rfl, by omega, ?_, by first | omega | (simp; omega), rfl⟩
          simpa using hs
        · have a1 : (!put) = true := by assumption
          have a2 : decide (p0 < l[k].seq) = false := by assumption
          have a3 : (!implies ⟨p0, p1⟩ l[k]) = true := by assumption
          have a1 : put = false := by simpa using a1
          have a3 : implies ⟨p0, p1⟩ l[k] = false := by simpa using a3
          have a2 : ¬ p0 < l[k].seq := by simpa using a2
          subst a1
          simp [a3, a2] at hs
          refine ⟨l.length - (k + 1), wS2 ⟨next, lb, l, mark⟩ ⟨p0, p1⟩ mk false (acc ++ [l[k]]) (k + 1), LeX.of [(100, 83)] rfl ⟨⟨rfl, rfl⟩, ⟨rfl, rfl⟩, ⟨rfl, rfl⟩, ⟨rfl, rfl⟩, ⟨rfl, rfl⟩, ⟨congrArg aI (wrap_in (↑k + 1) (by omega)), rfl⟩, trivial⟩ ⟨⟨rfl, rfl⟩, ⟨rfl, rfl⟩, ⟨rfl, rfl⟩, ⟨rfl, rfl⟩, ⟨congrArg (fun q => some (Ent.row 116 2 q)) (by simp [aPt, aI]), rfl⟩, trivial⟩, by omega, k + 1, false, acc ++ [l[k]], rfl, by omega, ?_, by first | omega | (simp; omega), rfl⟩
          simpa using hs
        · have a1 : (!put) = true := by assumption
          have a2 : decide (p0 < l[k].seq) = false := by assumption
          have a3 : (!implies ⟨p0, p1⟩ l[k]) = false := by assumption
          have a1 : put = false := by simpa using a1
          have a3 : implies ⟨p0, p1⟩ l[k] = true := by simpa using a3
          have a2 : ¬ p0 < l[k].seq := by simpa using a2
          subst a1
          simp [a3, a2] at hs
          refine ⟨l.length - (k + 1), wS2 ⟨next, lb, l, mark⟩ ⟨p0, p1⟩ mk false (acc) (k + 1), LeX.of [(100, 100)] rfl ⟨⟨rfl, rfl⟩, ⟨rfl, rfl⟩, ⟨rfl, rfl⟩, ⟨rfl, rfl⟩, ⟨rfl, rfl⟩, ⟨congrArg aI (wrap_in (↑k + 1) (by omega)), rfl⟩, trivial⟩ ⟨⟨rfl, rfl⟩, ⟨rfl, rfl⟩, ⟨rfl, rfl⟩, ⟨rfl, rfl⟩, ⟨rfl, rfl⟩, trivial⟩, by omega, k + 1, false, acc, rfl, by omega, ?_, by first | omega | (simp; omega), rfl⟩
          simpa using hs
        · have a1 : (!put) = false := by assumption
          have a3 : (!implies ⟨p0, p1⟩ l[k]) = true := by assumption
          have a1 : put = true := by simpa using a1
          have a3 : implies ⟨p0, p1⟩ l[k] = false := by simpa using a3
          subst a1
          simp [a3] at hs
          refine ⟨l.length - (k + 1), wS2 ⟨next, lb, l, mark⟩ ⟨p0, p1⟩ mk true (acc ++ [l[k]]) (k + 1), LeX.of [(100, 83)] rfl ⟨⟨rfl, rfl⟩, ⟨rfl, rfl⟩, ⟨rfl, rfl⟩, ⟨rfl, rfl⟩, ⟨rfl, rfl⟩, ⟨congrArg aI (wrap_in (↑k + 1) (by omega)), rfl⟩, trivial⟩ ⟨⟨rfl, rfl⟩, ⟨rfl, rfl⟩, ⟨rfl, rfl⟩, ⟨rfl, rfl⟩, ⟨congrArg (fun q => some (Ent.row 116 2 q)) (by simp [aPt, aI]), rfl⟩, trivial⟩, by omega, k + 1, true, acc ++ [l[k]], rfl, by omega, ?_, by first | omega | (simp; omega), rfl⟩
          simpa using hs
        · have a1 : (!put) = false := by assumption
          have a3 : (!implies ⟨p0, p1⟩ l[k]) = false := by assumption
          have a1 : put = true := by simpa using a1
          have a3 : implies ⟨p0, p1⟩ l[k] = true := by simpa using a3
          subst a1
          simp [a3] at hs
          refine ⟨l.length - (k + 1), wS2 ⟨next, lb, l, mark⟩ ⟨p0, p1⟩ mk true (acc) (k + 1), LeX.of [(100, 100)] rfl ⟨⟨rfl, rfl⟩, ⟨rfl, rfl⟩, ⟨rfl, rfl⟩, ⟨rfl, rfl⟩, ⟨rfl, rfl⟩, ⟨congrArg aI (wrap_in (↑k + 1) (by omega)), rfl⟩, trivial⟩ ⟨⟨rfl, rfl⟩, ⟨rfl, rfl⟩, ⟨rfl, rfl⟩, ⟨rfl, rfl⟩, ⟨rfl, rfl⟩, trivial⟩, by omega, k + 1, true, acc, rfl, by omega, ?_, by first | omega | (simp; omega), rfl⟩
          simpa using hs
      · refine AW.step ?_; conv => whnf
        refine CondX.mk (fun h => by simp at h; omega) (fun h => ?_)
        refine AW.step ?_; conv => whnf
        refine AW.step ?_; conv => whnf
        rw [List.drop_eq_nil_of_le (by omega)] at hs
        rw [hW']
        rw [← hs]
        refine CondX.mk (fun h => ?_) (fun h => ?_) <;> (refine AW.step ?_; conv => whnf)
        · have a1 : put = false := by simpa using h
          subst a1
          refine AppX.mk (by simp; omega) (by simp; omega) ?_
          refine AW.step ?_; conv => whnf
          exact RetX.mk (by simp [withLoop, aTrk, aPts, aPt, aI, aInts])
        · have a1 : put = true := by simpa using h
          subst a1
          exact RetX.mk (by simp [withLoop, aTrk, aPts, aPt, aI, aInts])
end Go.Proofs.YtcbdhigllelmcaaGreat
namespace Go.Proofs.YtcbdhigllelmcaaGreat
open Go.RowKit

theorem sub_zero : Sub (.agg [.int .i64 0, .nils, .nils, .int .i64 0]) (aTrk zeroT) := .agg (.cons (.refl _) (.cons (.nil 1) (.cons (.nil 2) (.cons (.refl _) .nil))))
set_option maxRecDepth 100000 in
theorem radd_con (t : Trk) (p : Pt) (hl : t.points.length ≤ 1000000) : Con E0 false 83 [aTrk t, aPt p] (.tup [aTrk (addR t p).1, aI (addR t p).2]) := by
  refine Con.walk _ Tryz.func83 rfl (enters_of Tryz.func83 rfl rfl) rfl (Or.inl rfl) ?_
  refine AW.step ?_; conv => whnf
  refine CallX.mk _ _ (rpuCheck_con t) ?_
  refine AW.step ?_; conv => whnf
  refine CondX.mk (fun h => ?_) (fun h => ?_) <;> (refine AW.step ?_; conv => whnf)
  · have e : addR t p = (zeroT, puCheck t) := by unfold addR; rw [if_pos (by simpa using h)]
    rw [e]
    exact .sub (.tup (.cons sub_zero (.cons (.refl _) .nil)))
  have h1 : puCheck t = 0 := by simpa using h
  refine CallX.mk _ _ (rvalid_con p) ?_
  refine AW.step ?_; conv => whnf
  refine CondX.mk (fun h => ?_) (fun h => ?_) <;> (refine AW.step ?_; conv => whnf)
  · have e : addR t p = (zeroT, 2) := by unfold addR; rw [if_neg (by simp [h1]), if_pos (by simpa using h)]
    rw [e]
    exact .sub (.tup (.cons sub_zero (.cons (.refl _) .nil)))
  have h2 : ptValid p = true := by simpa using h
  refine CallX.mk _ _ (with_con t p hl) ?_
  refine AW.step ?_; conv => whnf
  refine CondX.mk (fun h => ?_) (fun h => ?_) <;> (refine AW.step ?_; conv => whnf)
  · have e : addR t p = (zeroT, 5) := by unfold addR; rw [if_neg (by simp [h1]), if_neg (by simp [h2]), if_pos (by simp at h; omega)]
    rw [e]
    exact .sub (.tup (.cons sub_zero (.cons (.refl _) .nil)))
  · have e : addR t p = (withR t p, 0) := by unfold addR; rw [if_neg (by simp [h1]), if_neg (by simp [h2]), if_neg (by simp at h; omega)]
    rw [e]
    exact RetX.mk rfl

end Go.Proofs.YtcbdhigllelmcaaGreat
namespace Go.Proofs.YtcbdhigllelmcaaGreat
open Go.RowKit

section
variable {E : Env} {nt : Nat} {R : Exit → AS → Prop}
theorem AW.weaken {c : Code} {K : List KItem} {σ τ : AS} (hl : LeX E nt σ τ) (h : AW E nt R (.code c :: K) .normal τ) : AW E nt R (.code c :: K) .normal σ := ⟨fun cx hE hn => WP.weaken (hl cx hE hn) (h.out cx hE hn)⟩
end
end Go.Proofs.YtcbdhigllelmcaaGreat
namespace Go.Proofs.YtcbdhigllelmcaaGreat
open Go.RowKit

def Ent.frz (r sz : Nat) (xs : List AV) : Ent → Ent
  | .box ty cs => .box ty (AV.frzL r sz xs cs)
  | e => e
def AS.frzAll (σ : AS) (r sz : Nat) (xs : List AV) : AS := ⟨σ.tm.map fun p => (p.1, p.2.frz r sz xs), (r, .dead) :: σ.me.map fun p => (p.1, p.2.frz r sz xs)⟩
theorem lkV_map (g : AV → AV) (h : g .any = .any) (l : List (Nat × AV)) (t : Nat) : lkV (l.map fun p => (p.1, g p.2)) t = g (lkV l t) := by
  induction l with
  | nil => simp [lkV, h]
  | cons p l ih =>
    obtain ⟨u, x⟩ := p
    simp only [List.map_cons, lkV]
    cases Nat.beq u t <;> simp [ih]
theorem lkE_map (g : Ent → Ent) (l : List (Nat × Ent)) (t : Nat) : lkE (l.map fun p => (p.1, g p.2)) t = (lkE l t).map g := by
  induction l with
  | nil => simp [lkE]
  | cons p l ih =>
    obtain ⟨u, x⟩ := p
    simp only [List.map_cons, lkE]
    cases Nat.beq u t <;> simp [ih]
theorem LeX.frzAll {E : Env} {nt : Nat} {σ : AS} (r ty sz : Nat) (xs : List AV) (hr : σ.find r = some (.row ty sz xs)) : LeX E nt σ (σ.frzAll r sz xs) := fun cx hE hn a w ⟨γ, h⟩ => by
  have hme := h.me r
  rw [hr] at hme
  obtain ⟨d, hd, he⟩ := hme
  have hown : ∀ b, own (γ.set r none) b → own γ b ∧ ∀ s, γ r ≠ some (some (some b, s)) := fun b ⟨i, s, hi⟩ => by
    by_cases hir : i = r
    · subst hir; rw [Gam.set_self] at hi; cases hi
    · rw [Gam.set_ne _ _ _ hir] at hi
      exact ⟨⟨i, s, hi⟩, fun s' hs' => hir (h.inj _ _ _ _ _ hi hs')⟩
  have hS : ∀ b, Sg cx.S0 cx.w0.heap.size γ b → Sg cx.S0 cx.w0.heap.size (γ.set r none) b := fun b hb => hb.elim Or.inl (fun ⟨h1, h2⟩ => Or.inr ⟨h1, fun ho => h2 (hown b ho).1⟩)
  have hg : ∀ i x, γ i = some x → γ.set r none i = some x ∨ γ.set r none i = some none := fun i x hx => by
    by_cases hir : i = r
    · subst hir; exact Or.inr (Gam.set_self _ _ _)
    · exact Or.inl (by rw [Gam.set_ne _ _ _ hir]; exact hx)
  obtain ⟨s, hs, hrr⟩ := row_sl (S' := Sg cx.S0 cx.w0.heap.size (γ.set r none)) he (fun b hb _ => hS b hb) (fun s g hg => Or.inr ⟨(h.ge g ⟨r, s, by rw [hd, hg]⟩).1, fun ho => (hown g ho).2 s (by rw [hd, hg])⟩) (γ.set r none)
  have mv : ∀ {av v}, Rep w (Sg cx.S0 cx.w0.heap.size γ) γ av v → Rep w (Sg cx.S0 cx.w0.heap.size (γ.set r none)) (γ.set r none) (av.frz r sz xs) v := fun hv =>
    (hv.mono (Nat.le_refl _) (fun b hb _ => ⟨rfl, hS b hb⟩)).frz (fun i x hi hx => by rw [Gam.set_ne _ _ _ hi]; exact hx) hd (Gam.set_self _ _ _) (fun v hv => by rw [hv _ _ hs]; exact hrr)
  refine ⟨γ.set r none, fun u => ?_, fun i => ?_, fun i j b s s' hi hj => ?_, fun b hb => h.ge b (hown b hb).1, h.below, h.size, h.defers.gam (fun b hb => (hown b hb).1), h.gh, fun b hb => by obtain ⟨f2, f3, f4⟩ := h.fr b hb; exact ⟨fun ho => f2 (hown b ho).1, f3, f4⟩, h.dr⟩
  · have e : (σ.frzAll r sz xs).get u = (σ.get u).frz r sz xs := lkV_map _ rfl _ _
    rw [e]
    exact mv (h.tm u)
  · by_cases hi : r = i
    · subst hi
      have e : (σ.frzAll r sz xs).find r = some .dead := by simp [AS.frzAll, AS.find, lkE]
      rw [e]
      exact ⟨none, Gam.set_self _ _ _, rfl⟩
    · have e : (σ.frzAll r sz xs).find i = (σ.find i).map (Ent.frz r sz xs) := by
        unfold AS.frzAll AS.find
        simp only [lkE]
        cases hb : Nat.beq r i with
        | true => exact absurd (Nat.eq_of_beq_eq_true hb) hi
        | false => exact lkE_map _ _ _
      rw [e, Gam.set_ne _ _ _ (Ne.symm hi)]
      have := h.me i
      cases hf : σ.find i with
      | none => rw [hf] at this; exact this
      | some en =>
        rw [hf] at this
        obtain ⟨x, hx, he⟩ := this
        cases en with
        | box ty cs =>
          obtain ⟨g, vs, h1, h2, h3, h4, h5⟩ := he
          exact ⟨x, hx, g, vs, h1, h2, by rw [h3, AV.frzL_length], fun i hi => by
            have hi2 := hi
            rw [AV.frzL_length] at hi2
            rw [AV.frzL_at r sz xs _ i hi2]
            exact mv (h4 i hi2), h5⟩
        | _ => exact ⟨x, hx, he.move (Nat.le_refl _) (fun b hb _ => ⟨rfl, hS b hb⟩) hg (fun _ _ _ => rfl)⟩
  · have hir : i ≠ r := fun e => by subst e; rw [Gam.set_self] at hi; cases hi
    have hjr : j ≠ r := fun e => by subst e; rw [Gam.set_self] at hj; cases hj
    rw [Gam.set_ne _ _ _ hir] at hi
    rw [Gam.set_ne _ _ _ hjr] at hj
    exact h.inj _ _ _ _ _ hi hj

def closeT0 (σ : AS) (i : Nat) : AV → AV
  | .row j => match Nat.beq j i with
    | true => .row j
    | false => match σ.find j with | some (.row _ sz xs) => .sl sz xs | _ => .any
  | x => match x.closed with | true => x | false => .any
def closeT1 (σ : AS) (i : Nat) : AV → AV
  | .agg cs => .agg (cs.map (closeT0 σ i))
  | x => closeT0 σ i x
def closeT (σ : AS) (i : Nat) : AV → AV
  | .tup cs => .tup (cs.map (closeT1 σ i))
  | x => closeT1 σ i x
section
variable {cx : Cx} {σ : AS} {γ γ' : Gam} {a : Act} {w : World} {S' : Nat → Prop} {i : Nat} {x : Option (Option Nat × Value)}
theorem closeT0_rep (hst : StG cx γ σ a w) (hi : γ i = some x) (hi' : γ' i = some x) (hS : ∀ b, Sg cx.S0 cx.w0.heap.size γ b → S' b) (ho : ∀ j b s, j ≠ i → γ j = some (some (some b, s)) → S' b) {av : AV} {v : Value} (h : Rep w (Sg cx.S0 cx.w0.heap.size γ) γ av v) : Rep w S' γ' (closeT0 σ i av) v := by
  have cl : ∀ av v, Rep w (Sg cx.S0 cx.w0.heap.size γ) γ av v → Rep w S' γ' (match av.closed with | true => av | false => .any) v := fun av v h => by
    cases hc : av.closed with
    | true => exact (h.close hc).mono (Nat.le_refl _) (fun b hb _ => ⟨rfl, hS b hb⟩)
    | false => exact .any _
  cases av with
  | row j =>
    simp only [closeT0]
    cases hb : Nat.beq j i with
    | true =>
      have := Nat.eq_of_beq_eq_true hb
      subst this
      cases h with
      | row h hv => rw [hi] at h; injection h with h; subst h; exact .row hi' hv
    | false =>
      have hji := Nat.ne_of_beq_eq_false hb
      simp only
      have hme := hst.me j
      cases hf : σ.find j with
      | none => exact .any _
      | some e =>
        cases e with
        | row ty sz xs =>
          rw [hf] at hme
          obtain ⟨d, hd, he⟩ := hme
          obtain ⟨s, hs, hrr⟩ := row_sl (S' := S') he (fun b hb _ => hS b hb) (fun s g hg => ho j g s hji (by rw [hd, hg])) γ'
          subst hs
          rw [h.row_inv hd]
          exact hrr
        | _ => exact .any _
  | _ => exact cl _ _ h
theorem closeT1_rep (hst : StG cx γ σ a w) (hi : γ i = some x) (hi' : γ' i = some x) (hS : ∀ b, Sg cx.S0 cx.w0.heap.size γ b → S' b) (ho : ∀ j b s, j ≠ i → γ j = some (some (some b, s)) → S' b) {av : AV} {v : Value} (h : Rep w (Sg cx.S0 cx.w0.heap.size γ) γ av v) : Rep w S' γ' (closeT1 σ i av) v := by
  cases av with
  | agg cs =>
    obtain ⟨vs, rfl, hl, hr, h1⟩ := h.agg_inv
    simp only [closeT1]
    refine .agg vs (by simpa using hl) (fun k hk => ?_) h1
    have hk' : k < cs.length := by simpa using hk
    simp only [List.getElem_map]
    exact closeT0_rep hst hi hi' hS ho (hr k hk')
  | _ => exact closeT0_rep hst hi hi' hS ho h
theorem closeT_rep (hst : StG cx γ σ a w) (hi : γ i = some x) (hi' : γ' i = some x) (hS : ∀ b, Sg cx.S0 cx.w0.heap.size γ b → S' b) (ho : ∀ j b s, j ≠ i → γ j = some (some (some b, s)) → S' b) {av : AV} {v : Value} (h : Rep w (Sg cx.S0 cx.w0.heap.size γ) γ av v) : Rep w S' γ' (closeT σ i av) v := by
  cases av with
  | tup cs =>
    obtain ⟨vs, rfl, hl, hr⟩ := h.tup_inv
    simp only [closeT]
    refine .tup vs (by simpa using hl) (fun k hk => ?_)
    have hk' : k < cs.length := by simpa using hk
    simp only [List.getElem_map]
    exact closeT1_rep hst hi hi' hS ho (hr k hk')
  | _ => exact closeT1_rep hst hi hi' hS ho h
end
inductive TX (E : Env) (nt : Nat) (fn : Func) (σ : AS) (ty sz : Nat) (xs : List AV) (res : AV) : Prop
  | mk (τ : AS) (i : Nat) (hl : LeX E nt σ τ) (avs : List AV) (h1 : retA E.tab τ fn.results.toList = some avs) (h2 : τ.find i = some (.row ty sz xs)) (h3 : Sub (closeT τ i (packA avs)) (res.ren fun _ => i))
def EndT (E : Env) (nt : Nat) (fn : Func) (ty sz : Nat) (xs : List AV) (res : AV) : Exit → AS → Prop
  | .normal, σ => TX E nt fn σ ty sz xs res
  | .ret, σ => TX E nt fn σ ty sz xs res
  | _, _ => False
theorem ConT.walk {E : Env} {f : FuncId} {fn : Func} {args xs : List AV} {ty sz : Nat} {res : AV} (c : Code) (hf : E.P.funcs[f]? = some fn) (hb : fn.body = some c) (he : Enters E f) (hn : Nat.ble args.length fn.ntmps = true) (hres : res.inM [0] = true)
    (h : AW E fn.ntmps (EndT E fn.ntmps fn ty sz xs res) [.code c] .normal (start args)) (hrg : E.rg = false := by rfl) (hyl : E.yl = none := by rfl) (hnp : E.np = 0 := by rfl) : ConT E f args ty sz xs res := by
  refine ⟨he, hres, fun S w vs ha => callsIn_wide.1 (callsIn_of_wp (F := Fence.wide) (n := 0) hf hb trivial ?_)⟩
  have h0 : WP (Cx.call E S w fn.ntmps) c (EndT E fn.ntmps fn ty sz xs res) (start args) := WP.mono (h.out (Cx.call E S w fn.ntmps) rfl rfl) fun e σ hk => by cases e <;> exact hk
  refine wpIn_mono (h0 _ _ (start_st hyl hnp ha (Nat.le_of_ble_eq_true hn))) (fun e a w' ⟨σ, hq, hst0⟩ => ?_)
  have key : TX E fn.ntmps fn σ ty sz xs res → bodyPost E.P fn (fun e w' => ∃ u v us, e = .returned u ∧ Below w.heap.size w w' ∧ w'.ownsRow w.heap.size ty sz v xs.length us ∧
    (∀ k (hk : k < xs.length), (xs[k]).cells.length = sz) ∧ (∀ k (hk : k < xs.length) j (hj : j < (xs[k]).cells.length), Rep w' (fun b => (S b ∨ w.heap.size ≤ b) ∧ v.ownBlock ≠ some b) G0 ((xs[k]).cells[j]) (us.getD (k * sz + j) undef)) ∧ (∀ u ∈ us, u.oneCell' = true) ∧
    ∀ γ' : Gam, γ' 0 = some (some (v.ownBlock, v)) → Rep w' (fun b => (S b ∨ w.heap.size ≤ b) ∧ v.ownBlock ≠ some b) γ' res u) .ret a w' := by
    rintro ⟨τ, i, hl, avs, h1, h2, h3⟩
    obtain ⟨γ, hst⟩ := hl (Cx.call E S w fn.ntmps) rfl rfl a w' hst0
    obtain ⟨u, hu, hr⟩ := results_run hst h1
    have hme := hst.me i
    rw [h2] at hme
    obtain ⟨d, hd, s, us, hde, hone, hown, hlen, hrr, hone2⟩ := hme
    subst hde
    have hS : ∀ b, Sg (fun b => S b ∧ b < w.heap.size) w.heap.size γ b → (S b ∨ w.heap.size ≤ b) ∧ s.ownBlock ≠ some b := fun b hb => by
      refine ⟨?_, fun e => ?_⟩
      · rcases hb with ⟨hb, _⟩ | ⟨hb, _⟩
        · exact Or.inl hb.1
        · exact Or.inr hb.1
      · have ho : own γ b := ⟨i, s, by rw [hd, e]⟩
        rcases hb with ⟨_, hb⟩ | ⟨_, hb⟩
        · have := (hst.ge b ho).1.1; exact absurd hb (by show ¬ b < w.heap.size; exact Nat.not_lt.2 this)
        · exact hb ho
    refine ⟨hst.defers.d0 hrg, u, hu, u, s, us, rfl, hst.below, hown, hlen, fun k hk j hj => (hrr k hk j hj).mono (Nat.le_refl _) (fun b hb _ => ⟨rfl, hS b hb⟩), hone2, fun γ' hγ' => ?_⟩
    have hc := closeT_rep (S' := fun b => (S b ∨ w.heap.size ≤ b) ∧ s.ownBlock ≠ some b) (γ' := fun j => if j = i then γ i else none) hst hd (by simp [hd]) hS (fun j b s' hj hb => ⟨Or.inr (hst.ge b ⟨j, s', hb⟩).1.1, fun e => hj (hst.inj _ _ _ _ _ hb (by rw [hd, e]))⟩) hr
    exact (hc.sub h3).ren (ids := [0]) (ρ := fun _ => i) (fun id hid => by
      have : id = 0 := by simpa using hid
      subst this
      rw [hγ']
      simp [hd]) res rfl hres
  cases e with
  | normal => exact key hq
  | ret => exact key hq
  | _ => exact hq.elim
end Go.Proofs.YtcbdhigllelmcaaGreat
namespace Go.Proofs.YtcbdhigllelmcaaGreat
open Go.RowKit

section
variable {α β γ δ : Type}
def cnd (b : Bool) (x y : Option β) : Option β := match b with | true => x | false => y
def idx (l : List α) (n : Int) (k : α → Option β) : Option β := if 0 ≤ n then (match l[n.toNat]? with | some x => k x | none => none) else none
def nat (n : Int) (len : Nat) (k : Nat → Option β) : Option β := if 0 ≤ n ∧ n.toNat < len then k n.toNat else none
def ltx (m len : Nat) (x : Option β) : Option β := if m < len then x else none
def elt (l : List α) (m : Nat) (k : α → Option β) : Option β := match l[m]? with | some x => k x | none => none
def slc (len : Nat) (lo hi : Int) (k : Nat → Nat → Option β) : Option β := if 0 ≤ lo ∧ lo ≤ hi ∧ hi ≤ (len : Int) then k lo.toNat hi.toNat else none
def sls (l : List α) (lo hi : Int) (k : List α → Option β) : Option β := if 0 ≤ lo ∧ lo ≤ hi ∧ hi ≤ (l.length : Int) then k ((l.take hi.toNat).drop lo.toNat) else none
def app (l m : List α) (bytes : Nat) (k : List α → Option β) : Option β := if l.length + m.length ≤ 1099511627776 ∧ (l.length + m.length) * bytes ≤ 140737488355328 then k (l ++ m) else none
def mak (n : Int) (bytes : Nat) (z : α) (k : List α → Option β) : Option β := if 0 ≤ n ∧ n.toNat ≤ 1099511627776 ∧ bytes * n.toNat ≤ 281474976710656 then k (List.replicate n.toNat z) else none
def stx (l : List α) (m : Nat) (f : α → α) (k : List α → Option β) : Option β := match l[m]? with | some x => k (l.set m (f x)) | none => none
def mlk {κ ν : Type} [DecidableEq κ] : List (κ × ν) → κ → Option ν
  | [], _ => none
  | (a, v) :: r, k => if k = a then some v else mlk r k
def mput {κ ν : Type} [DecidableEq κ] : List (κ × ν) → κ → ν → List (κ × ν)
  | [], k, v => [(k, v)]
  | (a, x) :: r, k, v => if k = a then (k, v) :: r else (a, x) :: mput r k v
def mgt {κ ν : Type} [DecidableEq κ] (l : List (κ × ν)) (k : κ) (z : ν) (c : ν → Bool → Option β) : Option β := c ((mlk l k).getD z) (mlk l k).isSome
def mst {κ ν : Type} [DecidableEq κ] (l : List (κ × ν)) (k : κ) (v : ν) (c : List (κ × ν) → Option β) : Option β := c (mput l k v)
def nzx (b : Int) (x : Option β) : Option β := if b = 0 then none else x
def psx (b : Int) (x : Option β) : Option β := if 0 < b then x else none
def shx (b : Int) (x : Option β) : Option β := if 0 ≤ b then x else none
def bnd (o : Option α) (k : α → Option β) : Option β := match o with | some a => k a | none => none
def bndC (o : Option α) (k : α → Option β) : Option β := match o with | some a => k a | none => none
def bndR (o : Option α) (k : α → Option β) : Option β := match o with | some a => k a | none => none
def frz (id : Nat) (x : Option β) : Option β := x
def reg (x : Option β) : Option β := x
theorem CondX.o {b : Bool} {p q : Prop} {x y : Option β} {r : β} (h : cnd b x y = some r) (h1 : x = some r → p) (h2 : y = some r → q) : CondX b p q := ⟨fun e => h1 (by subst e; exact h), fun e => h2 (by subst e; exact h)⟩
theorem IdxX.o {l : List α} (enc : α → AV) {n : Int} {K : AV → Prop} {k : α → Option β} {r : β} (h : idx l n k = some r) (hk : ∀ x, k x = some r → K (enc x)) : IdxX (l.map enc) n K := by
  unfold idx at h
  split at h
  · rename_i hn
    split at h
    · rename_i x hx
      exact .mk n.toNat (enc x) (by omega) (by rw [List.getElem?_map, hx]; rfl) (hk x h)
    · cases h
  · cases h
theorem IdxX.o2 {u v : AV} {n : Int} {K : AV → Prop} {x y : Option β} {r : β} (h : cnd (decide (n = 0)) x (cnd (decide (n = 1)) y none) = some r) (h0 : x = some r → K u) (h1 : y = some r → K v) : IdxX [u, v] n K := by
  unfold cnd at h
  split at h
  · rename_i e; exact .mk 0 u (of_decide_eq_true e) rfl (h0 h)
  · split at h
    · rename_i e; exact .mk 1 v (of_decide_eq_true e) rfl (h1 h)
    · cases h
theorem bytes_dec (a b : ByteArray) : (a.toList == b.toList) = decide (a = b) := by
  rw [← bytes_eqb, Bool.eq_iff_iff, MapKept.bytes_beq]; simp
theorem NatX.o {n : Int} {len : Nat} {K : Nat → Prop} {k : Nat → Option β} {r : β} (h : nat n len k = some r) (hk : ∀ m, k m = some r → K m) : NatX n len K := by
  unfold nat at h
  split at h
  · rename_i hn
    exact .mk n.toNat (by omega) hn.2 (hk _ h)
  · cases h
theorem NatX.o2 {n : Int} {K : Nat → Prop} {x y : Option β} {r : β} (h : cnd (decide (n = 0)) x (cnd (decide (n = 1)) y none) = some r) (h0 : x = some r → K 0) (h1 : y = some r → K 1) : NatX n 2 K := by
  unfold cnd at h
  split at h
  · rename_i e; exact .mk 0 (of_decide_eq_true e) (by omega) (h0 h)
  · split at h
    · rename_i e; exact .mk 1 (of_decide_eq_true e) (by omega) (h1 h)
    · cases h
theorem NatX.o3 {n : Int} {K : Nat → Prop} {x y z : Option β} {r : β} (h : cnd (decide (n = 0)) x (cnd (decide (n = 1)) y (cnd (decide (n = 2)) z none)) = some r) (h0 : x = some r → K 0) (h1 : y = some r → K 1) (h2 : z = some r → K 2) : NatX n 3 K := by
  unfold cnd at h
  split at h
  · rename_i e; exact .mk 0 (of_decide_eq_true e) (by omega) (h0 h)
  · split at h
    · rename_i e; exact .mk 1 (of_decide_eq_true e) (by omega) (h1 h)
    · split at h
      · rename_i e; exact .mk 2 (of_decide_eq_true e) (by omega) (h2 h)
      · cases h
theorem LtX.o {m len : Nat} {K : Prop} {x : Option β} {r : β} (h : ltx m len x = some r) (hk : x = some r → K) : LtX m len K := by
  unfold ltx at h
  split at h
  · rename_i hm; exact .mk hm (hk h)
  · cases h
theorem EltX.o {l : List α} (enc : α → AV) {m : Nat} {K : AV → Prop} {k : α → Option β} {r : β} (h : elt l m k = some r) (hk : ∀ x, k x = some r → K (enc x)) : EltX (l.map enc) m K := by
  unfold elt at h
  split at h
  · rename_i x hx; exact .mk (enc x) (by rw [List.getElem?_map, hx]; rfl) (hk x h)
  · cases h
theorem SlcX.o {len : Nat} {lo hi : Int} {K : Nat → Nat → Prop} {k : Nat → Nat → Option β} {r : β} (h : slc len lo hi k = some r) (hk : ∀ l h, k l h = some r → K l h) : SlcX len lo hi K := by
  unfold slc at h
  split at h
  · rename_i hn; exact .mk lo.toNat hi.toNat (by omega) (by omega) (by omega) (by omega) (hk _ _ h)
  · cases h
theorem SlsX.o {l : List α} (enc : α → AV) {lo hi : Int} {K : List AV → Prop} {k : List α → Option β} {r : β} (h : sls l lo hi k = some r) (hk : ∀ l', k l' = some r → K (l'.map enc)) : SlsX (l.map enc) lo hi K := by
  unfold sls at h
  split at h
  · rename_i hn; exact .mk lo.toNat hi.toNat (by omega) (by omega) (by omega) (by rw [List.length_map]; omega) _ (by rw [List.map_drop, List.map_take]) (hk _ h)
  · cases h
theorem AppX.o {l m : List α} (enc : α → AV) {ys : List AV} {bytes : Nat} {K : List AV → Prop} {k : List α → Option β} {r : β} (h : app l m bytes k = some r) (hs : SubR ys (m.map enc)) (hk : ∀ l', k l' = some r → K (l'.map enc)) : AppX ((l.map enc).length + ys.length) bytes (l.map enc ++ ys) K := by
  have hl := hs.len
  unfold app at h
  split at h
  · rename_i hn
    exact .sub ((l ++ m).map enc) (by rw [List.map_append]; exact .append (.refl _) hs) (by rw [List.length_map, hl, List.length_map]; exact hn.1) (by rw [List.length_map, hl, List.length_map]; exact hn.2) (hk _ h)
  · cases h
theorem AppX.o0 {m : List α} (enc : α → AV) {ys : List AV} {bytes : Nat} {K : List AV → Prop} {k : List α → Option β} {r : β} (h : app [] m bytes k = some r) (hs : SubR ys (m.map enc)) (hk : ∀ l', k l' = some r → K (l'.map enc)) : AppX ys.length bytes ys K := by
  have hl := hs.len
  unfold app at h
  split at h
  · rename_i hn; exact .sub (m.map enc) hs (by rw [hl, List.length_map]; simpa using hn.1) (by rw [hl, List.length_map]; simpa using hn.2) (hk _ h)
  · cases h
theorem MakX.o {z : α} (enc : α → AV) {n : Int} {bytes : Nat} {y : AV} {K : List AV → Prop} {k : List α → Option β} {r : β} (h : mak n bytes z k = some r) (hs : SubL y.cells (enc z).cells) (hk : ∀ l', k l' = some r → K (l'.map enc)) : MakX n bytes y K := by
  unfold mak at h
  split at h
  · rename_i hn; exact .mk n.toNat (by omega) hn.2.1 hn.2.2 _ (by rw [List.map_replicate]; exact .replicate hs _) (hk _ h)
  · cases h
theorem SetX.o {l : List α} (enc : α → AV) {f : α → α} {m j n : Nat} {av : AV} {ok : AV → Bool} {put : AV → AV} {K : List AV → Prop} {k : List α → Option β} {r : β} (h : stx l m f k = some r) (hok : ∀ x, ok (enc x) = true) (hput : ∀ x, SubL (put (enc x)).cells (enc (f x)).cells) (hk : ∀ l', k l' = some r → K (l'.map enc)) : SetX (l.map enc) m j n av ok put K := by
  unfold stx at h
  split at h
  · rename_i x hx; exact .mk (enc x) (by rw [List.getElem?_map, hx]; rfl) (hok x) _ (by rw [List.map_set]; exact .set (hput x) _ _) (hk _ h)
  · cases h
theorem ShX.o {b : Int} {K : Prop} {x : Option β} {r : β} (h : shx b x = some r) (hk : x = some r → K) : ShX b K := by
  unfold shx at h
  split at h
  · rename_i hb; exact .mk hb (hk h)
  · cases h
def encM {κ ν : Type} (encK : κ → AV) (encV : ν → AV) (p : κ × ν) : AV × AV := (encK p.1, encV p.2)
theorem findK_enc {κ ν : Type} [DecidableEq κ] (encK : κ → AV) (encV : ν → AV) (he : ∀ a b, eqK (encK a) (encK b) = some (decide (a = b))) (k : κ) : ∀ (l : List (κ × ν)) (i : Nat),
    ∃ r, findK (encK k) ((l.map (encM encK encV)).map (·.1)) i = some r ∧ r.isSome = (mlk l k).isSome ∧ (∀ j, r = some j → i ≤ j ∧ ∃ v, mlk l k = some v ∧ ((l.map (encM encK encV)).getD (j - i) default).2 = encV v) ∧
      ∀ (v : ν) (x : AV), Sub x (encV v) → SubM (putK (r.map (· - i)) (encK k) x (l.map (encM encK encV))) ((mput l k v).map (encM encK encV))
  | [], i => ⟨none, rfl, rfl, fun j h => (by cases h), fun v x hs => .cons _ hs .nil⟩
  | (a, v) :: r, i => by
    simp only [List.map_cons, encM, findK, he, mlk, mput]
    by_cases hk : k = a
    · subst hk
      simp only [decide_true]
      refine ⟨some i, rfl, by simp, fun j hj => ?_, fun v' x hs => ?_⟩
      · injection hj with hj; subst hj; exact ⟨Nat.le_refl _, v, by simp, by simp⟩
      · simp only [if_true, Option.map_some, Nat.sub_self, putK, List.set_cons_zero, List.map_cons]
        exact .cons _ hs (.refl _)
    · rw [decide_eq_false hk]
      obtain ⟨q, h1, h2, h3, h4⟩ := findK_enc encK encV he k r (i + 1)
      refine ⟨q, h1, by rw [h2, if_neg hk], fun j hj => ?_, fun v' x hs => ?_⟩
      · obtain ⟨g1, v', g2, g3⟩ := h3 j hj
        refine ⟨by omega, v', by rw [if_neg hk]; exact g2, ?_⟩
        rw [show j - i = (j - (i + 1)) + 1 by omega, List.getD_cons_succ]
        exact g3
      · have := h4 v' x hs
        rw [if_neg hk]
        cases q with
        | none => exact .cons _ (.refl _) this
        | some j =>
          obtain ⟨g1, _⟩ := h3 j rfl
          simp only [Option.map_some, putK] at this ⊢
          rw [show j - i = (j - (i + 1)) + 1 by omega, List.set_cons_succ]
          exact .cons _ (.refl _) this
theorem LkX.o {κ ν : Type} [DecidableEq κ] {l : List (κ × ν)} {k : κ} {z : ν} {P : Program} {kt : Nat} {zA : AV} {K : AV → Bool → Prop} {c : ν → Bool → Option β} {r : β} (encK : κ → AV) (encV : ν → AV) (h : mgt l k z c = some r) (hk : keyFl P kt (encK k) = true) (he : ∀ a b, eqK (encK a) (encK b) = some (decide (a = b))) (hz : Sub zA (encV z))
    (hc : ∀ v b, c v b = some r → K (encV v) b) : LkX P kt (encK k) (l.map (encM encK encV)) zA K := by
  obtain ⟨q, h1, h2, h3, _⟩ := findK_enc encK encV he k l 0
  refine .mk q (encV ((mlk l k).getD z)) (mlk l k).isSome hk h1 h2 ?_ (hc _ _ h)
  cases q with
  | none =>
    have : mlk l k = none := by cases hm : mlk l k with
      | none => rfl
      | some v => rw [hm] at h2; cases h2
    rw [this]
    exact hz
  | some j =>
    obtain ⟨_, v, g2, g3⟩ := h3 j rfl
    rw [g2, Option.getD_some, ← g3]
    exact .refl _
theorem UpX.o {κ ν : Type} [DecidableEq κ] {l : List (κ × ν)} {k : κ} {v : ν} {P : Program} {kt : Nat} {x : AV} {K : List (AV × AV) → Prop} {c : List (κ × ν) → Option β} {r : β} (encK : κ → AV) (encV : ν → AV) (h : mst l k v c = some r) (hk : keyFl P kt (encK k) = true) (he : ∀ a b, eqK (encK a) (encK b) = some (decide (a = b))) (hx : Sub x (encV v))
    (hc : ∀ l', c l' = some r → K (l'.map (encM encK encV))) : UpX P kt (encK k) x (l.map (encM encK encV)) K := by
  obtain ⟨q, h1, _, _, h4⟩ := findK_enc encK encV he k l 0
  refine .mk q _ hk h1 ?_ (hc _ h)
  have := h4 v x hx
  cases q with
  | none => exact this
  | some j => exact this
theorem PosX.o {b : Int} {K : Prop} {x : Option β} {r : β} (h : psx b x = some r) (hk : x = some r → K) : PosX b K := by
  unfold psx at h
  split at h
  · rename_i hb; exact .mk hb (hk h)
  · cases h
theorem NzX.o {b : Int} {K : Prop} {x : Option β} {r : β} (h : nzx b x = some r) (hk : x = some r → K) : NzX b K := by
  unfold nzx at h
  split at h
  · cases h
  · rename_i hb; exact .mk hb (hk h)
section
variable {E : Env} {nt : Nat} {f : FuncId} {avs : List AV}
theorem CallX.o {o : Option α} {k : α → Option β} {r : β} {fr : Bool} {K : AV → Prop} {R : Nat → Nat → List AV → AV → Prop} {find : Nat → Option Ent} {KR : AV → List Nat → List (Nat × Ent) → Prop} (h : bnd o k = some r) (enc : α → AV) (hc : ∀ a, o = some a → Con E fr f avs (enc a)) (hk : ∀ a, k a = some r → K (enc a)) : CallX E f avs K R find KR := by
  unfold bnd at h
  split at h
  · exact .mk fr _ (hc _ rfl) (hk _ h)
  · cases h
theorem CallX.oR {o : Option α} {k : α → Option β} {r : β} {K : AV → Prop} {R : Nat → Nat → List AV → AV → Prop} {find : Nat → Option Ent} {KR : AV → List Nat → List (Nat × Ent) → Prop} {ty sz : Nat} (h : bndR o k = some r) (rl : α → List γ) (encE : γ → AV) (res : α → AV) (hdr0 : E.dr = false) (hc : ∀ a, o = some a → ConT E f avs ty sz ((rl a).map encE) (res a)) (hk : ∀ a, k a = some r → R ty sz ((rl a).map encE) (res a)) : CallX E f avs K R find KR := by
  unfold bndR at h
  split at h
  · exact .rowT ty sz _ _ hdr0 (hc _ rfl) (hk _ h)
  · cases h
theorem CallC.o {o : Option α} {k : α → Option β} {r : β} {fr : Bool} {K : AV → Prop} {raw : List AV} {find : Nat → Option Ent} {dst : Option Nat} {KR : AV → List Nat → List (Nat × Ent) → Prop} (h : bnd o k = some r) (enc : α → AV) (hc : ∀ a, o = some a → Con E fr f avs (enc a)) (hf : ∀ a, fr = true ∨ (enc a).flat = true) (hk : ∀ a, k a = some r → K (enc a)) : CallC E f avs K raw find dst KR := by
  unfold bnd at h
  split at h
  · exact .mk fr _ (hc _ rfl) (hf _) (hk _ h)
  · cases h
theorem CallC.oC {o : Option α} {k : α → Option β} {r : β} {K : AV → Prop} {raw : List AV} {find : Nat → Option Ent} {dst : Option Nat} {KR : AV → List Nat → List (Nat × Ent) → Prop} {d ty sz ty' sz' : Nat} {xs cargs : List AV} (h : bndC o k = some r) (id : Nat) (rl : α → List γ) (encE : γ → AV) (res : α → AV) (hdr0 : E.dr = false) (hc : ∀ a, o = some a → ConC false E f cargs ty sz xs ty' sz' ((rl a).map encE) (res a))
    (hr : AV.renL (fun _ => id) cargs = raw) (hin : AV.inML [0] cargs = true) (hl : find id = some (.row ty sz xs)) (hd : dst = some d) (hn : find d = none) (hne : Nat.beq id d = false) (hk : ∀ a, k a = some r → KR ((res a).ren fun _ => d) [d, id] [(d, .row ty' sz' ((rl a).map encE)), (id, .dead)]) : CallC E f avs K raw find dst KR := by
  unfold bndC at h
  split at h
  · exact .take id d ty sz xs ty' sz' _ _ cargs hdr0 (hc _ rfl) hr hin hl hd hn (Nat.ne_of_beq_eq_false hne) (hk _ h)
  · cases h
theorem LoopX.o {V : Type} {L : Nat → V → Option β} {S : V → AS} {σ : AS} {F : (AS → Prop) → AS → Prop} {r : β} {n : Nat} {v0 : V} (h : L n v0 = some r) (hz : ∀ v, L 0 v = none) (hl : LeX E nt σ (S v0)) (round : ∀ m v, L (m + 1) v = some r → F (fun σ' => ∃ v', L m v' = some r ∧ LeX E nt σ' (S v')) (S v))
    (mono : ∀ (P Q : AS → Prop) σ, (∀ σ, P σ → Q σ) → F P σ → F Q σ) : LoopX E nt F σ := by
  refine .mk (fun m σ => ∃ v, L m v = some r ∧ σ = S v) n (S v0) hl ⟨v0, h, rfl⟩ ?_
  rintro m σ ⟨v, hv, rfl⟩
  cases m with
  | zero => rw [hz] at hv; cases hv
  | succ m =>
    refine mono _ _ _ (fun σ' ⟨v', h1, h2⟩ => ?_) (round m v hv)
    exact ⟨m, S v', h2, Nat.lt_succ_self _, v', h1, rfl⟩
end
theorem RetX.o {v : AV} {a r : β} {enc : β → AV} (h : some a = some r) (hs : Sub v (enc a)) : RetX v (enc r) := by injection h with h; subst h; exact .sub hs
theorem TX.o {E : Env} {nt : Nat} {fn : Func} {σ : AS} {ty sz : Nat} {a r : β} {rl : β → List AV} {res : β → AV} (h : some a = some r) (hk : TX E nt fn σ ty sz (rl a) (res a)) : TX E nt fn σ ty sz (rl r) (res r) := by injection h with h; subst h; exact hk
end
section
variable {E : Env} {nt : Nat}
theorem AW.mono1 {c : Code} {K : Exit → AS → Prop} {P Q : AS → Prop} {σ : AS} (h : ∀ σ, P σ → Q σ) (k : AW E nt (thenA P K) [.code c] .normal σ) : AW E nt (thenA Q K) [.code c] .normal σ := ⟨fun cx hE hn => WP.mono (k.out cx hE hn) (fun e σ' hq => by cases e <;> first | exact h _ hq | exact hq)⟩
end
section
variable {β V : Type} {E : Env} {nt : Nat} {R : Exit → AS → Prop} {K : List KItem}
theorem LoopA.o {L : Nat → V → Option β} {S : V → AS} {σ : AS} {c : Code} {r : β} {n : Nat} {v0 : V} (h : L n v0 = some r) (hz : ∀ v, L 0 v = none) (hl : LeX E nt σ (S v0))
    (round : ∀ m v, L (m + 1) v = some r → AW E nt (thenA (fun σ' => ∃ v', L m v' = some r ∧ LeX E nt σ' (S v')) (AW E nt R K)) [.code c] .normal (S v)) : LoopX E nt (fun next σ' => AW E nt (thenA next (AW E nt R K)) [.code c] .normal σ') σ :=
  LoopX.o h hz hl round (fun P Q σ hpq hF => AW.mono1 hpq hF)
theorem AW.frzO {id ty sz : Nat} {xs : List AV} {c : Code} {σ : AS} {x : Option β} {y : β} (h : frz id x = some y) (r : Nat) (hr : σ.find r = some (.row ty sz xs)) (k : x = some y → AW E nt R (.code c :: K) .normal (σ.frzAll r sz xs)) : AW E nt R (.code c :: K) .normal σ := AW.weaken (LeX.frzAll r ty sz xs hr) (k h)
theorem AW.regO {id : Nat} {os : Array Oper} {d : Bool} {σ : AS} {x : Option β} {y : β} (h : reg x = some y) (k : x = some y → AW E nt R (.ops d os os.toList [] [] :: K) .normal σ) : AW E nt R (.code (.region id os d) :: K) .normal σ := AW.into (k h)
end
def AS.putS (σ : AS) (t : Nat) (v : AV) : AS := ⟨(t, v) :: σ.tm, σ.me⟩
theorem LeX.put {E : Env} {nt : Nat} {σ : AS} (t : Nat) (v : AV) (hs : Sub (σ.get t) v) : LeX E nt σ (σ.putS t v) := fun cx hE hn a w ⟨γ, h⟩ => by
  refine ⟨γ, fun u => ?_, fun i => h.me i, h.inj, h.ge, h.below, h.size, h.defers, h.gh, h.fr, h.dr⟩
  by_cases hu : t = u
  · subst hu
    have e : (σ.putS t v).get t = v := by simp [AS.putS, AS.get, lkV]
    rw [e]
    exact (h.tm t).sub hs
  · have e : (σ.putS t v).get u = σ.get u := by
      unfold AS.putS AS.get
      simp only [lkV]
      cases hb : Nat.beq t u with
      | true => exact absurd (Nat.eq_of_beq_eq_true hb) hu
      | false => rfl
    rw [e]
    exact h.tm u
attribute [irreducible] cnd idx nat ltx elt slc sls app mak stx nzx shx bnd bndC bndR frz reg mgt mst psx
end Go.Proofs.YtcbdhigllelmcaaGreat
namespace Go.Proofs.YtcbdhigllelmcaaGreat
open Go.RowKit

abbrev Cel (n : Nat) := { l : List Value // l.length = n ∧ ∀ u ∈ l, u.oneCell' = true }
def encC {n : Nat} (x : Cel n) : List Value := x.1
theorem eokC {P : Program} {T e sz eb : Nat} {i ie : TyI} (hT : TyOk P T i) (hs : i.shape = .slc e sz eb) (he : TyOk P e ie) (hz : 0 < sz) (hzs : ie.zero.cells.size = sz) : EOk P T e sz ie.bytes (encC (n := sz)) := by
  obtain ⟨hu, hce, _⟩ := und_slc hT hs
  obtain ⟨x, h1, h2, h3, h4⟩ := he.both
  exact ⟨hu, ⟨x, ie.zero, h1, h4, by rw [h2, ← he.cells, hce], h3, hzs⟩, hz, fun x => x.2.1, fun x => x.2.2⟩
def F_clone {α : Type} (n : Nat) (l : List α) : Option (List α) := if l.length ≤ 1000000000 then some l else none
theorem clone_gen {f : FuncId} {e sz : Nat} {P : Program} {E : Env} (hP : E.P = P) (hE : Enters E f) (any : ∀ (l : List (Cel sz)) (S : Nat → Prop) (v : Value) (w : World), Sl w S sz encC v l → l.length ≤ 1000000000 → Calls P f #[v] w (RetOwn e sz encC l w)) {α : Type} {enc : α → AV} {n : Nat} {a r : List α} (hF : F_clone n a = some r) :
    ConT E f [.sl sz (List.map enc a)] e sz (List.map enc r) (.row 0) := by
  unfold F_clone at hF
  split at hF
  · rename_i hl
    injection hF with hF
    subst hF
    refine .ofRow ⟨hE, fun S w vs ⟨hn, hr⟩ => ?_⟩
    have e1 := getD1 hn
    have h0 : Rep w S G0 (.sl sz (List.map enc a)) (vs.getD 0 undef) := hr 0 (by simp)
    rw [e1, hP]
    obtain ⟨A, c, hv, hc, hlen, cell, hb, hrr, h1⟩ := h0.sl_inv
    let l : List (Cel sz) := (List.range (List.map enc a).length).map fun k => ⟨(List.range sz).map fun j => cell k j, by simp, fun u hu => by
      obtain ⟨j, _, rfl⟩ := List.mem_map.1 hu
      exact h1 k j⟩
    have hll : l.length = (List.map enc a).length := by simp [l]
    have hlk : ∀ k (hk : k < l.length), (encC l[k]) = (List.range sz).map fun j => cell k j := fun k hk => by simp [l, encC]
    have hsl : Sl w S sz encC (vs.getD 0 undef) l := by
      refine ⟨A, c, by rw [hv, hll], by rw [hll]; exact hc, fun h0 => ?_⟩
      obtain ⟨b, off, hA, hS, hlt, hcell⟩ := hb (by rw [← hll]; exact h0)
      refine ⟨b, off, hA, hS, hlt, fun k hk j u hu => ?_⟩
      rw [hlk k hk] at hu
      have hj : j < sz := by have := (List.getElem?_eq_some_iff.1 hu).1; simpa using this
      rw [List.getElem?_map, List.getElem?_range hj] at hu
      simp only [Option.map_some, Option.some.injEq] at hu
      subst hu
      exact hcell k j (by rw [← hll]; exact hk) hj
    refine (any l S _ w hsl (by rw [hll, List.length_map]; exact hl)).mono fun ed w' ⟨A', c', q1, q2, q3⟩ => ?_
    refine ⟨_, l.flatMap encC, q1, q3, ?_, hlen, fun k hk j hj => ?_, fun u hu => ?_⟩
    · have : w'.ownsRow w.heap.size e sz (.slice A' l.length c') l.length (l.flatMap encC) := q2
      rw [hll] at this
      rw [hll]
      exact this
    · have hj' : j < sz := by rw [hlen k hk] at hj; exact hj
      have hk' : k < l.length := by rw [hll]; exact hk
      have hat := flatMap_at (enc := encC (n := sz)) (fun x _ => x.2.1) k hk' j hj' (cell k j) (by rw [hlk k hk', List.getElem?_map, List.getElem?_range hj']; rfl)
      rw [List.getD_eq_getElem?_getD, hat]
      refine (hrr k hk j hj).mono q3.size (fun b hb hlt => ⟨q3.block b hlt, Or.inl hb, fun e => ?_⟩)
      have h2 : w'.ownsRow w.heap.size _ sz (.slice A' l.length c') l.length (l.flatMap encC) := q2
      rcases h2.2 with ⟨h, _⟩ | ⟨g, cap, cur, h, hg, _⟩
      · rw [h] at e; simp [Value.ownBlock] at e
      · rw [h] at e; simp only [Value.ownBlock, Option.some.injEq] at e; subst e; omega
    · obtain ⟨x, _, hx⟩ := List.mem_flatMap.1 hu
      exact x.2.2 u hx
  · cases hF
theorem ConT.close {E : Env} {f : FuncId} {args xs : List AV} {ty sz : Nat} (h : ConT E f args ty sz xs (.row 0)) (hE : E.dr = false) : Con E false f args (.sl sz xs) :=
  ⟨h.1, fun S w vs ha => (h.2.2 S w vs ha).mono fun e w' ⟨u, v, us, h1, h2, h3, h4, h5, h6, h7⟩ => by
    have hr := h7 (fun _ => some (some (v.ownBlock, v))) rfl
    have huv : u = v := hr.row_inv rfl
    subst huv
    refine ⟨u, h1, ⟨h2, fun h => absurd (hE.symm.trans h) (by simp)⟩, ?_⟩
    have hrep : EntRep w' (fun b => (S b ∨ w.heap.size ≤ b) ∧ u.ownBlock ≠ some b) G0 w.heap.size (some (u.ownBlock, u)) (.row ty sz xs) := ⟨u, us, rfl, slice_one h3, h3, h4, h5, h6⟩
    obtain ⟨s, hs, hrr⟩ := row_sl (S' := fun b => (false = false ∧ S b) ∨ w.heap.size ≤ b) hrep (fun b hb _ => hb.1.elim (fun h => Or.inl ⟨rfl, h⟩) Or.inr) (fun s g hg => by
      injection hg with hg
      injection hg with hg _
      rcases h3.2 with ⟨h, _⟩ | ⟨g', cap, cur, h, hb, _⟩
      · rw [h] at hg; simp [Value.ownBlock] at hg
      · rw [h] at hg; simp only [Value.ownBlock, Option.some.injEq] at hg; subst hg; exact Or.inr hb) G0
    injection hs with hs
    injection hs with _ hs
    rw [hs]
    exact hrr⟩
theorem ConT.sub {E : Env} {f : FuncId} {avs bvs xs : List AV} {ty sz : Nat} {res : AV} (h : SubL avs bvs) (hc : ConT E f bvs ty sz xs res) : ConT E f avs ty sz xs res :=
  ⟨hc.1, hc.2.1, fun S w vs ⟨hl, hr⟩ => hc.2.2 S w vs ⟨by rw [hl, h.len], fun i hi => (hr i (by rw [h.len]; exact hi)).sub (h.at i _ hi)⟩⟩
def Xk (w : World) (g off : Nat) (X : List Value) : Prop := ∃ cur ty fr, w.heap[g]? = some (.cells cur ty fr) ∧ 0 < cur.size ∧ ∀ j u, X[j]? = some u → cur[off + j]? = some u
section
variable {w w' : World} {g off : Nat} {X : List Value}
theorem Xk.lt (h : Xk w g off X) : g < w.heap.size := by
  obtain ⟨cur, ty, fr, h, _⟩ := h
  exact (Array.getElem?_eq_some_iff.1 h).1
theorem Xk.cell (h : Xk w g off X) {j : Nat} {u : Value} (hu : X[j]? = some u) : w.cell? ⟨g, off + j, none⟩ = some u := by
  obtain ⟨cur, ty, fr, h, _, h2⟩ := h
  simp [World.cell?, h, h2 j u hu]
theorem Xk.grown {row : Option Nat} (h : Xk w g off X) (hb : w.grownBy w' row) (hg : some g ≠ row) : Xk w' g off X := by
  have hl := h.lt
  obtain ⟨cur, ty, fr, h, h2⟩ := h
  exact ⟨cur, ty, fr, (hb.block g hl hg).trans h, h2⟩
theorem Xk.alloc (h : Xk w g off X) (o : Obj) : Xk (w.alloc o) g off X := by
  have hl := h.lt
  obtain ⟨cur, ty, fr, h, h2⟩ := h
  exact ⟨cur, ty, fr, (Below.heap_alloc w o g hl).trans h, h2⟩
theorem Xk.shape (h : Xk w g off X) : ∃ t k, k ≠ 0 ∧ w.shape? g = some (t, k) := by
  obtain ⟨cur, ty, fr, h, h1, _⟩ := h
  exact ⟨ty, cur.size, by omega, by simp [World.shape?, h]⟩
theorem Sl.one_x {α : Type} {enc : α → List Value} {sz c : Nat} {x : α} (hc : 1 ≤ c) (h : Xk w g off (enc x)) : Sl w (fun _ => True) sz enc (.slice (some ⟨g, off, none⟩) 1 c) [x] :=
  ⟨_, c, rfl, hc, fun _ => ⟨g, off, rfl, trivial, h.lt, fun k hk j u hu => by
    have : k = 0 := by simpa using hk
    subst this
    simpa using h.cell (by simpa using hu)⟩⟩
end
theorem run_overlaps_b {P : Program} (w : World) (tS tR e : TypeId) (ht : P.underlying tS = some (.slice e)) (size : Nat) (hz : ∀ w, (Go.sizeOf e).run P w = .ok size w)
    (a b : Addr) (la ca lb cb : Nat) (hne : a.block ≠ b.block) (hsa : ∃ t k, k ≠ 0 ∧ w.shape? a.block = some (t, k)) (tB : TypeId) (kB : Nat) (hsb : w.shape? b.block = some (tB, kB)) (hkB : kB ≠ 0)
    (hfb : w.frozen? b = false) (hfe : w.frozen? { block := b.block, off := kB } = false) :
    (Extern.SlicesOverlaps.overlaps #[tS, tS] #[tR] #[.slice (some a) la ca, .slice (some b) lb cb]).run P w = .ok (.bool false) w := by
  have hnb : (a.block != b.block) = true := by simpa using hne
  have hnb' : (a.block == b.block) = false := by simpa using hne
  obtain ⟨tA, kA, hkA, hsa⟩ := hsa
  change Sem.run P (α := Value) (underlying tS >>= _) w = _
  by_cases h0 : la = 0 ∨ lb = 0 ∨ size = 0
  · simp [run_underlying ht, hz, h0]
  · cases kB with
    | zero => exact absurd rfl hkB
    | succ kB =>
      cases kA with
      | zero => exact absurd rfl hkA
      | succ kA =>
        cases hfa : w.frozen? a <;> cases hfa' : w.frozen? { block := a.block, off := kA + 1 } <;>
        simp [run_underlying ht, hz, h0, hnb, hnb', frozen, noView, viewAt, mayBeOne, stringish, shape, Sem.run, hsa, hsb, hfa, hfa', hfb, hfe]

def RetInsX {α : Type} (e : TypeId) (sz : Nat) (enc : α → List Value) (base : Nat) (v : Value) (l : List α) (w0 : World) (r : Ending) (w' : World) : Prop :=
  ∃ A c, r = .returned (.slice A l.length c) ∧ Own w' base e sz enc (.slice A l.length c) l ∧ w0.grownBy w' v.ownBlock ∧ ((Value.slice A l.length c).ownBlock = v.ownBlock ∨ (Value.slice A l.length c).ownBlock = some w0.heap.size)
def F_insert {α : Type} (n : Nat) (a : List α) (i : Int) (v : List α) : Option (List α) :=
  match v with
  | [x] => if 0 ≤ i ∧ i.toNat ≤ a.length ∧ a.length ≤ 1000000000 then some (a.take i.toNat ++ x :: a.drop i.toNat) else none
  | _ => none
theorem chunk_all {sz : Nat} (d : Value) (us : List Value) (n : Nat) (h : us.length = n * sz) : (List.range n).flatMap (fun k => (List.range sz).map fun j => us.getD (k * sz + j) d) = us := by
  induction n generalizing us with
  | zero => simp at h; subst h; rfl
  | succ n ih =>
    rw [List.range_succ_eq_map, List.flatMap_cons, List.flatMap_map]
    have h1 : (List.range sz).map (fun j => us.getD (0 * sz + j) d) = us.take sz := by
      apply List.ext_getElem
      · simp [h, Nat.succ_mul]
      · intro j h1 h2
        have hj : j < us.length := by simp at h2; omega
        simp [List.getElem?_eq_getElem hj]
    have h2 : (fun k => (List.range sz).map fun j => us.getD (k.succ * sz + j) d) = fun k => (List.range sz).map fun j => (us.drop sz).getD (k * sz + j) d := by
      funext k
      refine List.map_congr_left fun j _ => ?_
      rw [List.getD_eq_getElem?_getD, List.getD_eq_getElem?_getD, List.getElem?_drop, Nat.succ_mul, Nat.add_right_comm, Nat.add_comm (k * sz + j) sz]
    rw [h1, h2, ih (us.drop sz) (by rw [List.length_drop, h, Nat.succ_mul]; omega), List.take_append_drop]
theorem insert_gen {f : FuncId} {e sz : Nat} {P : Program} {E : Env} (hP : E.P = P) (hE : Enters E f) (hz : 0 < sz)
    (any : ∀ (l : List (Cel sz)) (x : Cel sz) (i base : Nat) (A : Option Addr) (c g off c1 : Nat) (w : World), Own w base e sz encC (.slice A l.length c) l → Xk w g off (encC x) → 1 ≤ c1 → (Value.slice A l.length c).ownBlock ≠ some g → i ≤ l.length → l.length ≤ 1000000000 → base ≤ w.heap.size →
      Calls P f #[.slice A l.length c, .int .i64 i, .slice (some ⟨g, off, none⟩) 1 c1] w (RetInsX e sz encC base (.slice A l.length c) (l.take i ++ x :: l.drop i) w)) {α : Type} {enc : α → AV} {n : Nat} {a v r : List α} {i : Int} (hF : F_insert n a i v = some r) :
    ConC false E f [.row 0, aI i, .sl sz (List.map enc v)] e sz (List.map enc a) e sz (List.map enc r) (.row 0) := by
  unfold F_insert at hF
  split at hF
  · rename_i x
    split at hF
    · rename_i hc
      obtain ⟨q0, rfl⟩ := Int.eq_ofNat_of_zero_le hc.1
      simp only [Int.toNat_natCast] at hc hF
      injection hF with hF
      subst hF
      refine ⟨hE, rfl, fun S w0 w vs v us hw0 hown hlen hre hone hvS hn hargs => ?_⟩
      have e3 : ∃ p q s, vs = #[p, q, s] := by
        obtain ⟨l⟩ := vs
        match l, hn with
        | [p, q, s], _ => exact ⟨p, q, s, rfl⟩
      obtain ⟨p, q, s, rfl⟩ := e3
      have ha := hargs (fun _ => some (some (v.ownBlock, v))) rfl
      have hp : Rep w S (fun _ => some (some (v.ownBlock, v))) (.row 0) p := ha 0 (by simp)
      have hq : Rep w S (fun _ => some (some (v.ownBlock, v))) (aI q0) q := ha 1 (by simp)
      have hs : Rep w S (fun _ => some (some (v.ownBlock, v))) (.sl sz [enc x]) s := ha 2 (by simp)
      have hpv : p = v := hp.row_inv rfl
      subst hpv
      rw [hq.int_inv]
      obtain ⟨A', c1, rfl, hc1, hxl, cell, hb, hrr, h1⟩ := hs.sl_inv
      obtain ⟨g, off, rfl, hSg, hgl, hcell⟩ := hb (by simp)
      have hxl0 : (enc x).cells.length = sz := hxl 0 (by simp)
      let X : Cel sz := ⟨(List.range sz).map (fun j => cell 0 j), by simp, fun u hu => by obtain ⟨j, _, rfl⟩ := List.mem_map.1 hu; exact h1 0 j⟩
      have hXg : ∀ j, j < sz → (encC X)[j]? = some (cell 0 j) := fun j hj => by simp [encC, X, hj]
      have hX : Xk w g off (encC X) := by
        have h0 := hcell 0 0 (by simp) hz
        simp only [Nat.zero_mul, Nat.add_zero] at h0
        have hobj : ∃ cur ty fr, w.heap[g]? = some (.cells cur ty fr) := by
          unfold World.cell? at h0
          split at h0
          · rename_i cur ty fr hh; exact ⟨cur, ty, fr, hh⟩
          · cases h0
        obtain ⟨cur, ty, fr, hh⟩ := hobj
        have hcc : ∀ j, j < sz → cur[off + j]? = some (cell 0 j) := fun j hj => by
          have := hcell 0 j (by simp) hj
          simpa [World.cell?, hh] using this
        refine ⟨cur, ty, fr, hh, ?_, fun j u hu => ?_⟩
        · have := (Array.getElem?_eq_some_iff.1 (hcc 0 hz)).1; omega
        · have hj : j < sz := by have := (List.getElem?_eq_some_iff.1 hu).1; simpa [encC, X] using this
          rw [hXg j hj] at hu
          rw [hcc j hj, hu]
      let l : List (Cel sz) := (List.range (List.map enc a).length).map fun k => ⟨(List.range sz).map fun j => us.getD (k * sz + j) (.bool true), by simp, fun u hu => by
        obtain ⟨j, _, rfl⟩ := List.mem_map.1 hu
        rw [List.getD_eq_getElem?_getD]
        cases hq : us[k * sz + j]? with
        | none => rfl
        | some u => exact hone u (List.mem_of_getElem? hq)⟩
      have hll : l.length = (List.map enc a).length := by simp [l]
      have hfl : l.flatMap encC = us := by
        have := chunk_all (sz := sz) (.bool true) us (List.map enc a).length hown.1
        rw [← this]
        simp [l, encC, List.flatMap_map]
      have ho : Own w w0.heap.size e sz encC p l := by
        show w.ownsRow _ e sz p l.length (l.flatMap encC)
        rw [hfl, hll]
        exact hown
      obtain ⟨A, c, hpe, hnc, _⟩ := ho.val
      subst hpe
      have hi : q0 ≤ l.length := by rw [hll, List.length_map]; exact hc.2.1
      rw [hP]
      refine (any l X q0 w0.heap.size A c g off c1 w ho hX (by simpa using hc1) (fun e => hvS g e hSg) hi (by rw [hll, List.length_map]; exact hc.2.2) hw0.size).mono ?_
      rintro ed w' ⟨A2, c2, rfl, ho2, hg2, hb2⟩
      have hrl : (List.take q0 l ++ X :: List.drop q0 l).length = (List.map enc (List.take q0 a ++ x :: List.drop q0 a)).length := by
        simp [hll]
      have hvb : ∀ b, (Value.slice A2 (List.take q0 l ++ X :: List.drop q0 l).length c2).ownBlock = some b → (Value.slice A l.length c).ownBlock = some b ∨ w.heap.size ≤ b := fun b hb => by
        rcases hb2 with h | h
        · exact Or.inl (h ▸ hb)
        · rw [h] at hb; injection hb with hb; exact Or.inr (by omega)
      have hown2 : w'.ownsRow w0.heap.size e sz (Value.slice A2 (List.take q0 l ++ X :: List.drop q0 l).length c2) (List.take q0 l ++ X :: List.drop q0 l).length ((List.take q0 l ++ X :: List.drop q0 l).flatMap encC) := ho2
      have hcl : ∀ y ∈ a, (enc y).cells.length = sz := fun y hy => by
        obtain ⟨k, hk, rfl⟩ := List.mem_iff_getElem.1 hy
        have := hlen k (by simpa using hk)
        simpa using this
      -- every element of the new row, with its cells
      have hel : ∀ k (hk : k < (List.take q0 l ++ X :: List.drop q0 l).length) (hk' : k < (List.take q0 a ++ x :: List.drop q0 a).length), ((List.take q0 l ++ X :: List.drop q0 l)[k] = X ∧ (List.take q0 a ++ x :: List.drop q0 a)[k] = x) ∨
          ∃ m, ∃ hm : m < l.length, ∃ hm' : m < a.length, (List.take q0 l ++ X :: List.drop q0 l)[k] = l[m] ∧ (List.take q0 a ++ x :: List.drop q0 a)[k] = a[m] := fun k hk hk' => by
        have hla : l.length = a.length := by rw [hll, List.length_map]
        by_cases h1 : k < q0
        · refine Or.inr ⟨k, by omega, by omega, ?_, ?_⟩
          · rw [List.getElem_append_left (by simp; omega)]; simp
          · rw [List.getElem_append_left (by simp; omega)]; simp
        · by_cases h2 : k = q0
          · refine Or.inl ⟨?_, ?_⟩
            · rw [List.getElem_append_right (by simp; omega)]
              simp only [List.length_take, show k - min q0 l.length = 0 by omega, List.getElem_cons_zero]
            · rw [List.getElem_append_right (by simp; omega)]
              simp only [List.length_take, show k - min q0 a.length = 0 by omega, List.getElem_cons_zero]
          · refine Or.inr ⟨k - 1, by simp at hk; omega, by simp at hk'; omega, ?_, ?_⟩
            · rw [List.getElem_append_right (by simp; omega)]
              simp only [List.length_take, show k - min q0 l.length = (k - 1 - q0) + 1 by omega, List.getElem_cons_succ, List.getElem_drop]
              congr 1
              omega
            · rw [List.getElem_append_right (by simp; omega)]
              simp only [List.length_take, show k - min q0 a.length = (k - 1 - q0) + 1 by omega, List.getElem_cons_succ, List.getElem_drop]
              congr 1
              omega
      refine ⟨_, _, (List.take q0 l ++ X :: List.drop q0 l).flatMap encC, rfl, hg2, by rw [← hrl]; exact hown2, fun h => (by cases h), hvb, fun k hk => ?_, fun k hk j hj => ?_, fun u hu => ?_, fun γ' hγ' => .row hγ' (fun g s e => by injection e with e; injection e with _ e)⟩
      · have hk' : k < (List.take q0 a ++ x :: List.drop q0 a).length := by simpa using hk
        rw [List.getElem_map]
        rcases hel k (by rw [hrl]; exact hk) hk' with ⟨_, h⟩ | ⟨m, hm, hm', _, h⟩
        · rw [h]; exact hxl0
        · rw [h]; exact hcl _ (List.getElem_mem hm')
      · have hk' : k < (List.take q0 a ++ x :: List.drop q0 a).length := by simpa using hk
        have hkl : k < (List.take q0 l ++ X :: List.drop q0 l).length := by rw [hrl]; exact hk
        have hS2 : ∀ b, S b → b < w.heap.size → w'.heap[b]? = w.heap[b]? ∧ ((S b ∨ w.heap.size ≤ b) ∧ (Value.slice A2 (List.take q0 l ++ X :: List.drop q0 l).length c2).ownBlock ≠ some b) := fun b hS hlt =>
          ⟨hg2.block b hlt (fun e => hvS b e.symm hS), Or.inl hS, fun e => by
            rcases hvb b e with h | h
            · exact hvS b h hS
            · omega⟩
        simp only [List.getElem_map] at hj ⊢
        rcases hel k hkl hk' with ⟨hX', hx'⟩ | ⟨m, hm, hm', hX', hx'⟩
        · simp only [hx'] at hj ⊢
          have hj' : j < sz := by omega
          have hat := flatMap_at (enc := encC (n := sz)) (fun y _ => y.2.1) k hkl j hj' (cell 0 j) (by rw [hX']; exact hXg j hj')
          rw [List.getD_eq_getElem?_getD, hat]
          have := hrr 0 (by simp) j hj
          exact Rep.mono this hg2.size hS2
        · simp only [hx'] at hj ⊢
          have hj' : j < sz := by rw [hcl _ (List.getElem_mem hm')] at hj; exact hj
          have hlm : (encC l[m])[j]? = some (us.getD (m * sz + j) undef) := by
            have hlt : m * sz + j < us.length := by
              rw [hown.1, ← hll]
              have : (m + 1) * sz ≤ l.length * sz := Nat.mul_le_mul_right _ hm
              rw [Nat.succ_mul] at this
              omega
            simp [l, encC, hj', List.getElem?_eq_getElem hlt]
          have hat := flatMap_at (enc := encC (n := sz)) (fun y _ => y.2.1) k hkl j hj' _ (by rw [hX']; exact hlm)
          rw [List.getD_eq_getElem?_getD, hat]
          have := hre m (by simpa using hm') j (by simpa using hj)
          simp only [List.getElem_map] at this
          exact Rep.mono this hg2.size hS2
      · obtain ⟨y, _, hy⟩ := List.mem_flatMap.1 hu
        exact y.2.2 u hy
    · cases hF
  · cases hF
end Go.Proofs.YtcbdhigllelmcaaGreat
namespace Go.Proofs.YtcbdhigllelmcaaGreat
open Go.RowKit

def fewT (t : Trk) : Bool := decide (t.beyond.length ≤ 300) && decide (t.points.length ≤ 300)
def wChecks : List Trk → Int
  | [] => 0
  | t :: r => if puCheck t ≠ 0 then puCheck t else wChecks r
def wCheck (l : List Trk) : Int := if 8 < l.length then 5 else wChecks l
theorem wChecks_drop (l : List Trk) (k : Nat) (h : k < l.length) : wChecks (l.drop k) = if puCheck l[k] ≠ 0 then puCheck l[k] else wChecks (l.drop (k + 1)) := by
  rw [drop_cons l k h]; rfl
theorem wChecks_zero (l : List Trk) : wChecks l = 0 ↔ ∀ t ∈ l, puCheck t = 0 := by
  induction l with
  | nil => simp [wChecks]
  | cons x r ih =>
    unfold wChecks
    by_cases h : puCheck x = 0
    · rw [if_neg (by simp [h]), ih]; simp [h]
    · rw [if_pos h]; simp [h]
theorem wCheck_zero (l : List Trk) : wCheck l = 0 ↔ l.length ≤ 8 ∧ ∀ t ∈ l, TOk t := by
  unfold wCheck
  split
  · constructor
    · intro h; simp at h
    · intro h; omega
  · rw [wChecks_zero]
    exact ⟨fun h => ⟨by omega, fun t ht => (puCheck_zero t).1 (h t ht)⟩, fun h t ht => (puCheck_zero t).2 (h.2 t ht)⟩
end Go.Proofs.YtcbdhigllelmcaaGreat
namespace Go.Proofs.YtcbdhigllelmcaaGreat
open Go.RowKit

instance : Inhabited Trk := ⟨⟨0, [], [], 0⟩⟩

def F_puCheck (n : Nat) (t : Trk) : Option Int := some (puCheck t)
def R_puCheck (r : Int) : AV := aI r
theorem con_puCheck {n : Nat} {t : Trk} {r : Int} (h : F_puCheck n t = some r) : Con E0 true 52 [aTrk t] (R_puCheck r) := by
  injection h with h; subst h; exact puCheck_con t
theorem con_rpuCheck {n : Nat} {t : Trk} {r : Int} (h : F_puCheck n t = some r) : Con E0 true 53 [aTrk t] (R_puCheck r) := by
  injection h with h; subst h; exact rpuCheck_con t
def F_puAllows (n : Nat) (t : Trk) (seq time : Int) : Option (Bool × Int) := if t.beyond.length ≤ 1000000000 ∧ t.points.length ≤ 1000000000 then some (allowsT t seq time) else none
def R_puAllows (r : Bool × Int) : AV := .tup [.bool r.1, aI r.2]
theorem con_puAllows {n : Nat} {t : Trk} {seq time : Int} {r : Bool × Int} (h : F_puAllows n t seq time = some r) : Con E0 true 122 [aTrk t, aI seq, aI time] (R_puAllows r) := by
  unfold F_puAllows at h
  split at h
  · rename_i hl; injection h with h; subst h; exact allows_con t seq time hl.1 hl.2
  · cases h
theorem con_rpuAllows {n : Nat} {t : Trk} {seq time : Int} {r : Bool × Int} (h : F_puAllows n t seq time = some r) : Con E0 true 85 [aTrk t, aI seq, aI time] (R_puAllows r) := by
  unfold F_puAllows at h
  split at h
  · rename_i hl
    injection h with h
    subst h
    rw [← allows_eq]
    exact Con.of3 (enters_of Tryz.func85 rfl rfl) fun S w x y z hx hy hz => by
      rw [hy.int_inv, hz.int_inv]
      exact (rallows_any t seq time S x w (rep_trk.1 hx) hl.1 hl.2).mono fun e w' ⟨h1, h2⟩ => ⟨_, h1, h2, rep_be _ _⟩
  · cases h
def F_puAdd (n : Nat) (t : Trk) (p : Pt) : Option (Trk × Int) := if t.beyond.length ≤ 1000000 ∧ t.points.length ≤ 1000000 then some (addT t p) else none
def R_puAdd (r : Trk × Int) : AV := .tup [aTrk r.1, aI r.2]
theorem con_puAdd {n : Nat} {t : Trk} {p : Pt} {r : Trk × Int} (h : F_puAdd n t p = some r) : Con E0 true 126 [aTrk t, aPt p] (R_puAdd r) := by
  unfold F_puAdd at h
  split at h
  · rename_i hl; injection h with h; subst h; exact add_con t p hl.1 hl.2
  · cases h
def F_rpuAdd (n : Nat) (t : Trk) (p : Pt) : Option (Trk × Int) := if t.points.length ≤ 1000000 then some (addR t p) else none
theorem con_rpuAdd {n : Nat} {t : Trk} {p : Pt} {r : Trk × Int} (h : F_rpuAdd n t p = some r) : Con E0 false 83 [aTrk t, aPt p] (R_puAdd r) := by
  unfold F_rpuAdd at h
  split at h
  · rename_i hl; injection h with h; subst h; exact radd_con t p hl
  · cases h
def F_puSettle (n : Nat) (t : Trk) : Option (Trk × Int) := if t.beyond.length ≤ 1000000000 ∧ t.points.length ≤ 1000000000 then some (settleT t) else none
theorem con_puSettle {n : Nat} {t : Trk} {r : Trk × Int} (h : F_puSettle n t = some r) : Con E0 true 124 [aTrk t] (R_puAdd r) := by
  unfold F_puSettle at h
  split at h
  · rename_i hl
    injection h with h
    subst h
    exact Con.of1 (enters_of Tryz.func124 rfl rfl) fun S w x hx => by
      refine (settle_any t S x w (rep_trk.1 hx) hl.1 hl.2).mono fun e w' ⟨A, c, A', c', h1, h2, h3, h4⟩ => ⟨_, h1, h4, ?_⟩
      have := rep_trk.2 (RetTE.trkV h2 h3)
      refine .tup _ rfl fun i hi => ?_
      have hi' : i < 2 := hi
      rcases i with _ | _ | i
      · exact this.mono (Nat.le_refl _) (fun b hb _ => ⟨rfl, Or.inr hb⟩)
      · exact .int _ _
      · omega
  · cases h
def F_trkSame (n : Nat) (t u : Trk) : Option Bool := if t.beyond.length ≤ 1000000000 ∧ t.points.length ≤ 1000000000 then some (decide (t = u)) else none
def R_trkSame (r : Bool) : AV := .bool r
theorem con_trkSame {n : Nat} {t u : Trk} {r : Bool} (h : F_trkSame n t u = some r) : Con E0 true 39 [aTrk t, aTrk u] (R_trkSame r) := by
  unfold F_trkSame at h
  split at h
  · rename_i hl; injection h with h; subst h; exact same_con t u hl.1 hl.2
  · cases h
end Go.Proofs.YtcbdhigllelmcaaGreat
