/- Chapter 36, plain: the law Commutes. Nothing: a name for the printed definitions. Layer 5, plain: placed events, equality, Few, Same, Check. Layer 5, plain: sorting, in the program and in the reference. Layer 5, plain: Find, Slice, Inversions. Layer 5, plain: Merge, Insert; the examples; the laws that compare with the reference. Chapter 37, plain: adding a message, releasing, and what holds all along a run. -/
import Derived.Test.YtimkhfaddnanhaaGreatK11
import Derived.Test.YtimkhfaddnanhaaGreatK10
import Derived.Test.YtimkhfaddnanhaaGreatK08
set_option linter.unusedVariables false
set_option linter.unusedSimpArgs false
namespace Go.Proofs.YtimkhfaddnanhaaGreat
open Go.RowKit

structure Hon (k : Nat) (H : T_api_Message → Prop) : Prop where
  ok : ∀ m, H m → msgCheck m = 0
  src : ∀ m, H m → srcOf m < (k : Int)
  fit : ∀ a b, H a → H b → srcOf a = srcOf b → a.fKind = 0 → b.fKind = 1 → ¬ (b.fSeq ≤ a.fEvent.fSeq ∧ a.fEvent.fTime ≤ b.fTime)
theorem honB_hon (k : Nat) (ms : List T_api_Message) (h : honB (k : Int) ms = true) : Hon k (· ∈ ms) := by
  unfold honB at h
  simp only [List.all_eq_true, Bool.and_eq_true, decide_eq_true_eq, Bool.not_eq_true', decide_eq_false_iff_not] at h
  refine ⟨fun m hm => (h m hm).1, fun m hm => by have := (h m hm).2.1; omega, fun a b ha hb hs h0 h1 hc => ?_⟩
  have := (h a ha).2.2 b hb
  unfold badB at this
  rw [if_neg (by simp [(h b hb).1]), if_neg (by simp [hs]), if_neg (by simp [h0]), if_neg (by omega), if_pos h1] at this
  simp [hc.1, hc.2] at this
def Evs (d : List T_api_Message) (i : Int) (x : Int) : Prop := ∃ m ∈ d, srcOf m = i ∧ evOf m x
def PtsM (d : List T_api_Message) (i : Int) (p : Pt) : Prop := ∃ m ∈ d, srcOf m = i ∧ ptOf m p
structure Got (k : Nat) (l : List Trk) (d : List T_api_Message) : Prop where
  len : l.length = k
  ok : ∀ t ∈ l, TOk t
  fwd : ∀ i (h : i < l.length), Fwd t0 l[i] (Evs d (i : Int)) (PtsM d (i : Int))
  bl : ∀ t ∈ l, t.beyond.length ≤ d.length
  pl : ∀ t ∈ l, t.points.length ≤ d.length
theorem note_fit (t : Trk) (m : T_api_Message) (ht : TOk t) (hm : msgCheck m = 0) (hb : t.beyond.length < 256) (hp : t.points.length < 256) (hf : m.fKind = 0 → ¬ Num t m.fEvent.fSeq → ¬ Forb t m.fEvent.fSeq m.fEvent.fTime) : (noteT t m).2.2 = 0 := by
  obtain ⟨k1, k2, k3, k4, k5⟩ := msg_ok m hm
  unfold noteT
  by_cases h1 : m.fKind = 1
  · rw [if_pos h1]
    exact add_fits t _ ht (k5 h1) hp
  · have hk : m.fKind = 0 := by omega
    obtain ⟨e1, e2, e3, e4⟩ := k4 hk
    rw [if_neg h1]
    by_cases hh : hasB t m.fEvent.fSeq = true
    · rw [if_pos hh]
    · rw [if_neg hh, if_pos ((forb_latest t _ _).2 (hf hk fun h => hh ((hasB_iff t _ e1).2 h)))]
      have := (withT_props t m.fEvent.fSeq ht.sq e1 e2 (by simpa using hh)).2.2.2.1
      rw [if_neg (by omega)]
theorem t0_num (x : Int) (h : 0 ≤ x) : ¬ Num t0 x := by
  unfold Num t0
  simp only [List.not_mem_nil, or_false]
  omega
theorem t0_forb (s τ : Int) (h : 0 ≤ τ) : ¬ Forb t0 s τ := by
  unfold Forb t0
  simp only [List.not_mem_nil, false_and, exists_false, or_false]
  omega
theorem got_step {k : Nat} {H : T_api_Message → Prop} (hH : Hon k H) (hk : k ≤ 8) {l : List Trk} {d : List T_api_Message} (hg : Got k l d) (hd : ∀ m ∈ d, H m) (m : T_api_Message) (hm : H m) (hlen : d.length < 200) :
    (stepT l m).2 = (decide (m.fKind = 0) && !(d.any fun m' => decide (m'.fKind = 0) && (decide (srcOf m' = srcOf m) && decide (m'.fEvent.fSeq = m.fEvent.fSeq))), 0) ∧ Got k (stepT l m).1 (d ++ [m]) := by
  have hc := hH.ok m hm
  obtain ⟨k1, k2, k3, k4, k5⟩ := msg_ok m hc
  have hs3 := hH.src m hm
  have hl := hg.len
  obtain ⟨i, hi⟩ : ∃ i : Nat, srcOf m = (i : Int) := ⟨(srcOf m).toNat, by omega⟩
  have hil : i < l.length := by omega
  have hti := hg.ok _ (List.getElem_mem hil)
  have hf := hg.fwd i hil
  have hb := hg.bl _ (List.getElem_mem hil)
  have hp := hg.pl _ (List.getElem_mem hil)
  have h0 : (noteT l[i] m).2.2 = 0 := note_fit l[i] m hti hc (by omega) (by omega) fun h0 hn hF => by
    obtain ⟨e1, e2, e3, e4⟩ := k4 h0
    have hnx : l[i].next ≤ m.fEvent.fSeq := Int.not_lt.1 fun h => hn (Or.inl h)
    rcases (hf.forb _ _ hnx).1 hF with h | ⟨p, ⟨b, hb, hbs, hbk, hbp⟩, h1, h2⟩
    · exact t0_forb _ _ e3 h
    · subst hbp
      exact hH.fit m b hm (hd b hb) (by omega) h0 hbk ⟨h1, h2⟩
  have hgD : l.getD i zeroT = l[i] := by simp [List.getElem?_eq_getElem hil]
  have e : stepT l m = (l.set i (noteT l[i] m).1, (noteT l[i] m).2.1, 0) := by
    unfold stepT
    rw [if_neg (by simpa using hc), if_neg (by omega), hi, Int.toNat_natCast, hgD, if_neg (by simpa using h0)]
  obtain ⟨f, fb, fp⟩ := note_fwd l[i] m hti hc h0
  have hnew : (noteT l[i] m).2.1 = (decide (m.fKind = 0) && !(d.any fun m' => decide (m'.fKind = 0) && (decide (srcOf m' = srcOf m) && decide (m'.fEvent.fSeq = m.fEvent.fSeq)))) := by
    rw [Bool.eq_iff_iff, note_new l[i] m hc h0]
    simp only [Bool.and_eq_true, decide_eq_true_eq, Bool.not_eq_true', List.any_eq_false, not_and]
    constructor
    · rintro ⟨h1, h2⟩
      refine ⟨h1, fun x hx h3 h4 h5 => h2 ((hf.num _).2 (Or.inr ⟨x, hx, by omega, h3, h5.symm⟩))⟩
    · rintro ⟨h1, h2⟩
      refine ⟨h1, fun h3 => ?_⟩
      rcases (hf.num _).1 h3 with h4 | ⟨x, hx, h4, h5, h6⟩
      · exact t0_num _ (k4 h1).1 h4
      · exact h2 x hx h5 (by omega) h6.symm
  rw [e]
  refine ⟨by rw [hnew], ⟨by simpa using hl, set_mem hg.ok (noteT_ok _ _ hti hc h0), fun j hj => ?_, ?_, ?_⟩⟩
  · have hj' : j < l.length := by simpa using hj
    have hfj := hg.fwd j hj'
    simp only
    by_cases hij : i = j
    · subst hij
      simp only [List.getElem_set_self]
      refine ⟨fun x => ?_, Int.le_trans hf.next f.next, Int.le_trans hf.mark f.mark, fun s τ hs => ?_⟩
      · rw [f.num x, hf.num x]
        unfold Evs
        constructor
        · rintro ((h | ⟨a, h1, h2⟩) | h)
          · exact Or.inl h
          · exact Or.inr ⟨a, by simp [h1], h2⟩
          · exact Or.inr ⟨m, by simp, hi, h⟩
        · rintro (h | ⟨a, h1, h2, h3⟩)
          · exact Or.inl (Or.inl h)
          · rcases List.mem_append.1 h1 with h1 | h1
            · exact Or.inl (Or.inr ⟨a, h1, h2, h3⟩)
            · rw [List.mem_singleton.1 h1] at h3; exact Or.inr h3
      · rw [f.forb s τ hs, hf.forb s τ (Int.le_trans f.next hs)]
        unfold PtsM
        constructor
        · rintro ((h | ⟨p, ⟨a, h1, h2⟩, h3⟩) | ⟨p, h1, h3⟩)
          · exact Or.inl h
          · exact Or.inr ⟨p, ⟨a, by simp [h1], h2⟩, h3⟩
          · exact Or.inr ⟨p, ⟨m, by simp, hi, h1⟩, h3⟩
        · rintro (h | ⟨p, ⟨a, h1, h2, h4⟩, h3⟩)
          · exact Or.inl (Or.inl h)
          · rcases List.mem_append.1 h1 with h1 | h1
            · exact Or.inl (Or.inr ⟨p, ⟨a, h1, h2, h4⟩, h3⟩)
            · rw [List.mem_singleton.1 h1] at h4; exact Or.inr ⟨p, h4, h3⟩
    · simp only [List.getElem_set_ne hij]
      have hmj : ∀ a, a ∈ d ++ [m] → srcOf a = (j : Int) → a ∈ d := fun a ha hs => by
        rcases List.mem_append.1 ha with h1 | h1
        · exact h1
        · rw [List.mem_singleton.1 h1] at hs; omega
      refine ⟨fun x => ?_, hfj.next, hfj.mark, fun s τ hs => ?_⟩
      · rw [hfj.num x]
        unfold Evs
        constructor
        · rintro (h | ⟨a, h1, h2⟩)
          · exact Or.inl h
          · exact Or.inr ⟨a, by simp [h1], h2⟩
        · rintro (h | ⟨a, h1, h2, h3⟩)
          · exact Or.inl h
          · exact Or.inr ⟨a, hmj a h1 h2, h2, h3⟩
      · rw [hfj.forb s τ hs]
        unfold PtsM
        constructor
        · rintro (h | ⟨p, ⟨a, h1, h2⟩, h3⟩)
          · exact Or.inl h
          · exact Or.inr ⟨p, ⟨a, by simp [h1], h2⟩, h3⟩
        · rintro (h | ⟨p, ⟨a, h1, h2, h4⟩, h3⟩)
          · exact Or.inl h
          · exact Or.inr ⟨p, ⟨a, hmj a h1 h2, h2, h4⟩, h3⟩
  · refine set_mem (P := fun (t : Trk) => t.beyond.length ≤ (d ++ [m]).length) (fun t ht => ?_) ?_
    · have := hg.bl t ht; simp; omega
    · simp; omega
  · refine set_mem (P := fun (t : Trk) => t.points.length ≤ (d ++ [m]).length) (fun t ht => ?_) ?_
    · have := hg.pl t ht; simp; omega
    · simp; omega
def newB (d : List T_api_Message) (m : T_api_Message) : Bool := decide (m.fKind = 0) && !(d.any fun m' => decide (m'.fKind = 0) && (decide (srcOf m' = srcOf m) && decide (m'.fEvent.fSeq = m.fEvent.fSeq)))
theorem got_run {k : Nat} {H : T_api_Message → Prop} (hH : Hon k H) (hk : k ≤ 8) : ∀ (ms d : List T_api_Message) (l : List Trk), Got k l d → (∀ m ∈ d, H m) → (∀ m ∈ ms, H m) → d.length + ms.length < 200 →
    Got k (runS l ms).1 (d ++ ms) ∧ ∀ i (hi : i < ms.length) (hj : i < (runS l ms).2.length), (runS l ms).2[i] = newB (d ++ ms.take i) ms[i]
  | [], d, l, hg, h1, h2, h3 => ⟨by simpa [runS] using hg, fun i hi => absurd hi (by simp)⟩
  | m :: r, d, l, hg, h1, h2, h3 => by
    simp only [List.length_cons] at h3
    obtain ⟨s1, s2⟩ := got_step hH hk hg h1 m (h2 m (by simp)) (by omega)
    have h0 : (stepT l m).2.2 = 0 := by rw [s1]
    obtain ⟨i1, i2⟩ := got_run hH hk r (d ++ [m]) (stepT l m).1 s2 (fun x hx => by
      rcases List.mem_append.1 hx with h | h
      · exact h1 x h
      · rw [List.mem_singleton.1 h]; exact h2 m (by simp)) (fun x hx => h2 x (by simp [hx])) (by simp; omega)
    rw [runS_ok h0]
    refine ⟨by simpa using i1, fun i hi hj => ?_⟩
    cases i with
    | zero => simp only [List.getElem_cons_zero, List.take_zero, List.append_nil, s1]; rfl
    | succ i =>
      simp only [List.getElem_cons_succ, List.take_succ_cons]
      rw [i2 i (by simpa using hi) (by simpa using hj)]
      simp
theorem got_zero (k : Nat) : Got k (List.replicate k t0) [] := by
  refine ⟨by simp, fun t ht => by rw [List.eq_of_mem_replicate ht]; exact begin_ok, fun i hi => ?_, fun t ht => by rw [List.eq_of_mem_replicate ht]; simp [t0], fun t ht => by rw [List.eq_of_mem_replicate ht]; simp [t0]⟩
  rw [List.getElem_replicate]
  exact ⟨fun x => ⟨Or.inl, fun h => h.elim id fun ⟨_, h, _⟩ => absurd h (by simp)⟩, Int.le_refl _, Int.le_refl _, fun s τ _ => ⟨Or.inl, fun h => h.elim id fun ⟨_, ⟨_, h, _⟩, _⟩ => absurd h (by simp)⟩⟩
end Go.Proofs.YtimkhfaddnanhaaGreat

namespace Go.Proofs.YtimkhfaddnanhaaGreat.S05
open Go.RowKit

abbrev Ev := T_api_Event
def placedB (e : Ev) : Bool := decide (0 ≤ e.fTime) && (decide (e.fTime ≤ 1099511627776) && (decide (0 ≤ e.fSource) && (decide (e.fSource < 8) && (decide (0 ≤ e.fSeq) && decide (e.fSeq ≤ 1099511627776)))))
def idt (e : Ev) : T_stream_identity := ⟨e.fSource, e.fSeq⟩
theorem p_placed (n : Nat) (e : Ev) : F_stream_placed n e = some (placedB e) := by
  unfold F_stream_placed placedB
  simp only [cnd_if]
  repeat' split
  all_goals (simp_all <;> omega)
theorem p_rplaced (n : Nat) (e : Ev) : F_tidegateref05_Placed n e = some (placedB e) := by
  unfold F_tidegateref05_Placed placedB
  simp only [cnd_if]
  repeat' split
  all_goals (simp_all <;> omega)
theorem p_of (n : Nat) (e : Ev) : F_stream_of n e = some (idt e) := rfl
theorem p_ref (n : Nat) (e : Ev) : F_tidegateref05_Ref n e = some ⟨e.fTime, e.fSource, e.fSeq⟩ := rfl
def rCmp (a b : T_api_Ref) : Int := or3 (cmpI a.fTime b.fTime) (cmpI a.fSource b.fSource) (cmpI a.fSeq b.fSeq)
theorem p_order (n : Nat) (a b : T_api_Ref) : F_tidegateref05_Order n a b = some (rCmp a b) := by
  unfold F_tidegateref05_Order rCmp or3 cmpI
  simp only [cnd_if, cnd_not]
  repeat' split
  all_goals first | rfl | (exfalso; omega)
theorem p_twin (n : Nat) (a b : Ev) : F_tidegateref05_Twin n a b = some (decide (idt a = idt b)) := by
  unfold F_tidegateref05_Twin
  simp only [cnd_if]
  split
  · rename_i h; simp [idt, h]
  · rename_i h; simp [idt, h]
theorem val_eq (x y : T_api_Value) : (decide (x.fKind = y.fKind) && (decide (x.fNum = y.fNum) && ((x.fText.toList == y.fText.toList) && true))) = decide (x = y) := by
  cases x; cases y
  simp [bytes_dec]
theorem drop_eq_cons {α : Type} (l : List α) (k : Nat) (h : k < l.length) : l.drop k = l[k] :: l.drop (k + 1) := List.drop_eq_getElem_cons h
theorem p_equal_l1 (n : Nat) (b a : List T_api_Value) (K : Option Bool) : ∀ (m k : Nat), k ≤ a.length → a.length = b.length → a.length ≤ 1000000 → a.length < m + k → F_slices_Equal_l1 n b a K m k = if a.drop k = b.drop k then K else some false
  | 0, k, h1, _, h2, h3 => by omega
  | m + 1, k, h1, hl, h2, h3 => by
    unfold F_slices_Equal_l1
    simp only [List.length_map, cnd_if, cnd_not, val_eq]
    by_cases h : k < a.length
    · rw [if_pos (by omega), idx_nat h, idx_nat (by omega : k < b.length), wrapS k (by omega)]
      rw [drop_eq_cons a k h, drop_eq_cons b k (by omega)]
      by_cases he : a[k] = b[k]'(by omega)
      · rw [if_pos he, p_equal_l1 n b a K m (k + 1) (by omega) hl h2 (by omega), he]
        simp only [List.cons.injEq, true_and]
      · rw [if_neg he, if_neg (fun e => he (List.cons.inj e).1)]
    · rw [if_neg (by omega), List.drop_eq_nil_of_le (by omega), List.drop_eq_nil_of_le (by omega), if_pos rfl]
theorem p_equal (n : Nat) (a b : List T_api_Value) (hn : a.length < n) (h2 : a.length ≤ 1000000) : F_slices_Equal n a b = some (decide (a = b)) := by
  unfold F_slices_Equal
  simp only [List.length_map, cnd_if, cnd_not]
  by_cases h : a.length = b.length
  · rw [if_pos (by omega)]
    have := p_equal_l1 n b a (some true) n 0 (by omega) h h2 (by omega)
    simp only [Int.natCast_zero, List.drop_zero] at this
    rw [this]
    by_cases e : a = b <;> simp [e]
  · rw [if_neg (by omega)]
    have : a ≠ b := fun e => h (by rw [e])
    simp [this]
theorem p_rsame1_l1 (n : Nat) (b a : List T_api_Value) (K : Option Bool) : ∀ (m k : Nat), k ≤ a.length → a.length = b.length → a.length ≤ 1000000 → a.length < m + k → F_tidegateref01_Same_l1 n b a K m k = if a.drop k = b.drop k then K else some false
  | 0, k, h1, _, h2, h3 => by omega
  | m + 1, k, h1, hl, h2, h3 => by
    unfold F_tidegateref01_Same_l1
    simp only [List.length_map, cnd_if, cnd_not, val_eq]
    by_cases h : k < a.length
    · rw [if_pos (by omega), idx_nat h, idx_nat (by omega : k < b.length), wrapS k (by omega)]
      rw [drop_eq_cons a k h, drop_eq_cons b k (by omega)]
      by_cases he : a[k] = b[k]'(by omega)
      · rw [if_pos he, p_rsame1_l1 n b a K m (k + 1) (by omega) hl h2 (by omega), he]
        simp only [List.cons.injEq, true_and]
      · rw [if_neg he, if_neg (fun e => he (List.cons.inj e).1)]
    · rw [if_neg (by omega), List.drop_eq_nil_of_le (by omega), List.drop_eq_nil_of_le (by omega), if_pos rfl]
theorem p_rsame1 (n : Nat) (a b : List T_api_Value) (hn : a.length < n) (h2 : a.length ≤ 1000000) : F_tidegateref01_Same n a b = some (decide (a = b)) := by
  unfold F_tidegateref01_Same
  simp only [List.length_map, cnd_if, cnd_not]
  by_cases h : a.length = b.length
  · rw [if_pos (by omega)]
    have := p_rsame1_l1 n b a (some true) n 0 (by omega) h h2 (by omega)
    simp only [Int.natCast_zero, List.drop_zero] at this
    rw [this]
    by_cases e : a = b <;> simp [e]
  · rw [if_neg (by omega)]
    have : a ≠ b := fun e => h (by rw [e])
    simp [this]
def fewV (n : Nat) (e : Ev) : Prop := e.fValues.length < n ∧ e.fValues.length ≤ 1000000
theorem p_evEqual (n : Nat) (a b : Ev) (ha : fewV n a) : F_stream_equal n a b = some (decide (a = b)) := by
  unfold F_stream_equal
  simp only [p_of, bnd_some, p_equal n a.fValues b.fValues ha.1 ha.2, cnd_if, cnd_b]
  obtain ⟨s, q, ty, t, v⟩ := a
  obtain ⟨s', q', ty', t', v'⟩ := b
  simp only [idt, T_api_Event.mk.injEq, Bool.and_true, Bool.and_eq_true, decide_eq_true_eq]
  by_cases h1 : s = s' <;> by_cases h2 : q = q' <;> by_cases h3 : ty = ty' <;> by_cases h4 : t = t' <;> simp [h1, h2, h3, h4]
theorem p_rEqual (n : Nat) (a b : Ev) (ha : fewV n a) : F_tidegateref05_Equal n a b = some (decide (a = b)) := by
  unfold F_tidegateref05_Equal
  simp only [p_ref, bnd_some, p_rsame1 n a.fValues b.fValues ha.1 ha.2, cnd_if, cnd_b]
  obtain ⟨s, q, ty, t, v⟩ := a
  obtain ⟨s', q', ty', t', v'⟩ := b
  simp only [T_api_Event.mk.injEq, Bool.and_true, Bool.and_eq_true, decide_eq_true_eq]
  by_cases h1 : s = s' <;> by_cases h2 : q = q' <;> by_cases h3 : ty = ty' <;> by_cases h4 : t = t' <;> simp [h1, h2, h3, h4]
theorem p_rSame_l1 (n : Nat) (b a : List Ev) (K : Option Bool) (hv : ∀ x ∈ a, fewV n x) : ∀ (m k : Nat), k ≤ a.length → a.length = b.length → a.length ≤ 1000000 → a.length < m + k → F_tidegateref05_Same_l1 n b a K m k = if a.drop k = b.drop k then K else some false
  | 0, k, h1, _, h2, h3 => by omega
  | m + 1, k, h1, hl, h2, h3 => by
    unfold F_tidegateref05_Same_l1
    simp only [List.length_map, cnd_if, cnd_not]
    by_cases h : k < a.length
    · rw [if_pos (by omega), idx_nat h, idx_nat (by omega : k < b.length), wrapS k (by omega)]
      rw [p_rEqual n _ _ (hv _ (List.getElem_mem h)), bnd_some, cnd_if]
      rw [drop_eq_cons a k h, drop_eq_cons b k (by omega)]
      by_cases he : a[k] = b[k]'(by omega)
      · rw [if_pos he, p_rSame_l1 n b a K hv m (k + 1) (by omega) hl h2 (by omega), he]
        simp only [List.cons.injEq, true_and]
      · rw [if_neg he, if_neg (fun e => he (List.cons.inj e).1)]
    · rw [if_neg (by omega), List.drop_eq_nil_of_le (by omega), List.drop_eq_nil_of_le (by omega), if_pos rfl]
theorem p_rSame (n : Nat) (a b : List Ev) (hv : ∀ x ∈ a, fewV n x) (hn : a.length < n) (h2 : a.length ≤ 1000000) : F_tidegateref05_Same n a b = some (decide (a = b)) := by
  unfold F_tidegateref05_Same
  simp only [List.length_map, cnd_if, cnd_not]
  by_cases h : a.length = b.length
  · rw [if_pos (by omega)]
    have := p_rSame_l1 n b a (some true) hv n 0 (by omega) h h2 (by omega)
    simp only [Int.natCast_zero, List.drop_zero] at this
    rw [this]
    by_cases e : a = b <;> simp [e]
  · rw [if_neg (by omega)]
    have : a ≠ b := fun e => h (by rw [e])
    simp [this]

def few1 (l : List T_api_Value) : Bool := (l.take 40).all (fun v => decide (v.fText.size ≤ 128)) && decide (l.length < 40)
theorem p_few1_l1 (n : Nat) (l : List T_api_Value) (K : Option Bool) : ∀ (m k : Nat), k ≤ l.length → k ≤ 40 → 40 < m + k → F_tidegateref01_Few_l1 n l K m k = if ((l.take 40).drop k).all (fun v => decide (v.fText.size ≤ 128)) then K else some false
  | 0, k, h1, h2, h3 => by omega
  | m + 1, k, h1, h2, h3 => by
    unfold F_tidegateref01_Few_l1
    simp only [List.length_map, cnd_if]
    by_cases h : k < l.length
    · rw [if_pos (by omega)]
      by_cases h4 : k < 40
      · rw [if_pos (by omega), idx_nat h, wrapS k (by omega)]
        have hk : k < (l.take 40).length := by rw [List.length_take]; omega
        rw [drop_eq_cons (l.take 40) k hk, List.all_cons, List.getElem_take]
        by_cases h5 : l[k].fText.size ≤ 128
        · rw [if_neg (by omega), p_few1_l1 n l K m (k + 1) (by omega) (by omega) (by omega)]
          simp [h5]
        · rw [if_pos (by omega)]
          simp [h5]
      · rw [if_neg (by omega), List.drop_eq_nil_of_le (by rw [List.length_take]; omega)]; simp
    · rw [if_neg (by omega), List.drop_eq_nil_of_le (by rw [List.length_take]; omega)]; simp
theorem p_few1 (n : Nat) (l : List T_api_Value) (hn : 41 ≤ n) : F_tidegateref01_Few n l = some (few1 l) := by
  unfold F_tidegateref01_Few few1
  have := p_few1_l1 n l (some (decide ((((List.map e_api_Value l).length : Nat) : Int) < 40))) n 0 (by omega) (by omega) (by omega)
  simp only [Int.natCast_zero, List.drop_zero] at this
  rw [this]
  simp only [List.length_map]
  split
  · rename_i h; rw [h]; simp; omega
  · rename_i h; simp only [Bool.not_eq_true] at h; rw [h]; rfl
def fewE (l : List Ev) : Bool := (l.take 20).all (fun e => decide (e.fValues.length ≤ 12) && few1 e.fValues) && decide (l.length ≤ 12)
theorem p_few_l1 (n : Nat) (l : List Ev) (K : Option Bool) (hn : 41 ≤ n) : ∀ (m k : Nat), k ≤ l.length → k ≤ 20 → 20 < m + k → F_tidegateref05_Few_l1 n l K m k = if ((l.take 20).drop k).all (fun e => decide (e.fValues.length ≤ 12) && few1 e.fValues) then K else some false
  | 0, k, h1, h2, h3 => by omega
  | m + 1, k, h1, h2, h3 => by
    unfold F_tidegateref05_Few_l1
    simp only [List.length_map, cnd_if, cnd_not]
    by_cases h : k < l.length
    · rw [if_pos (by omega)]
      by_cases h4 : k < 20
      · rw [if_pos (by omega), idx_nat h, wrapS k (by omega)]
        have hk : k < (l.take 20).length := by rw [List.length_take]; omega
        rw [drop_eq_cons (l.take 20) k hk, List.all_cons, List.getElem_take]
        by_cases h5 : l[k].fValues.length ≤ 12
        · rw [if_neg (by omega), idx_nat h, p_few1 n _ hn, bnd_some, cnd_b, p_few_l1 n l K hn m (k + 1) (by omega) (by omega) (by omega)]
          by_cases h6 : few1 l[k].fValues = true
          · simp [h5, h6]
          · simp [h5, h6]
        · rw [if_pos (by omega)]
          simp [h5]
      · rw [if_neg (by omega), List.drop_eq_nil_of_le (by rw [List.length_take]; omega)]; simp
    · rw [if_neg (by omega), List.drop_eq_nil_of_le (by rw [List.length_take]; omega)]; simp
theorem p_few (n : Nat) (l : List Ev) (hn : 41 ≤ n) : F_tidegateref05_Few n l = some (fewE l) := by
  unfold F_tidegateref05_Few fewE
  have := p_few_l1 n l (some (decide ((((List.map e_api_Event l).length : Nat) : Int) ≤ 12))) hn n 0 (by omega) (by omega) (by omega)
  simp only [Int.natCast_zero, List.drop_zero] at this
  rw [this]
  simp only [List.length_map]
  split
  · rename_i h; rw [h]; simp; omega
  · rename_i h; simp only [Bool.not_eq_true] at h; rw [h]; rfl
theorem fewE_out {l : List Ev} (h : fewE l = true) : l.length ≤ 12 ∧ ∀ e ∈ l, e.fValues.length ≤ 12 := by
  unfold fewE at h
  simp only [Bool.and_eq_true, decide_eq_true_eq, List.all_eq_true] at h
  refine ⟨h.2, fun e he => (h.1 e ?_).1⟩
  rw [List.take_of_length_le (by omega)]
  exact he

def headGe : List Ev → Ev → Bool
  | [], _ => false
  | x :: _, e => decide (0 ≤ evCmp x e)
def chk : List Ev → List Ev → Int
  | _, [] => 0
  | p, e :: r => if placedB e = false then 2 else if headGe p e = true then 14 else if p.any (fun x => decide (idt x = idt e)) then 7 else chk (e :: p) r
def strChk (l : List Ev) : Int := if 4096 < l.length then 5 else chk [] l
def SeenOk (m : List (T_stream_identity × Bool)) (p : List Ev) : Prop := ∀ k, (mlk m k).getD false = p.any (fun x => decide (idt x = k))
theorem mlk_mput {κ ν : Type} [DecidableEq κ] (l : List (κ × ν)) (k : κ) (v : ν) (k' : κ) : mlk (mput l k v) k' = if k' = k then some v else mlk l k' := by
  induction l with
  | nil => simp [mput, mlk]
  | cons a r ih =>
    obtain ⟨a, x⟩ := a
    simp only [mput]
    by_cases h : k = a
    · subst h
      rw [if_pos rfl]
      simp only [mlk]
      by_cases h2 : k' = k
      · simp [h2]
      · simp [h2]
    · rw [if_neg h]
      simp only [mlk, ih]
      by_cases h2 : k' = a
      · have h3 : k' ≠ k := fun e => h (by rw [← e, h2])
        simp [h2, h3]
        intro e; exact absurd e.symm h
      · simp [h2]
theorem SeenOk.put {m : List (T_stream_identity × Bool)} {p : List Ev} (h : SeenOk m p) (e : Ev) : SeenOk (mput m (idt e) true) (e :: p) := fun k => by
  rw [mlk_mput, List.any_cons]
  by_cases hk : k = idt e
  · subst hk; simp
  · rw [if_neg hk, h k]
    have : decide (idt e = k) = false := decide_eq_false (fun e => hk e.symm)
    rw [this, Bool.false_or]
theorem rev_take {l : List Ev} {k : Nat} (h : k < l.length) : (l.take (k + 1)).reverse = l[k] :: (l.take k).reverse := by
  rw [List.take_succ_eq_append_getElem h, List.reverse_append]; rfl
theorem rev_head {l : List Ev} {k : Nat} (h0 : 0 < k) (h : k ≤ l.length) : ∃ t, (l.take k).reverse = l[k - 1] :: t := by
  obtain ⟨j, rfl⟩ : ∃ j, k = j + 1 := ⟨k - 1, by omega⟩
  exact ⟨_, by rw [rev_take (by omega)]; rfl⟩
theorem wrap_pred {k : Nat} (h0 : 0 < k) (h : k ≤ 1000000) : IntKind.wrap .i64 ((k : Int) - 1) = ((k - 1 : Nat) : Int) := by rw [wrap_in _ (by omega)]; omega
theorem mgt_eq {κ ν β : Type} [DecidableEq κ] (l : List (κ × ν)) (k : κ) (z : ν) (c : ν → Bool → Option β) : mgt l k z c = c ((mlk l k).getD z) (mlk l k).isSome := by unfold mgt; rfl
theorem mst_eq {κ ν β : Type} [DecidableEq κ] (l : List (κ × ν)) (k : κ) (v : ν) (c : List (κ × ν) → Option β) : mst l k v c = c (mput l k v) := by unfold mst; rfl
theorem p_chk_l1 (n : Nat) (l : List Ev) : ∀ (m k : Nat) (seen : List (T_stream_identity × Bool)), k ≤ l.length → l.length ≤ 1000000 → l.length < m + k → SeenOk seen (l.take k).reverse →
    F_stream_Check_l1 n l (some 0) m ((k : Int), seen) = some (chk (l.take k).reverse (l.drop k))
  | 0, k, _, h1, h2, h3, _ => by omega
  | m + 1, k, seen, h1, h2, h3, hs => by
    unfold F_stream_Check_l1
    simp only [List.length_map, cnd_if, cnd_not]
    by_cases h : k < l.length
    · rw [if_pos (by omega), idx_nat h, wrapS k (by omega)]
      rw [drop_eq_cons l k h]
      conv => rhs; unfold chk
      have hs' : SeenOk (mput seen (idt l[k]) true) (l.take (k + 1)).reverse := by rw [rev_take h]; exact hs.put _
      have ih := p_chk_l1 n l m (k + 1) _ (by omega) h2 (by omega) hs'
      rw [rev_take h] at ih
      have hseen := hs (idt l[k])
      simp only [p_placed, bnd_some, p_of, cnd_b, mgt_eq, mst_eq, hseen, F_evCmp]
      by_cases hp : placedB l[k] = true
      · have hp' : ¬ placedB l[k] = false := by rw [hp]; simp
        rw [if_pos hp, if_neg hp']
        by_cases hk0 : 0 < k
        · rw [if_pos (by omega), wrap_pred hk0 (by omega), idx_nat (by omega : k - 1 < l.length)]
          obtain ⟨t, ht⟩ := rev_head (l := l) hk0 h1
          try simp only [bnd_some, decide_eq_true_eq]
          rw [ht] at ih ⊢
          simp only [headGe, decide_eq_true_eq]
          by_cases hc : 0 ≤ evCmp l[k - 1] l[k]
          · rw [if_pos hc, if_pos hc]
          · rw [if_neg hc, if_neg hc]
            rw [ih]
            split <;> rfl
        · have hk : k = 0 := by omega
          subst hk
          rw [if_neg (by omega)]
          simp only [List.take_zero, List.reverse_nil, List.any_nil, headGe, Bool.false_eq_true, if_false] at ih ⊢
          rw [ih]
      · have hp' : placedB l[k] = false := by simpa using hp
        rw [if_neg hp, if_pos hp']
    · rw [if_neg (by omega), List.drop_eq_nil_of_le (by omega)]; rfl
theorem p_chk (n : Nat) (l : List Ev) (hn : l.length < n) (h2 : l.length ≤ 1000000) : F_stream_Check n l = some (strChk l) := by
  unfold F_stream_Check strChk
  simp only [List.length_map, cnd_if]
  by_cases h : 4096 < l.length
  · rw [if_pos (by omega), if_pos h]
  · rw [if_neg (by omega), if_neg h]
    have := p_chk_l1 n l n 0 [] (by omega) h2 (by omega) (fun k => rfl)
    simpa using this
theorem p_rchk_l2 (n : Nat) (l : List Ev) (i : Nat) (hi : i < l.length) (K : Option Int) : ∀ (m k : Nat), k ≤ i → l.length ≤ 1000000 → i < m + k → F_tidegateref05_Check_l2 n l (i : Int) K m k = if ((l.take i).drop k).any (fun x => decide (idt x = idt l[i])) then some 7 else K
  | 0, k, h1, h2, h3 => by omega
  | m + 1, k, h1, h2, h3 => by
    unfold F_tidegateref05_Check_l2
    simp only [cnd_if]
    by_cases h : k < i
    · rw [if_pos (by omega), idx_nat (by omega : k < l.length), idx_nat hi, wrapS k (by omega), p_twin, bnd_some, cnd_if]
      have hk : k < (l.take i).length := by rw [List.length_take]; omega
      rw [drop_eq_cons (l.take i) k hk, List.any_cons, List.getElem_take, p_rchk_l2 n l i hi K m (k + 1) (by omega) h2 (by omega)]
      by_cases h5 : idt l[k] = idt l[i] <;> simp [h5]
    · rw [if_neg (by omega), List.drop_eq_nil_of_le (by rw [List.length_take]; omega)]; simp
theorem p_rchk_l3 (n : Nat) (l : List Ev) (i : Nat) (hi : i < l.length) (K : Option Int) : ∀ (m k : Nat), k ≤ i → l.length ≤ 1000000 → i < m + k → F_tidegateref05_Check_l3 n l (i : Int) K m k = if ((l.take i).drop k).any (fun x => decide (idt x = idt l[i])) then some 7 else K
  | 0, k, h1, h2, h3 => by omega
  | m + 1, k, h1, h2, h3 => by
    unfold F_tidegateref05_Check_l3
    simp only [cnd_if]
    by_cases h : k < i
    · rw [if_pos (by omega), idx_nat (by omega : k < l.length), idx_nat hi, wrapS k (by omega), p_twin, bnd_some, cnd_if]
      have hk : k < (l.take i).length := by rw [List.length_take]; omega
      rw [drop_eq_cons (l.take i) k hk, List.any_cons, List.getElem_take, p_rchk_l3 n l i hi K m (k + 1) (by omega) h2 (by omega)]
      by_cases h5 : idt l[k] = idt l[i] <;> simp [h5]
    · rw [if_neg (by omega), List.drop_eq_nil_of_le (by rw [List.length_take]; omega)]; simp
theorem p_rchk_l1 (n : Nat) (l : List Ev) (hn : l.length < n) : ∀ (m k : Nat), k ≤ l.length → l.length ≤ 1000000 → l.length < m + k → F_tidegateref05_Check_l1 n l (some 0) m (k : Int) = some (chk (l.take k).reverse (l.drop k))
  | 0, k, h1, h2, h3 => by omega
  | m + 1, k, h1, h2, h3 => by
    unfold F_tidegateref05_Check_l1
    simp only [List.length_map, cnd_if, cnd_not]
    by_cases h : k < l.length
    · rw [if_pos (by omega), idx_nat h, wrapS k (by omega)]
      rw [drop_eq_cons l k h]
      conv => rhs; unfold chk
      have ih := p_rchk_l1 n l hn m (k + 1) (by omega) h2 (by omega)
      rw [rev_take h] at ih
      simp only [p_rplaced, bnd_some, cnd_b]
      by_cases hp : placedB l[k] = true
      · have hp' : ¬ placedB l[k] = false := by rw [hp]; simp
        rw [if_pos hp, if_neg hp']
        by_cases hk0 : 0 < k
        · rw [if_pos (by omega), wrap_pred hk0 (by omega), idx_nat (by omega : k - 1 < l.length)]
          obtain ⟨t, ht⟩ := rev_head (l := l) hk0 h1
          simp only [bnd_some, p_ref]
          rw [idx_nat h]
          simp only [bnd_some, p_order]
          have ec : rCmp ⟨l[k - 1].fTime, l[k - 1].fSource, l[k - 1].fSeq⟩ ⟨l[k].fTime, l[k].fSource, l[k].fSeq⟩ = evCmp l[k - 1] l[k] := rfl
          rw [ec]
          have hl2 := p_rchk_l2 n l k h (F_tidegateref05_Check_l1 n l (some 0) m ((k + 1 : Nat) : Int)) n 0 (by omega) h2 (by omega)
          simp only [Int.natCast_zero, List.drop_zero] at hl2
          rw [hl2, ih]
          have hany : (l.take k).any (fun x => decide (idt x = idt l[k])) = (l.take k).reverse.any (fun x => decide (idt x = idt l[k])) := by rw [List.any_reverse]
          rw [hany, ht]
          simp only [headGe, decide_eq_true_eq]
          by_cases hc : 0 ≤ evCmp l[k - 1] l[k]
          · rw [if_pos hc, if_pos hc]
          · rw [if_neg hc, if_neg hc]
            split <;> rfl
        · have hk : k = 0 := by omega
          subst hk
          rw [if_neg (by omega)]
          have hl3 := p_rchk_l3 n l 0 h (F_tidegateref05_Check_l1 n l (some 0) m ((0 + 1 : Nat) : Int)) n 0 (by omega) h2 (by omega)
          simp only [Int.natCast_zero, List.drop_zero] at hl3
          simp only [Int.natCast_zero] at hl3 ⊢
          rw [hl3]
          simp only [List.take_zero, List.reverse_nil, List.any_nil, headGe, Bool.false_eq_true, if_false] at ih ⊢
          rw [ih]
      · have hp' : placedB l[k] = false := by simpa using hp
        rw [if_neg hp, if_pos hp']
    · rw [if_neg (by omega), List.drop_eq_nil_of_le (by omega)]; rfl
theorem p_rchk (n : Nat) (l : List Ev) (hn : l.length < n) (h2 : l.length ≤ 1000000) : F_tidegateref05_Check n l = some (strChk l) := by
  unfold F_tidegateref05_Check strChk
  simp only [List.length_map, cnd_if]
  by_cases h : 4096 < l.length
  · rw [if_pos (by omega), if_pos h]
  · rw [if_neg (by omega), if_neg h]
    have := p_rchk_l1 n l hn n 0 (by omega) h2 (by omega)
    simpa using this
end Go.Proofs.YtimkhfaddnanhaaGreat.S05
namespace Go.Proofs.YtimkhfaddnanhaaGreat.S05
open Go.RowKit

def allE (l : List Ev) : Int := if 4096 < l.length then 5 else if l.all placedB then 0 else 2
theorem p_list_l1 (n : Nat) (l : List Ev) : ∀ (m k : Nat), k ≤ l.length → l.length ≤ 1000000 → l.length < m + k → F_tidegateref05_list_l1 n l (some 0) m (k : Int) = some (if (l.drop k).all placedB then 0 else 2)
  | 0, k, h1, h2, h3 => by omega
  | m + 1, k, h1, h2, h3 => by
    unfold F_tidegateref05_list_l1
    simp only [List.length_map, cnd_if, cnd_not]
    by_cases h : k < l.length
    · rw [if_pos (by omega), idx_nat h, wrapS k (by omega)]
      simp only [p_rplaced, bnd_some, cnd_b]
      rw [drop_eq_cons l k h, List.all_cons, p_list_l1 n l m (k + 1) (by omega) h2 (by omega)]
      by_cases hp : placedB l[k] = true <;> simp [hp]
    · rw [if_neg (by omega), List.drop_eq_nil_of_le (by omega)]; simp
theorem p_list (n : Nat) (l : List Ev) (hn : l.length < n) (h2 : l.length ≤ 1000000) : F_tidegateref05_list n l = some (allE l) := by
  unfold F_tidegateref05_list allE
  have := p_list_l1 n l n 0 (by omega) h2 (by omega)
  simp only [Int.natCast_zero, List.drop_zero] at this
  simp only [List.length_map, cnd_if, this]
  by_cases h : 4096 < l.length
  · rw [if_pos (by omega), if_pos h]
  · rw [if_neg (by omega), if_neg h]

def dd : List Ev → List Ev → Option (List Ev)
  | acc, [] => some acc
  | acc, e :: r => match acc.find? (fun x => decide (idt x = idt e)) with
    | some f => if f = e then dd acc r else none
    | none => dd (acc ++ [e]) r
def DistI (l : List Ev) : Prop := ∀ x ∈ l, ∀ y ∈ l, idt x = idt y → x = y
instance (l : List Ev) : Decidable (DistI l) := inferInstanceAs (Decidable (∀ x ∈ l, ∀ y ∈ l, idt x = idt y → x = y))
theorem dd_some : ∀ (l acc : List Ev), acc.Nodup → DistI (acc ++ l) → ∃ r, dd acc l = some r ∧ (∀ x, x ∈ r ↔ x ∈ acc ∨ x ∈ l) ∧ r.Nodup
  | [], acc, hn, h => ⟨acc, rfl, fun x => by simp, hn⟩
  | e :: l, acc, hn, h => by
    unfold dd
    cases hf : acc.find? (fun x => decide (idt x = idt e)) with
    | some f =>
      have h1 := List.mem_of_find?_eq_some hf
      have h2 : idt f = idt e := by have := List.find?_some hf; simpa using this
      have h3 : f = e := h f (by simp [h1]) e (by simp) h2
      simp only [h3, if_true]
      obtain ⟨r, hr, hm, hnr⟩ := dd_some l acc hn (fun x hx y hy => h x (by simp at hx ⊢; exact hx.elim Or.inl (fun h => Or.inr (Or.inr h))) y (by simp at hy ⊢; exact hy.elim Or.inl (fun h => Or.inr (Or.inr h))))
      refine ⟨r, hr, fun x => ?_, hnr⟩
      rw [hm, List.mem_cons]
      constructor
      · rintro (h | h); exact Or.inl h; exact Or.inr (Or.inr h)
      · rintro (h | h | h)
        · exact Or.inl h
        · subst h; exact Or.inl (h3 ▸ h1)
        · exact Or.inr h
    | none =>
      have hne : e ∉ acc := fun he => by
        have := List.find?_eq_none.1 hf e he
        simp at this
      have hn' : (acc ++ [e]).Nodup := by
        rw [List.nodup_append]
        exact ⟨hn, by simp, fun a ha b hb hab => by simp at hb; subst hb; exact hne (hab ▸ ha)⟩
      obtain ⟨r, hr, hm, hnr⟩ := dd_some l (acc ++ [e]) hn' (by rw [List.append_assoc]; exact h)
      refine ⟨r, hr, fun x => ?_, hnr⟩
      rw [hm]
      simp only [List.mem_append, List.mem_cons, List.not_mem_nil, or_false, or_assoc]
theorem dd_out : ∀ (l acc r : List Ev), DistI acc → dd acc l = some r → DistI (acc ++ l) ∧ ∀ x ∈ acc, x ∈ r
  | [], acc, r, h, hr => by injection hr with hr; subst hr; exact ⟨by simpa using h, fun x hx => hx⟩
  | e :: l, acc, r, h, hr => by
    unfold dd at hr
    cases hf : acc.find? (fun x => decide (idt x = idt e)) with
    | some f =>
      rw [hf] at hr
      simp only at hr
      split at hr
      · rename_i hfe
        subst hfe
        have h1 := List.mem_of_find?_eq_some hf
        obtain ⟨h2, h3⟩ := dd_out l acc r h hr
        have key : ∀ x, x ∈ acc ++ f :: l → x ∈ acc ++ l := fun x hx => by
          simp only [List.mem_append, List.mem_cons] at hx ⊢
          rcases hx with hx | rfl | hx
          · exact Or.inl hx
          · exact Or.inl h1
          · exact Or.inr hx
        exact ⟨fun x hx y hy => h2 x (key x hx) y (key y hy), h3⟩
      · cases hr
    | none =>
      rw [hf] at hr
      simp only at hr
      have hd : DistI (acc ++ [e]) := fun x hx y hy he => by
        simp only [List.mem_append, List.mem_singleton] at hx hy
        have hno := List.find?_eq_none.1 hf
        rcases hx with hx | rfl <;> rcases hy with hy | rfl
        · exact h x hx y hy he
        · exact absurd he (by have := hno x hx; simpa using this)
        · exact absurd he.symm (by have := hno y hy; simpa using this)
        · rfl
      obtain ⟨h2, h3⟩ := dd_out l (acc ++ [e]) r hd hr
      exact ⟨by rw [List.append_assoc] at h2; exact h2, fun x hx => h3 x (by simp [hx])⟩
theorem dd_none {l acc : List Ev} (h : DistI acc) (hn : ¬ DistI (acc ++ l)) : dd acc l = none := by
  cases hr : dd acc l with
  | none => rfl
  | some r => exact absurd (dd_out l acc r h hr).1 hn
theorem evCmp_tie {a b : Ev} (h1 : ltOf evCmp a b = false) (h2 : ltOf evCmp b a = false) : idt a = idt b ∧ a.fTime = b.fTime := by
  unfold ltOf at h1 h2
  simp only [decide_eq_false_iff_not, evCmp_lt] at h1 h2
  refine ⟨?_, by omega⟩
  have e1 : a.fSource = b.fSource := by omega
  have e2 : a.fSeq = b.fSeq := by omega
  simp [idt, e1, e2]
theorem distI_ties {l : List Ev} (h : DistI l) : ∀ x ∈ l, ∀ y ∈ l, ltOf evCmp x y = false → ltOf evCmp y x = false → x = y := fun x hx y hy h1 h2 => h x hx y hy (evCmp_tie h1 h2).1
def srt (l : List Ev) : List Ev := match dd [] l with | some r => sortF evCmp r | none => []
theorem srt_mem {l : List Ev} (h : DistI l) (x : Ev) : x ∈ srt l ↔ x ∈ l := by
  obtain ⟨r, hr, hm, hn⟩ := dd_some l [] (by simp) (by simpa using h)
  unfold srt
  rw [hr]
  simp only [(sortF_perm evCmp r).mem_iff, hm]
  simp
theorem srt_nodup {l : List Ev} (h : DistI l) : (srt l).Nodup := by
  obtain ⟨r, hr, hm, hn⟩ := dd_some l [] (by simp) (by simpa using h)
  unfold srt
  rw [hr]
  exact (sortF_perm evCmp r).symm.nodup hn
theorem srt_sorted (l : List Ev) : (srt l).Pairwise (fun x y => ltOf evCmp y x = false) := by
  unfold srt
  split
  · exact sortF_sorted evCmp_swo _
  · exact .nil
theorem srt_uniq {l r : List Ev} (h : DistI l) (hm : ∀ x, x ∈ r ↔ x ∈ l) (hn : r.Nodup) (hs : r.Pairwise (fun x y => ltOf evCmp y x = false)) : r = srt l := by
  have hp : r.Perm (srt l) := (List.perm_ext_iff_of_nodup hn (srt_nodup h)).2 fun x => by rw [hm, srt_mem h]
  exact List.Perm.eq_of_pairwise (le := fun x y => ltOf evCmp y x = false) (fun a b ha hb h1 h2 => distI_ties h a ((hm a).1 ha) b ((srt_mem h b).1 hb) h2 h1) hs (srt_sorted l) hp
theorem srt_congr {l l' : List Ev} (h : DistI l) (hm : ∀ x, x ∈ l ↔ x ∈ l') : srt l = srt l' := by
  have h' : DistI l' := fun x hx y hy => h x ((hm x).2 hx) y ((hm y).2 hy)
  exact srt_uniq h' (fun x => by rw [srt_mem h, hm]) (srt_nodup h) (srt_sorted l)
theorem DistI.srt {l : List Ev} (h : DistI l) : DistI (srt l) := fun x hx y hy => h x ((srt_mem h x).1 hx) y ((srt_mem h y).1 hy)

def MapE (m : List (T_stream_identity × Ev)) (acc : List Ev) : Prop := ∀ k, mlk m k = acc.find? (fun x => decide (idt x = k))
theorem MapE.put {m : List (T_stream_identity × Ev)} {acc : List Ev} (h : MapE m acc) (e : Ev) (hf : acc.find? (fun x => decide (idt x = idt e)) = none) : MapE (mput m (idt e) e) (acc ++ [e]) := fun k => by
  rw [mlk_mput, List.find?_append, h k]
  by_cases hk : k = idt e
  · subst hk; rw [hf]; simp
  · rw [if_neg hk]
    have : ¬ idt e = k := fun e => hk e.symm
    simp [this]
theorem p_copied (n : Nat) (e : Ev) (h : e.fValues.length ≤ 1000000) : F_stream_copied n e = some e := by
  unfold F_stream_copied F_clone
  rw [if_pos (by omega), bnd_some]
theorem p_sorted_l1 (n : Nat) (l : List Ev) (hv : ∀ x ∈ l, fewV n x) (K : List Ev → Option (List Ev × Bool)) : ∀ (m k : Nat) (mp : List (T_stream_identity × Ev)) (acc : List Ev), k ≤ l.length → l.length ≤ 1000000 → l.length < m + k → acc.length ≤ k → (∀ x ∈ acc, x ∈ l) → MapE mp acc →
    F_stream_sorted_l1 n l K m ((k : Int), mp, acc) = match dd acc (l.drop k) with | some r => K r | none => some ([], false)
  | 0, k, _, _, h1, h2, h3, _, _, _ => by omega
  | m + 1, k, mp, acc, h1, h2, h3, h4, hsub, hm => by
    unfold F_stream_sorted_l1
    simp only [List.length_map, cnd_if, cnd_not]
    by_cases h : k < l.length
    · rw [if_pos (by omega), idx_nat h, wrapS k (by omega)]
      have hml : l[k] ∈ l := List.getElem_mem h
      simp only [p_of, bnd_some, mgt_eq, mst_eq, hm (idt l[k]), p_copied n l[k] (hv _ hml).2, cnd_b]
      rw [app_ok (by simp; omega) (by omega)]
      rw [drop_eq_cons l k h]
      conv => rhs; unfold dd
      cases hf : acc.find? (fun x => decide (idt x = idt l[k])) with
      | some f =>
        have hfm := List.mem_of_find?_eq_some hf
        simp only [Option.isSome_some, if_true, Option.getD_some]
        rw [p_evEqual n f l[k] (hv _ (hsub f hfm)), bnd_some]
        have ih := p_sorted_l1 n l hv K m (k + 1) mp acc (by omega) h2 (by omega) (by omega) hsub hm
        by_cases he : f = l[k]
        · rw [if_pos he]
          simp only [he, decide_true, if_true]
          exact ih
        · rw [if_neg he]
          simp only [he, decide_false, Bool.false_eq_true, if_false]
      | none =>
        simp only [Option.isSome_none, Bool.false_eq_true, if_false, Bool.not_false]
        have hm' := hm.put l[k] hf
        exact p_sorted_l1 n l hv K m (k + 1) _ (acc ++ [l[k]]) (by omega) h2 (by omega) (by simp; omega) (fun x hx => by
          simp only [List.mem_append, List.mem_singleton] at hx
          rcases hx with hx | rfl
          · exact hsub x hx
          · exact hml) hm'
    · rw [if_neg (by omega), List.drop_eq_nil_of_le (by omega)]; rfl
theorem f_sort_ok (n : Nat) {l : List Ev} (h : DistI l) (h2 : l.length ≤ 1000000) : F_sort evCmp n l = some (sortF evCmp l) := by
  unfold F_sort
  rw [if_pos ⟨by omega, distI_ties h⟩]
def sortedS (l : List Ev) : List Ev × Bool := if DistI l then (srt l, true) else ([], false)
theorem p_sorted (n : Nat) (l : List Ev) (hv : ∀ x ∈ l, fewV n x) (hn : l.length < n) (h2 : l.length ≤ 1000000) : F_stream_sorted n l = some (sortedS l) := by
  unfold F_stream_sorted sortedS
  have := p_sorted_l1 n l hv (fun k1_0_0y => bndC (F_sort evCmp n k1_0_0y) fun x42 => some (x42, true)) n 0 [] [] (by omega) h2 (by omega) (by simp) (by simp) (fun k => rfl)
  simp only [Int.natCast_zero, List.drop_zero] at this
  rw [this]
  by_cases h : DistI l
  · rw [if_pos h]
    obtain ⟨r, hr, hm, hnd⟩ := dd_some l [] (by simp) (by simpa using h)
    have hd : DistI r := fun x hx y hy => h x (by have := (hm x).1 hx; simpa using this) y (by have := (hm y).1 hy; simpa using this)
    have hlen : r.length ≤ l.length := hnd.length_le_of_subset (fun x hx => by have := (hm x).1 hx; simpa using this)
    unfold srt
    rw [hr]
    simp only
    rw [f_sort_ok n hd (by omega), bndC_some]
  · rw [if_neg h, dd_none (by intro x hx; simp at hx) (by simpa using h)]
def sortS (l : List Ev) : List Ev × Int := if allE l ≠ 0 then ([], allE l) else if DistI l then (srt l, 0) else ([], 22)
theorem p_conf_l1 (n : Nat) (l : List Ev) (hv : ∀ x ∈ l, fewV n x) (e : Ev) (K : Option Bool) : ∀ (m k : Nat), k ≤ l.length → l.length ≤ 1000000 → l.length < m + k → F_tidegateref05_conflict_l1 n e l K m (k : Int) = if (l.drop k).any (fun x => decide (idt x = idt e) && !decide (x = e)) then some true else K
  | 0, k, h1, h2, h3 => by omega
  | m + 1, k, h1, h2, h3 => by
    unfold F_tidegateref05_conflict_l1
    simp only [List.length_map, cnd_if, cnd_not]
    by_cases h : k < l.length
    · rw [if_pos (by omega), idx_nat h, idx_nat h, wrapS k (by omega)]
      simp only [p_twin, p_rEqual n l[k] e (hv _ (List.getElem_mem h)), bnd_some, cnd_if]
      rw [drop_eq_cons l k h, List.any_cons, p_conf_l1 n l hv e K m (k + 1) (by omega) h2 (by omega)]
      by_cases h4 : idt l[k] = idt e <;> by_cases h5 : l[k] = e <;> simp [h4, h5]
    · rw [if_neg (by omega), List.drop_eq_nil_of_le (by omega)]; simp
theorem p_conf (n : Nat) (l : List Ev) (hv : ∀ x ∈ l, fewV n x) (e : Ev) (hn : l.length < n) (h2 : l.length ≤ 1000000) : F_tidegateref05_conflict n l e = some (l.any (fun x => decide (idt x = idt e) && !decide (x = e))) := by
  unfold F_tidegateref05_conflict
  have := p_conf_l1 n l hv e (some false) n 0 (by omega) h2 (by omega)
  simp only [Int.natCast_zero, List.drop_zero] at this
  rw [this]
  split
  · rename_i h; rw [h]
  · rename_i h; simp only [Bool.not_eq_true] at h; rw [h]
theorem p_has_l1 (n : Nat) (l : List Ev) (hv : ∀ x ∈ l, fewV n x) (e : Ev) (K : Option Bool) : ∀ (m k : Nat), k ≤ l.length → l.length ≤ 1000000 → l.length < m + k → F_tidegateref05_Has_l1 n e l K m (k : Int) = if (l.drop k).any (fun x => decide (x = e)) then some true else K
  | 0, k, h1, h2, h3 => by omega
  | m + 1, k, h1, h2, h3 => by
    unfold F_tidegateref05_Has_l1
    simp only [List.length_map, cnd_if, cnd_not]
    by_cases h : k < l.length
    · rw [if_pos (by omega), idx_nat h, wrapS k (by omega)]
      simp only [p_rEqual n l[k] e (hv _ (List.getElem_mem h)), bnd_some, cnd_if]
      rw [drop_eq_cons l k h, List.any_cons, p_has_l1 n l hv e K m (k + 1) (by omega) h2 (by omega)]
      by_cases h5 : l[k] = e <;> simp [h5]
    · rw [if_neg (by omega), List.drop_eq_nil_of_le (by omega)]; simp
theorem p_has (n : Nat) (l : List Ev) (hv : ∀ x ∈ l, fewV n x) (e : Ev) (hn : l.length < n) (h2 : l.length ≤ 1000000) : F_tidegateref05_Has n l e = some (decide (e ∈ l)) := by
  unfold F_tidegateref05_Has
  have := p_has_l1 n l hv e (some false) n 0 (by omega) h2 (by omega)
  simp only [Int.natCast_zero, List.drop_zero] at this
  rw [this]
  have e1 : l.any (fun x => decide (x = e)) = decide (e ∈ l) := by
    rw [Bool.eq_iff_iff]; simp
  rw [e1]
  by_cases h : e ∈ l <;> simp [h]
def putR : List Ev → Ev → List Ev
  | [], e => [e]
  | x :: r, e => if evCmp x e < 0 then x :: putR r e else e :: x :: r
theorem putR_split (e : Ev) : ∀ (l : List Ev) (k : Nat), k ≤ l.length → (∀ x ∈ l.take k, evCmp x e < 0) → putR l e = l.take k ++ putR (l.drop k) e
  | l, 0, _, _ => by simp
  | [], k + 1, h, _ => by simp at h
  | x :: r, k + 1, h, hx => by
    have h1 := hx x (by simp)
    rw [putR, if_pos h1, putR_split e r k (by simpa using h) (fun y hy => hx y (by simp [hy]))]
    rfl
theorem p_put_l1 (n : Nat) (e : Ev) (l : List Ev) (K : Int → List Ev → Option (List Ev)) (hK : ∀ k, k ≤ l.length → (∀ x ∈ l.take k, evCmp x e < 0) → (∀ h : k < l.length, ¬ evCmp l[k] e < 0) → K (k : Int) (l.take k) = some (putR l e)) : ∀ (m k : Nat), k ≤ l.length → l.length ≤ 1000000 → l.length < m + k → (∀ x ∈ l.take k, evCmp x e < 0) →
    F_tidegateref05_put_l1 n e l K m ((k : Int), l.take k) = some (putR l e)
  | 0, k, h1, h2, h3, _ => by omega
  | m + 1, k, h1, h2, h3, hx => by
    unfold F_tidegateref05_put_l1
    simp only [List.length_map, cnd_if]
    by_cases h : k < l.length
    · rw [if_pos (by omega), idx_nat h, wrapS k (by omega)]
      simp only [p_ref, bnd_some, p_order, cnd_if]
      have ec : rCmp ⟨l[k].fTime, l[k].fSource, l[k].fSeq⟩ ⟨e.fTime, e.fSource, e.fSeq⟩ = evCmp l[k] e := rfl
      rw [ec]
      by_cases hc : evCmp l[k] e < 0
      · rw [if_pos hc, idx_nat h, app_ok (by simp; omega) (by omega), ← List.take_succ_eq_append_getElem h]
        refine p_put_l1 n e l K hK m (k + 1) (by omega) h2 (by omega) (fun x hx' => ?_)
        rw [List.take_succ_eq_append_getElem h] at hx'
        simp only [List.mem_append, List.mem_singleton] at hx'
        rcases hx' with hx' | rfl
        · exact hx x hx'
        · exact hc
      · rw [if_neg hc]; exact hK k h1 hx (fun _ => hc)
    · rw [if_neg (by omega)]; exact hK k h1 hx (fun h' => absurd h' h)
theorem p_put (n : Nat) (l : List Ev) (e : Ev) (hn : l.length < n) (h2 : l.length ≤ 100000) : F_tidegateref05_put n l e = some (putR l e) := by
  unfold F_tidegateref05_put
  have := p_put_l1 n e l (fun k1_0_0y0 k1_0_0y1 => app k1_0_0y1 [e] 56 fun x43 => sls l k1_0_0y0 (((List.map e_api_Event (l)).length : Nat) : Int) fun x44 => app x43 x44 56 fun x45 => some x45) (fun k hk hx hnx => ?_) n 0 (by omega) (by omega) (by omega) (by simp)
  · simpa using this
  · simp only [List.length_map]
    rw [app_ok (by simp; omega) (by omega), sls_ok hk (Nat.le_refl _), List.take_length, app_ok (by simp; omega) (by omega)]
    congr 1
    rw [putR_split e l k hk hx, List.append_assoc]
    congr 1
    by_cases h : k < l.length
    · rw [drop_eq_cons l k h, putR, if_neg (hnx h)]
      rfl
    · rw [List.drop_eq_nil_of_le (by omega)]; rfl
theorem putR_perm (e : Ev) : ∀ l : List Ev, (putR l e).Perm (e :: l)
  | [] => .refl _
  | x :: r => by
    unfold putR
    split
    · exact ((putR_perm e r).cons x).trans (.swap _ _ _)
    · exact .refl _
theorem putR_length (l : List Ev) (e : Ev) : (putR l e).length = l.length + 1 := (putR_perm e l).length_eq
theorem putR_sorted (e : Ev) : ∀ l : List Ev, l.Pairwise (fun x y => ltOf evCmp y x = false) → (putR l e).Pairwise (fun x y => ltOf evCmp y x = false)
  | [], _ => by simp [putR]
  | x :: r, h => by
    have h' := List.pairwise_cons.1 h
    unfold putR
    split
    · rename_i hc
      refine List.pairwise_cons.2 ⟨fun y hy => ?_, putR_sorted e r h'.2⟩
      rcases List.mem_cons.1 ((putR_perm e r).mem_iff.1 hy) with rfl | hy
      · have : ltOf evCmp x y = true := by simpa [ltOf] using hc
        cases h3 : ltOf evCmp y x with
        | false => rfl
        | true => have := evCmp_swo.trans _ _ _ h3 this; rw [evCmp_swo.irrefl] at this; cases this
      · exact h'.1 y hy
    · rename_i hc
      refine List.pairwise_cons.2 ⟨fun y hy => ?_, h⟩
      have hxe : ltOf evCmp x e = false := by simpa [ltOf] using hc
      rcases List.mem_cons.1 hy with rfl | hy
      · exact hxe
      · exact evCmp_swo.ntrans _ _ _ (h'.1 y hy) hxe
def sortedR : List Ev → List Ev → List Ev
  | out, [] => out
  | out, e :: r => sortedR (if e ∈ out then out else putR out e) r
theorem sortedR_props : ∀ (l out : List Ev), out.Nodup → out.Pairwise (fun x y => ltOf evCmp y x = false) → (∀ x, x ∈ sortedR out l ↔ x ∈ out ∨ x ∈ l) ∧ (sortedR out l).Nodup ∧ (sortedR out l).Pairwise (fun x y => ltOf evCmp y x = false)
  | [], out, hn, hs => ⟨fun x => by simp [sortedR], hn, hs⟩
  | e :: l, out, hn, hs => by
    unfold sortedR
    by_cases he : e ∈ out
    · rw [if_pos he]
      obtain ⟨i1, i2⟩ := sortedR_props l out hn hs
      refine ⟨fun x => ?_, i2⟩
      rw [i1, List.mem_cons]
      constructor
      · rintro (h | h); exact Or.inl h; exact Or.inr (Or.inr h)
      · rintro (h | rfl | h)
        · exact Or.inl h
        · exact Or.inl he
        · exact Or.inr h
    · rw [if_neg he]
      have hp := putR_perm e out
      obtain ⟨i1, i2⟩ := sortedR_props l (putR out e) (hp.symm.nodup (List.nodup_cons.2 ⟨he, hn⟩)) (putR_sorted e out hs)
      refine ⟨fun x => ?_, i2⟩
      rw [i1, hp.mem_iff, List.mem_cons, List.mem_cons]
      constructor
      · rintro ((h | h) | h)
        · exact Or.inr (Or.inl h)
        · exact Or.inl h
        · exact Or.inr (Or.inr h)
      · rintro (h | h | h)
        · exact Or.inl (Or.inr h)
        · exact Or.inl (Or.inl h)
        · exact Or.inr h
theorem sortedR_srt {l : List Ev} (h : DistI l) : sortedR [] l = srt l := by
  obtain ⟨h1, h2, h3⟩ := sortedR_props l [] (by simp) .nil
  exact srt_uniq h (fun x => by rw [h1]; simp) h2 h3
theorem p_rsorted_l1 (n : Nat) (l : List Ev) (hv : ∀ x ∈ l, fewV n x) (hn : l.length < n) : ∀ (m k : Nat) (out : List Ev), k ≤ l.length → l.length ≤ 100000 → l.length < m + k → out.length ≤ k → (∀ x ∈ out, x ∈ l) → F_tidegateref05_Sorted_l1 n l (fun k1_0_0y => some k1_0_0y) m (out, (k : Int)) = some (sortedR out (l.drop k))
  | 0, k, _, h1, h2, h3, _, _ => by omega
  | m + 1, k, out, h1, h2, h3, h4, hsub => by
    unfold F_tidegateref05_Sorted_l1
    simp only [List.length_map, cnd_if, cnd_not]
    by_cases h : k < l.length
    · rw [if_pos (by omega), idx_nat h, wrapS k (by omega)]
      rw [p_has n out (fun x hx => hv x (hsub x hx)) l[k] (by omega) (by omega), bnd_some, cnd_if]
      rw [drop_eq_cons l k h]
      conv => rhs; unfold sortedR
      by_cases he : l[k] ∈ out
      · rw [if_pos he, if_pos he]
        exact p_rsorted_l1 n l hv hn m (k + 1) out (by omega) h2 (by omega) (by omega) hsub
      · rw [if_neg he, if_neg he, idx_nat h, p_put n out l[k] (by omega) (by omega), bnd_some]
        refine p_rsorted_l1 n l hv hn m (k + 1) (putR out l[k]) (by omega) h2 (by omega) (by rw [putR_length]; omega) (fun x hx => ?_)
        rcases List.mem_cons.1 ((putR_perm l[k] out).mem_iff.1 hx) with rfl | hx
        · exact List.getElem_mem h
        · exact hsub x hx
    · rw [if_neg (by omega), List.drop_eq_nil_of_le (by omega)]; rfl
theorem p_rsorted (n : Nat) (l : List Ev) (hv : ∀ x ∈ l, fewV n x) (hn : l.length < n) (h2 : l.length ≤ 100000) : F_tidegateref05_Sorted n l = some (sortedR [] l) := by
  unfold F_tidegateref05_Sorted
  have := p_rsorted_l1 n l hv hn n 0 [] (by omega) h2 (by omega) (by simp) (by simp)
  simpa using this
def confB (l m : List Ev) : Bool := m.any fun e => l.any fun x => decide (idt x = idt e) && !decide (x = e)
theorem confB_iff (l m : List Ev) : confB l m = false ↔ ∀ e ∈ m, ∀ x ∈ l, idt x = idt e → x = e := by
  unfold confB
  simp only [List.any_eq_false, Bool.not_eq_true, Bool.and_eq_false_iff, decide_eq_false_iff_not, Bool.not_eq_false']
  constructor
  · intro h e he x hx hi
    rcases h e he x hx with h | h
    · exact absurd hi h
    · simpa using h
  · intro h e he x hx
    by_cases hi : idt x = idt e
    · exact Or.inr (by simpa using h e he x hx hi)
    · exact Or.inl hi
theorem p_rsort_l1 (n : Nat) (l : List Ev) (hv : ∀ x ∈ l, fewV n x) (hn : l.length < n) (K : Option (List Ev × Int)) : ∀ (m k : Nat), k ≤ l.length → l.length ≤ 1000000 → l.length < m + k → F_tidegateref05_Sort_l1 n l K m (k : Int) = if confB l (l.drop k) then some ([], 22) else K
  | 0, k, h1, h2, h3 => by omega
  | m + 1, k, h1, h2, h3 => by
    unfold F_tidegateref05_Sort_l1
    simp only [List.length_map, cnd_if, cnd_not]
    by_cases h : k < l.length
    · rw [if_pos (by omega), idx_nat h, wrapS k (by omega)]
      rw [p_conf n l hv l[k] hn h2, bnd_some, cnd_b]
      rw [drop_eq_cons l k h, p_rsort_l1 n l hv hn K m (k + 1) (by omega) h2 (by omega)]
      conv => rhs; unfold confB; rw [List.any_cons]
      generalize hq : (l.any fun x => decide (idt x = idt l[k]) && !decide (x = l[k])) = q
      cases q
      · simp only [Bool.false_eq_true, if_false, Bool.false_or]; rfl
      · simp
    · rw [if_neg (by omega), List.drop_eq_nil_of_le (by omega)]; simp [confB]
theorem p_rsort (n : Nat) (l : List Ev) (hv : ∀ x ∈ l, fewV n x) (hn : l.length < n) (h2 : l.length ≤ 100000) : F_tidegateref05_Sort n l = some (sortS l) := by
  unfold F_tidegateref05_Sort sortS
  have := p_rsort_l1 n l hv hn (bnd (F_tidegateref05_Sorted n l) fun x42 => some (x42, 0)) n 0 (by omega) (by omega) (by omega)
  simp only [Int.natCast_zero, List.drop_zero] at this
  simp only [p_list n l hn (by omega), bnd_some, cnd_not, cnd_if, this]
  by_cases h : allE l = 0
  · rw [if_pos h, if_neg (show ¬ allE l ≠ 0 by simp [h]), p_rsorted n l hv hn h2, bnd_some]
    by_cases hd : DistI l
    · have hc : confB l l = false := (confB_iff l l).2 (fun e he x hx hi => hd x hx e he hi)
      rw [hc, if_pos hd, sortedR_srt hd]
      simp
    · have hc : confB l l = true := by
        cases hb : confB l l with
        | true => rfl
        | false => exact absurd (fun x hx y hy hi => (confB_iff l l).1 hb y hy x hx hi) hd
      rw [hc, if_neg hd]
      simp
  · rw [if_neg h, if_pos h]
end Go.Proofs.YtimkhfaddnanhaaGreat.S05
namespace Go.Proofs.YtimkhfaddnanhaaGreat.S05
open Go.RowKit

theorem chk_zero : ∀ (l p : List Ev), chk p l = 0 → (∀ x ∈ l, placedB x = true) ∧ (∀ x ∈ l, ∀ y ∈ p, idt y ≠ idt x) ∧ l.Pairwise (fun x y => idt x ≠ idt y) ∧ (match p, l with | x :: _, y :: _ => evCmp x y < 0 | _, _ => True) ∧ l.Pairwise (fun x y => evCmp x y < 0)
  | [], p, _ => ⟨by simp, by simp, .nil, by cases p <;> trivial, .nil⟩
  | e :: l, p, h => by
    unfold chk at h
    by_cases hp : placedB e = false
    · rw [if_pos hp] at h; exact absurd h (by decide)
    rw [if_neg hp] at h
    generalize ho : headGe p e = b at h
    cases b with
    | true => rw [if_pos rfl] at h; exact absurd h (by decide)
    | false =>
      rw [if_neg (by decide)] at h
      by_cases hi : p.any (fun x => decide (idt x = idt e)) = true
      · rw [if_pos hi] at h; exact absurd h (by decide)
      rw [if_neg hi] at h
      obtain ⟨i1, i2, i3, i4, i5⟩ := chk_zero l (e :: p) h
      have hp' : placedB e = true := by simpa using hp
      have hi' : ∀ y ∈ p, idt y ≠ idt e := fun y hy => by
        simp only [Bool.not_eq_true, List.any_eq_false, decide_eq_true_eq] at hi
        exact hi y hy
      refine ⟨fun x hx => ?_, fun x hx y hy => ?_, List.pairwise_cons.2 ⟨fun y hy => i2 y hy e (by simp), i3⟩, ?_, List.pairwise_cons.2 ⟨fun y hy => ?_, i5⟩⟩
      · rcases List.mem_cons.1 hx with rfl | hx
        · exact hp'
        · exact i1 x hx
      · rcases List.mem_cons.1 hx with rfl | hx
        · exact hi' y hy
        · exact i2 x hx y (by simp [hy])
      · cases p with
        | nil => trivial
        | cons x p => simp only [headGe, decide_eq_false_iff_not] at ho; show evCmp x e < 0; omega
      · cases l with
        | nil => simp at hy
        | cons z l =>
          have hz : evCmp e z < 0 := i4
          rcases List.mem_cons.1 hy with rfl | hy
          · exact hz
          · have h2 := (List.pairwise_cons.1 i5).1 y hy
            have := evCmp_swo.trans e z y (by simpa [ltOf] using hz) (by simpa [ltOf] using h2)
            simpa [ltOf] using this
theorem chk_mk : ∀ (l p : List Ev), (∀ x ∈ l, placedB x = true) → (∀ x ∈ l, ∀ y ∈ p, idt y ≠ idt x) → l.Pairwise (fun x y => idt x ≠ idt y) → (match p, l with | x :: _, y :: _ => evCmp x y < 0 | _, _ => True) → l.Pairwise (fun x y => evCmp x y < 0) → chk p l = 0
  | [], p, _, _, _, _, _ => rfl
  | e :: l, p, h1, h2, h3, h4, h5 => by
    unfold chk
    rw [if_neg (by rw [h1 e (by simp)]; simp)]
    have h3' := List.pairwise_cons.1 h3
    have h5' := List.pairwise_cons.1 h5
    rw [if_neg (by
      cases p with
      | nil => simp [headGe]
      | cons x p => simp only [headGe, decide_eq_true_eq]; have h4 : evCmp x e < 0 := h4; omega)]
    rw [if_neg (by
      simp only [Bool.not_eq_true, List.any_eq_false, decide_eq_true_eq]
      exact fun y hy => h2 e (by simp) y hy)]
    refine chk_mk l (e :: p) (fun x hx => h1 x (by simp [hx])) (fun x hx y hy => ?_) h3'.2 ?_ h5'.2
    · rcases List.mem_cons.1 hy with rfl | hy
      · exact h3'.1 x hx
      · exact h2 x (by simp [hx]) y hy
    · cases l with
      | nil => trivial
      | cons z l => exact h5'.1 z (by simp)
theorem strChk_zero {l : List Ev} (h : strChk l = 0) : l.length ≤ 4096 ∧ (∀ x ∈ l, placedB x = true) ∧ l.Pairwise (fun x y => idt x ≠ idt y) ∧ l.Pairwise (fun x y => evCmp x y < 0) := by
  unfold strChk at h
  split at h
  · cases h
  · obtain ⟨h1, _, h3, _, h5⟩ := chk_zero l [] h
    exact ⟨by omega, h1, h3, h5⟩
theorem strChk_mk {l : List Ev} (h0 : l.length ≤ 4096) (h1 : ∀ x ∈ l, placedB x = true) (h3 : l.Pairwise (fun x y => idt x ≠ idt y)) (h5 : l.Pairwise (fun x y => evCmp x y < 0)) : strChk l = 0 := by
  unfold strChk
  rw [if_neg (by omega)]
  exact chk_mk l [] h1 (by simp) h3 (by trivial) h5
theorem stream_distI {l : List Ev} (h : l.Pairwise (fun x y => idt x ≠ idt y)) : DistI l ∧ l.Nodup := by
  refine ⟨fun x hx y hy hi => ?_, h.imp (fun h e => h (by rw [e]))⟩
  induction l with
  | nil => simp at hx
  | cons a l ih =>
    have h' := List.pairwise_cons.1 h
    rcases List.mem_cons.1 hx with hx | hx <;> rcases List.mem_cons.1 hy with hy | hy
    · rw [hx, hy]
    · exact absurd (hx ▸ hi) (h'.1 y hy)
    · exact absurd (hy ▸ hi.symm) (h'.1 x hx)
    · exact ih h'.2 hx hy
theorem stream_srt {l : List Ev} (h : strChk l = 0) : srt l = l := by
  obtain ⟨_, _, h3, h5⟩ := strChk_zero h
  obtain ⟨h1, h2⟩ := stream_distI h3
  refine (srt_uniq h1 (fun _ => Iff.rfl) h2 (h5.imp fun {x y} hxy => ?_)).symm
  have : ltOf evCmp x y = true := by simpa [ltOf] using hxy
  cases h3 : ltOf evCmp y x with
  | false => rfl
  | true => have := evCmp_swo.trans _ _ _ h3 this; rw [evCmp_swo.irrefl] at this; cases this
def sliceB (a b : Int) (x : Ev) : Bool := decide (a ≤ x.fTime) && decide (x.fTime ≤ b)
end Go.Proofs.YtimkhfaddnanhaaGreat.S05
namespace Go.Proofs.YtimkhfaddnanhaaGreat.S05
open Go.RowKit

theorem p_grow (n : Nat) (s : Nat) (h : s ≤ 1000000) : F_slices_Grow n (s : Int) = some [] := by
  have w0 : IntKind.wrap .i64 ((0 : Int) - 0) = 0 := by decide
  have w1 : IntKind.wrap .i64 ((s : Int) - 0) = (s : Int) := by rw [wrap_in _ (by omega)]; omega
  unfold F_slices_Grow
  simp only [cnd_if, w0, w1]
  rw [if_neg (by omega)]
  by_cases h0 : 0 < s
  · rw [if_pos (by omega)]
    unfold psx
    rw [if_pos (by omega), mak_ok (by omega) (by omega)]
    have := sls_ok (l := List.replicate s (⟨0, 0, 0, 0, []⟩ : T_api_Event)) (a := 0) (b := 0) (Nat.le_refl _) (Nat.zero_le _) (fun x2 => some x2)
    simpa using this
  · rw [if_neg (by omega)]
theorem idx_one {α β : Type} {x y : α} {l : List α} (k : α → Option β) : idx (x :: y :: l) 1 k = k y := by unfold idx; simp
theorem p_concat (n : Nat) (a b : List Ev) (hn : 3 ≤ n) (ha : a.length ≤ 100000) (hb : b.length ≤ 100000) : F_slices_Concat n [a, b] = some (a ++ b) := by
  obtain ⟨m, rfl⟩ : ∃ m, n = m + 3 := ⟨n - 3, by omega⟩
  have w0 : IntKind.wrap .i64 ((0 : Int) + 1) = 1 := by decide
  have w1 : IntKind.wrap .i64 ((1 : Int) + 1) = 2 := by decide
  have wa : IntKind.wrap .i64 ((0 : Int) + (a.length : Int)) = (a.length : Int) := by rw [wrap_in _ (by omega)]; omega
  have wb : IntKind.wrap .i64 ((a.length : Int) + (b.length : Int)) = ((a.length + b.length : Nat) : Int) := by rw [wrap_in _ (by omega)]; omega
  unfold F_slices_Concat
  simp only [F_slices_Concat_l1, List.length_map, List.length_cons, List.length_nil, cnd_if, idx_zero, idx_one, w0, w1, wa, wb]
  have c1 : ¬ ((a.length : Int) < 0) := by omega
  have c2 : ¬ (((a.length + b.length : Nat) : Int) < 0) := by omega
  rw [if_pos (by decide), if_neg c1, if_pos (by decide), if_neg c2, if_neg (by decide)]
  rw [p_grow _ _ (by omega), bndR_some]
  simp only [F_slices_Concat_l2, List.length_map, List.length_cons, List.length_nil, cnd_if, idx_zero, idx_one, w0, w1]
  rw [if_pos (by decide), app_ok (by simp; omega) (by omega), if_pos (by decide), app_ok (by simp; omega) (by omega), if_neg (by decide)]
  simp
def joinedS (a b : List Ev) : List Ev × Int := if DistI (a ++ b) then (if 4096 < (srt (a ++ b)).length then ([], 5) else (srt (a ++ b), 0)) else ([], 22)
theorem p_joined (n : Nat) (a b : List Ev) (hv : ∀ x ∈ a ++ b, fewV n x) (hn : a.length + b.length < n) (hn3 : 3 ≤ n) (ha : a.length ≤ 10000) (hb : b.length ≤ 10000) : F_stream_joined n a b = some (joinedS a b) := by
  unfold F_stream_joined joinedS
  rw [p_concat n a b hn3 (by omega) (by omega), bnd_some, p_sorted n (a ++ b) hv (by rw [List.length_append]; omega) (by rw [List.length_append]; omega), bnd_some]
  unfold sortedS
  by_cases h : DistI (a ++ b)
  · rw [if_pos h, if_pos h]
    simp only [Bool.not_true, cnd_f, List.length_map, cnd_if]
    by_cases h4 : 4096 < (srt (a ++ b)).length
    · rw [if_pos (by omega), if_pos h4]
    · rw [if_neg (by omega), if_neg h4]
  · rw [if_neg h, if_neg h]
    simp only [Bool.not_false, cnd_t]
theorem distI_append {a b : List Ev} (ha : DistI a) (hb : DistI b) : DistI (a ++ b) ↔ confB a b = false := by
  rw [confB_iff]
  constructor
  · intro h e he x hx hi
    exact h x (by simp [hx]) e (by simp [he]) hi
  · intro h x hx y hy hi
    simp only [List.mem_append] at hx hy
    rcases hx with hx | hx <;> rcases hy with hy | hy
    · exact ha x hx y hy hi
    · exact h y hy x hx hi
    · exact (h x hx y hy hi.symm).symm
    · exact hb x hx y hy hi
theorem stream_dist {l : List Ev} (h : strChk l = 0) : DistI l ∧ l.Nodup := stream_distI (strChk_zero h).2.2.1
def insS (l : List Ev) (e : Ev) : List Ev × Int := if strChk l ≠ 0 then ([], strChk l) else if placedB e = false then ([], 2) else joinedS l [e]
theorem p_insert (n : Nat) (l : List Ev) (e : Ev) (hv : ∀ x ∈ l ++ [e], fewV n x) (hn : l.length + 1 < n) (hn3 : 3 ≤ n) (ha : l.length ≤ 10000) : F_stream_Insert n l e = some (insS l e) := by
  unfold F_stream_Insert insS
  rw [p_chk n l (by omega) (by omega), bnd_some]
  simp only [cnd_not, cnd_if]
  by_cases h1 : strChk l = 0
  · rw [if_pos h1, if_neg (show ¬ strChk l ≠ 0 by simp [h1]), p_placed, bnd_some, cnd_b]
    by_cases h2 : placedB e = true
    · rw [if_pos h2, if_neg (show ¬ placedB e = false by rw [h2]; simp), p_joined n l [e] hv (by simpa using hn) hn3 ha (by simp), bnd_some]
    · rw [if_neg h2, if_pos (show placedB e = false by simpa using h2)]
  · rw [if_neg h1, if_pos h1]
theorem p_rinsert (n : Nat) (l : List Ev) (e : Ev) (hv : ∀ x ∈ l ++ [e], fewV n x) (hn : l.length + 1 < n) (ha : l.length ≤ 10000) : F_tidegateref05_Insert n l e = some (insS l e) := by
  unfold F_tidegateref05_Insert insS
  rw [p_rchk n l (by omega) (by omega), bnd_some]
  simp only [cnd_not, cnd_if]
  by_cases h1 : strChk l = 0
  · rw [if_pos h1, if_neg (show ¬ strChk l ≠ 0 by simp [h1]), p_rplaced, bnd_some, cnd_b]
    by_cases h2 : placedB e = true
    · rw [if_pos h2, if_neg (show ¬ placedB e = false by rw [h2]; simp)]
      have hvl : ∀ x ∈ l, fewV n x := fun x hx => hv x (by simp [hx])
      rw [p_conf n l hvl e (by omega) (by omega), bnd_some, p_has n l hvl e (by omega) (by omega), bnd_some]
      have hl := (strChk_zero h1).1
      obtain ⟨hd, hnd⟩ := stream_dist h1
      have hde : DistI [e] := fun x hx y hy _ => by simp at hx hy; rw [hx, hy]
      have hc1 : confB l [e] = (l.any fun x => decide (idt x = idt e) && !decide (x = e)) := by simp [confB]
      rw [← hc1]
      unfold joinedS
      by_cases hdd : DistI (l ++ [e])
      · rw [(distI_append hd hde).1 hdd, cnd_f, if_pos hdd]
        by_cases hm : e ∈ l
        · rw [cnd_if, if_pos hm]
          have e1 : srt (l ++ [e]) = l := by
            rw [← stream_srt h1]
            rw [stream_srt h1]
            refine (srt_congr hdd (l' := l) fun x => ?_).trans (stream_srt h1)
            simp only [List.mem_append, List.mem_singleton]
            exact ⟨fun h => h.elim id (fun h => h ▸ hm), Or.inl⟩
          rw [e1, if_neg (by omega)]
        · rw [cnd_if, if_neg hm]
          have hperm := putR_perm e l
          have hs : l.Pairwise (fun x y => ltOf evCmp y x = false) := by
            have := srt_sorted l
            rwa [stream_srt h1] at this
          have e1 : putR l e = srt (l ++ [e]) := srt_uniq hdd (fun x => by rw [hperm.mem_iff]; simp [or_comm]) (hperm.symm.nodup (List.nodup_cons.2 ⟨hm, hnd⟩)) (putR_sorted e l hs)
          have hlen : (srt (l ++ [e])).length = l.length + 1 := by rw [← e1]; exact putR_length l e
          try simp only [List.length_map]
          by_cases h4 : l.length = 4096
          · rw [if_pos (by omega), if_pos (by omega)]
          · rw [if_neg (by omega), if_neg (by omega), p_put n l e (by omega) (by omega), bnd_some, e1]
      · have hc : confB l [e] = true := by
          cases hb' : confB l [e] with
          | true => rfl
          | false => exact absurd ((distI_append hd hde).2 hb') hdd
        rw [hc, cnd_t, if_neg hdd]
    · rw [if_neg h2, if_pos (show placedB e = false by simpa using h2)]
  · rw [if_neg h1, if_pos h1]

end Go.Proofs.YtimkhfaddnanhaaGreat.S05
namespace Go.Proofs.YtimkhfaddnanhaaGreat
open Go.RowKit
open S05

def Bef (x y : Ev) : Prop := idt x ≠ idt y ∧ evCmp x y < 0
structure Strm (l : List Ev) : Prop where
  pl : ∀ x ∈ l, placedB x = true
  pw : l.Pairwise Bef
theorem Strm.chk {l : List Ev} (h : Strm l) (hl : l.length ≤ 4096) : strChk l = 0 := strChk_mk hl h.pl (h.pw.imp And.left) (h.pw.imp And.right)
theorem Strm.sub {l l' : List Ev} (h : Strm l) (hs : l'.Sublist l) : Strm l' := ⟨fun x hx => h.pl x (hs.subset hx), h.pw.sublist hs⟩
theorem Strm.dist {l : List Ev} (h : Strm l) : DistI l ∧ l.Nodup := stream_distI (h.pw.imp And.left)
theorem ev_tri {x y : Ev} (h1 : idt x ≠ idt y) (h2 : ltOf evCmp y x = false) : evCmp x y < 0 := by
  cases h : ltOf evCmp x y with
  | true => simpa [ltOf] using h
  | false => exact absurd (evCmp_tie h h2).1 h1
theorem Bef.not {x y : Ev} (h : Bef x y) : ltOf evCmp y x = false := by
  have : ltOf evCmp x y = true := by simpa [ltOf] using h.2
  cases h3 : ltOf evCmp y x with
  | false => rfl
  | true => have := evCmp_swo.trans _ _ _ h3 this; rw [evCmp_swo.irrefl] at this; cases this
theorem Bef.time {x y : Ev} (h : Bef x y) : x.fTime ≤ y.fTime := by
  have := (evCmp_lt x y).1 h.2
  omega
theorem mem_putR {w : List Ev} {e x : Ev} : x ∈ putR w e ↔ x = e ∨ x ∈ w := by rw [(putR_perm e w).mem_iff, List.mem_cons]
theorem Strm.put {w : List Ev} {e : Ev} (h : Strm w) (he : placedB e = true) (hi : ∀ x ∈ w, idt x ≠ idt e) : Strm (putR w e) := by
  refine ⟨fun x hx => ?_, ?_⟩
  · rcases mem_putR.1 hx with rfl | hx
    · exact he
    · exact h.pl x hx
  · have h1 : (putR w e).Pairwise (fun x y => idt x ≠ idt y) := by
      refine (List.Perm.pairwise_iff (fun {x y} hxy => Ne.symm hxy) (putR_perm e w)).2 (List.pairwise_cons.2 ⟨fun y hy => (hi y hy).symm, h.pw.imp And.left⟩)
    have h2 := putR_sorted e w (h.pw.imp Bef.not)
    exact (List.pairwise_and_iff.2 ⟨h1, h2⟩).imp fun hxy => ⟨hxy.1, ev_tri hxy.1 hxy.2⟩
theorem ins_new {w : List Ev} {e : Ev} (h : Strm w) (he : placedB e = true) (hi : ∀ x ∈ w, idt x ≠ idt e) (hl : w.length < 4096) : insS w e = (putR w e, 0) := by
  have hd : DistI (w ++ [e]) := fun x hx y hy hxy => by
    rcases List.mem_append.1 hx with hx | hx <;> rcases List.mem_append.1 hy with hy | hy
    · exact h.dist.1 x hx y hy hxy
    · rw [List.mem_singleton.1 hy] at hxy; exact absurd hxy (hi x hx)
    · rw [List.mem_singleton.1 hx] at hxy; exact absurd hxy.symm (hi y hy)
    · rw [List.mem_singleton.1 hx, List.mem_singleton.1 hy]
  have hp := h.put he hi
  have hs : putR w e = srt (w ++ [e]) := srt_uniq hd (fun x => by rw [mem_putR, List.mem_append, List.mem_singleton]; exact Or.comm) hp.dist.2 (hp.pw.imp Bef.not)
  unfold insS joinedS
  rw [if_neg (by rw [h.chk (by omega)]; simp), if_neg (by rw [he]; simp), if_pos hd, ← hs, putR_length, if_neg (by omega)]

def addS (l : List Trk) (w : List Ev) (m : T_api_Message) : List Trk × List Ev × Int :=
  if wCheck l ≠ 0 then ([], [], wCheck l) else if strChk w ≠ 0 then ([], [], strChk w) else
  if (stepT l m).2.2 ≠ 0 then ([], [], (stepT l m).2.2) else
  if (stepT l m).2.1 = false then ((stepT l m).1, w, 0) else
  if (insS w m.fEvent).2 ≠ 0 then ([], [], (insS w m.fEvent).2) else ((stepT l m).1, (insS w m.fEvent).1, 0)
def early (g : Int) (e : Ev) : Bool := decide (e.fTime ≤ g)
def relS (l : List Trk) (w : List Ev) : List Ev × List Ev × Int :=
  if wCheck l ≠ 0 then ([], [], wCheck l) else if strChk w ≠ 0 then ([], [], strChk w) else (w.takeWhile (early (leastOf l)), w.dropWhile (early (leastOf l)), 0)
def nxt (l : List Trk) (w : List Ev) (m : T_api_Message) : List Trk × List Ev := if (stepT l m).2.2 = 0 then ((stepT l m).1, if (stepT l m).2.1 = true then putR w m.fEvent else w) else (l, w)
def outS (s : List Trk × List Ev) : List Ev := s.2.takeWhile (early (leastOf s.1))
def rstS (s : List Trk × List Ev) : List Ev := s.2.dropWhile (early (leastOf s.1))
theorem out_rst (s : List Trk × List Ev) : outS s ++ rstS s = s.2 := List.takeWhile_append_dropWhile
theorem takeWhile_all {α : Type} (p : α → Bool) : ∀ (l : List α), ∀ x ∈ l.takeWhile p, p x = true
  | [], x, h => by simp at h
  | a :: l, x, h => by
    rw [List.takeWhile_cons] at h
    split at h
    · rename_i ha
      rcases List.mem_cons.1 h with rfl | h
      · exact ha
      · exact takeWhile_all p l x h
    · simp at h
theorem dropWhile_late (g : Int) : ∀ (l : List Ev), l.Pairwise Bef → ∀ x ∈ l.dropWhile (early g), g < x.fTime
  | [], _, x, h => by simp at h
  | a :: l, hp, x, h => by
    have hp' := List.pairwise_cons.1 hp
    rw [List.dropWhile_cons] at h
    split at h
    · exact dropWhile_late g l hp'.2 x h
    · rename_i ha
      have ha' : g < a.fTime := by simpa [early] using ha
      rcases List.mem_cons.1 h with rfl | h
      · exact ha'
      · have := (hp'.1 x h).time; omega
theorem take_none (g : Int) {l : List Ev} (h : ∀ x ∈ l, g < x.fTime) : l.takeWhile (early g) = [] ∧ l.dropWhile (early g) = l := by
  cases l with
  | nil => exact ⟨rfl, rfl⟩
  | cons a l =>
    have := h a (by simp)
    have e : early g a = false := by simp [early]; omega
    rw [List.takeWhile_cons, List.dropWhile_cons, e]
    exact ⟨rfl, rfl⟩

structure Inv (l : List Trk) (w R : List Ev) : Prop where
  ok : ∀ t ∈ l, TOk t
  len : l.length ≤ 8
  st : Strm (R ++ w)
  soon : ∀ e ∈ R, e.fTime ≤ leastOf l
  late : ∀ e ∈ w, leastOf l < e.fTime
  num : ∀ e ∈ R ++ w, ∃ h : e.fSource.toNat < l.length, Num l[e.fSource.toNat] e.fSeq
theorem placed_of {m : T_api_Message} (h : msgCheck m = 0) (h0 : m.fKind = 0) : placedB m.fEvent = true := by
  unfold msgCheck at h
  rw [if_pos h0] at h
  split at h
  · split at h
    · rename_i h2
      simp only [rng_iff] at h2
      unfold placedB
      simp only [Bool.and_eq_true, decide_eq_true_eq]
      omega
    · exact absurd h (by decide)
  · exact absurd h (by decide)
theorem idt_eq {x y : Ev} : idt x = idt y ↔ x.fSource = y.fSource ∧ x.fSeq = y.fSeq := by
  unfold idt
  exact ⟨fun h => ⟨(T_stream_identity.mk.injEq .. ▸ h).1, (T_stream_identity.mk.injEq .. ▸ h).2⟩, fun h => by rw [h.1, h.2]⟩
theorem step_fwd {l : List Trk} {m : T_api_Message} (ht : ∀ t ∈ l, TOk t) (h : (stepT l m).2.2 = 0) :
    (stepT l m).1.length = l.length ∧ leastOf l ≤ leastOf (stepT l m).1 ∧ (∀ (i : Nat) (hi : i < l.length) (hj : i < (stepT l m).1.length) x, Num l[i] x → Num (stepT l m).1[i] x) ∧
    ((stepT l m).2.1 = true → m.fKind = 0 ∧ placedB m.fEvent = true ∧ ∃ hs : m.fEvent.fSource.toNat < l.length, ¬ Num l[m.fEvent.fSource.toNat] m.fEvent.fSeq ∧ leastOf l < m.fEvent.fTime ∧ ∃ hs' : m.fEvent.fSource.toNat < (stepT l m).1.length, Num (stepT l m).1[m.fEvent.fSource.toNat] m.fEvent.fSeq) := by
  obtain ⟨h1, h2, hs, h3, h4, h5⟩ := stepT_ok l m ht h
  have hlen := (stepT_all l m ht h).2
  obtain ⟨hf, _, _⟩ := note_fwd _ m (ht _ (List.getElem_mem hs)) h1 h3
  have hnum : ∀ (i : Nat) (hi : i < l.length) (hj : i < (stepT l m).1.length), l[i].mark ≤ (stepT l m).1[i].mark ∧ ∀ x, Num l[i] x → Num (stepT l m).1[i] x := fun i hi hj => by
    have e : (stepT l m).1[i] = (l.set (srcOf m).toNat (noteT l[(srcOf m).toNat] m).1)[i]'(by simpa using hi) := by congr 1; rw [h4]
    rw [e, List.getElem_set]
    split
    · rename_i he
      subst he
      exact ⟨hf.mark, fun x hx => (hf.num x).2 (Or.inl hx)⟩
    · exact ⟨Int.le_refl _, fun x hx => hx⟩
  refine ⟨hlen, leastOf_mono _ _ hlen fun i hi hj => (hnum i hi hj).1, fun i hi hj => (hnum i hi hj).2, fun hf1 => ?_⟩
  have hn1 : (noteT l[(srcOf m).toNat] m).2.1 = true := by rw [h4] at hf1; exact hf1
  obtain ⟨k0, k1⟩ := (note_new _ m h1 h3).1 hn1
  have hsrc : srcOf m = m.fEvent.fSource := if_pos k0
  have hl := note_late _ m h1 hn1
  have hle := leastOf_le l _ hs
  have hs' : (srcOf m).toNat < (stepT l m).1.length := by omega
  have e : (stepT l m).1[(srcOf m).toNat] = (noteT l[(srcOf m).toNat] m).1 := by
    have e : (stepT l m).1[(srcOf m).toNat] = (l.set (srcOf m).toNat (noteT l[(srcOf m).toNat] m).1)[(srcOf m).toNat]'(by simpa using hs) := by congr 1; rw [h4]
    rw [e, List.getElem_set_self]
  have hn2 : Num (stepT l m).1[(srcOf m).toNat] m.fEvent.fSeq := by rw [e]; exact (hf.num _).2 (Or.inr ⟨k0, rfl⟩)
  refine ⟨k0, placed_of h1 k0, ?_⟩
  simp only [hsrc] at hs hs' k1 hn2 hl hle
  exact ⟨hs, k1, by omega, hs', hn2⟩
theorem Inv.step {l : List Trk} {w R : List Ev} (h : Inv l w R) (m : T_api_Message) (hl : w.length < 4000) :
    (addS l w m).2.2 = (stepT l m).2.2 ∧ ((stepT l m).2.2 = 0 → (addS l w m).1 = (stepT l m).1 ∧ (addS l w m).2.1 = if (stepT l m).2.1 = true then putR w m.fEvent else w) ∧
    ((stepT l m).2.2 = 0 → (stepT l m).2.1 = true → m.fKind = 0 ∧ placedB m.fEvent = true ∧ (∀ x ∈ R ++ w, idt x ≠ idt m.fEvent) ∧ leastOf l < m.fEvent.fTime) := by
  have hc : wCheck l = 0 := (wCheck_zero l).2 ⟨h.len, h.ok⟩
  have hw : Strm w := h.st.sub (List.sublist_append_right _ _)
  have key : (stepT l m).2.2 = 0 → (stepT l m).2.1 = true → m.fKind = 0 ∧ placedB m.fEvent = true ∧ (∀ x ∈ R ++ w, idt x ≠ idt m.fEvent) ∧ leastOf l < m.fEvent.fTime := fun h0 h1 => by
    obtain ⟨_, _, _, hf⟩ := step_fwd h.ok h0
    obtain ⟨k0, k1, hs, k2, k3, _⟩ := hf h1
    refine ⟨k0, k1, fun x hx he => ?_, k3⟩
    obtain ⟨hx1, hx2⟩ := h.num x hx
    obtain ⟨e1, e2⟩ := idt_eq.1 he
    simp only [e1, e2] at hx1 hx2
    exact k2 hx2
  unfold addS
  rw [if_neg (by rw [hc]; simp), if_neg (by rw [hw.chk (by omega)]; simp)]
  by_cases h0 : (stepT l m).2.2 = 0
  · rw [if_neg (by simpa using h0)]
    cases h1 : (stepT l m).2.1 with
    | false => rw [if_pos rfl]; exact ⟨h0.symm, fun _ => ⟨rfl, by simp⟩, fun _ h => (by cases h)⟩
    | true =>
      obtain ⟨k0, k1, k2, k3⟩ := key h0 h1
      have hi := ins_new hw k1 (fun x hx => k2 x (by simp [hx])) (by omega)
      rw [if_neg (by simp), hi]
      exact ⟨h0.symm, fun _ => ⟨rfl, by simp⟩, fun _ _ => ⟨k0, k1, k2, k3⟩⟩
  · rw [if_pos h0]
    exact ⟨rfl, fun h => absurd h h0, fun h => absurd h h0⟩
theorem Inv.nxtE {l : List Trk} {w R : List Ev} (h : Inv l w R) (m : T_api_Message) (hl : w.length < 4000) : nxt l w m = if (addS l w m).2.2 = 0 then ((addS l w m).1, (addS l w m).2.1) else (l, w) := by
  obtain ⟨s1, s2, _⟩ := h.step m hl
  unfold nxt
  rw [s1]
  by_cases h0 : (stepT l m).2.2 = 0
  · rw [if_pos h0, if_pos h0, (s2 h0).1, (s2 h0).2]
  · rw [if_neg h0, if_neg h0]
def news (l : List Trk) (m : T_api_Message) : List Ev := if (stepT l m).2.2 = 0 ∧ (stepT l m).2.1 = true then [m.fEvent] else []
theorem Inv.next {l : List Trk} {w R : List Ev} (h : Inv l w R) (m : T_api_Message) (hl : w.length < 4000) :
    Inv (nxt l w m).1 (rstS (nxt l w m)) (R ++ outS (nxt l w m)) ∧ (nxt l w m).1.length = l.length ∧ leastOf l ≤ leastOf (nxt l w m).1 ∧
    (nxt l w m).1 = (if (stepT l m).2.2 = 0 then (stepT l m).1 else l) ∧ (nxt l w m).2.length = w.length + (news l m).length ∧ ∀ e, e ∈ (nxt l w m).2 ↔ e ∈ w ∨ e ∈ news l m := by
  obtain ⟨s1, s2, s3⟩ := h.step m hl
  have hw : Strm w := h.st.sub (List.sublist_append_right _ _)
  unfold nxt news
  by_cases h0 : (stepT l m).2.2 = 0
  · obtain ⟨f1, f2, f3, f4⟩ := step_fwd h.ok h0
    have hok := (stepT_all l m h.ok h0).1
    rw [if_pos h0, if_pos h0]
    have fin : ∀ w' : List Ev, Strm (R ++ w') → (∀ e ∈ w', ∃ hx : e.fSource.toNat < (stepT l m).1.length, Num (stepT l m).1[e.fSource.toNat] e.fSeq) → Inv (stepT l m).1 (rstS ((stepT l m).1, w')) (R ++ outS ((stepT l m).1, w')) := fun w' hst hnum => by
      have hw' : Strm w' := hst.sub (List.sublist_append_right _ _)
      refine ⟨hok, by rw [f1]; exact h.len, by rw [List.append_assoc, out_rst]; exact hst, fun e he => ?_, dropWhile_late _ _ hw'.pw, fun e he => ?_⟩
      · rcases List.mem_append.1 he with he | he
        · have := h.soon e he; omega
        · have := takeWhile_all _ _ e he
          simpa [early] using this
      · rw [List.append_assoc, out_rst] at he
        rcases List.mem_append.1 he with he | he
        · obtain ⟨g1, g2⟩ := h.num e (by simp [he])
          exact ⟨by rw [f1]; exact g1, f3 _ g1 _ _ g2⟩
        · exact hnum e he
    have old : ∀ e ∈ w, ∃ hx : e.fSource.toNat < (stepT l m).1.length, Num (stepT l m).1[e.fSource.toNat] e.fSeq := fun e he => by
      obtain ⟨g1, g2⟩ := h.num e (by simp [he])
      exact ⟨by rw [f1]; exact g1, f3 _ g1 _ _ g2⟩
    cases h1 : (stepT l m).2.1 with
    | false =>
      rw [if_neg (by simp)]
      refine ⟨fin w h.st old, f1, f2, rfl, by simp, fun e => by simp⟩
    | true =>
      obtain ⟨k0, k1, k2, k3⟩ := s3 h0 h1
      obtain ⟨_, _, hs, _, _, hs', hn'⟩ := f4 h1
      rw [if_pos rfl, if_pos ⟨h0, rfl⟩]
      refine ⟨fin (putR w m.fEvent) ?_ (fun e he => ?_), f1, f2, rfl, by rw [putR_length]; rfl, fun e => by rw [mem_putR, List.mem_singleton]; exact Or.comm⟩
      · have hp := hw.put k1 (fun x hx => k2 x (by simp [hx]))
        refine ⟨fun x hx => ?_, List.pairwise_append.2 ⟨(List.pairwise_append.1 h.st.pw).1, hp.pw, fun x hx y hy => ?_⟩⟩
        · rcases List.mem_append.1 hx with hx | hx
          · exact h.st.pl x (by simp [hx])
          · exact hp.pl x hx
        · rcases mem_putR.1 hy with rfl | hy
          · refine ⟨k2 x (by simp [hx]), (evCmp_lt _ _).2 (Or.inl ?_)⟩
            have := h.soon x hx; omega
          · exact (List.pairwise_append.1 h.st.pw).2.2 x hx y hy
      · rcases mem_putR.1 he with rfl | he
        · exact ⟨hs', hn'⟩
        · exact old e he
  · rw [if_neg h0, if_neg h0]
    obtain ⟨t1, t2⟩ := take_none (leastOf l) h.late
    refine ⟨?_, rfl, Int.le_refl _, rfl, by rw [if_neg (fun h => h0 h.1)]; simp, fun e => by rw [if_neg (fun h => h0 h.1)]; simp⟩
    have e1 : outS (l, w) = [] := t1
    have e2 : rstS (l, w) = w := t2
    rw [e1, e2, List.append_nil]
    exact h

def relW : List Trk → List Ev → List T_api_Message → List Ev
  | _, _, [] => []
  | l, w, m :: r => outS (nxt l w m) ++ relW (nxt l w m).1 (rstS (nxt l w m)) r
def mksW : List Trk → List Ev → List T_api_Message → List Int
  | _, _, [] => []
  | l, w, m :: r => leastOf (nxt l w m).1 :: mksW (nxt l w m).1 (rstS (nxt l w m)) r
def pkW : List Trk → List Ev → Int → List T_api_Message → Int
  | _, _, p, [] => p
  | l, w, p, m :: r => pkW (nxt l w m).1 (rstS (nxt l w m)) (max p (rstS (nxt l w m)).length) r
def finW : List Trk → List Ev → List T_api_Message → List Trk × List Ev
  | l, w, [] => (l, w)
  | l, w, m :: r => finW (nxt l w m).1 (rstS (nxt l w m)) r
def newsW : List Trk → List T_api_Message → List Ev
  | _, [] => []
  | l, m :: r => news l m ++ newsW (if (stepT l m).2.2 = 0 then (stepT l m).1 else l) r
theorem relW_cons (l : List Trk) (w : List Ev) (m : T_api_Message) (r : List T_api_Message) : relW l w (m :: r) = outS (nxt l w m) ++ relW (nxt l w m).1 (rstS (nxt l w m)) r := rfl
theorem mksW_cons (l : List Trk) (w : List Ev) (m : T_api_Message) (r : List T_api_Message) : mksW l w (m :: r) = leastOf (nxt l w m).1 :: mksW (nxt l w m).1 (rstS (nxt l w m)) r := rfl
theorem mksW_len : ∀ (ms : List T_api_Message) (l : List Trk) (w : List Ev), (mksW l w ms).length = ms.length
  | [], _, _ => rfl
  | m :: r, l, w => by rw [mksW_cons, List.length_cons, mksW_len r, List.length_cons]
theorem news_len (l : List Trk) (m : T_api_Message) : (news l m).length ≤ 1 := by unfold news; split <;> simp
theorem Inv.run : ∀ (ms : List T_api_Message) (l : List Trk) (w R : List Ev), Inv l w R → w.length + ms.length < 4000 →
    Inv (finW l w ms).1 (finW l w ms).2 (R ++ relW l w ms) ∧ (finW l w ms).1.length = l.length ∧ (finW l w ms).1 = (runS l ms).1 ∧ leastOf l ≤ leastOf (finW l w ms).1 ∧
    (mksW l w ms).Pairwise (· ≤ ·) ∧ (∀ g ∈ mksW l w ms, leastOf l ≤ g) ∧ (∀ g, (mksW l w ms).getLast? = some g → g = leastOf (finW l w ms).1) ∧
    (∀ e, e ∈ relW l w ms ++ (finW l w ms).2 ↔ e ∈ w ∨ e ∈ newsW l ms) ∧ (relW l w ms).length + (finW l w ms).2.length = w.length + (newsW l ms).length ∧ (newsW l ms).length ≤ ms.length ∧
    (∀ p B : Int, p ≤ B → (w.length : Int) + (newsW l ms).length ≤ B → pkW l w p ms ≤ B)
  | [], l, w, R, h, hl => by
    refine ⟨by simpa [relW, finW] using h, rfl, rfl, Int.le_refl _, .nil, by simp [mksW], by simp [mksW], by simp [relW, finW, newsW], by simp [relW, finW, newsW], by simp [newsW], fun p B hp _ => hp⟩
  | m :: r, l, w, R, h, hl => by
    simp only [List.length_cons] at hl
    obtain ⟨n1, n2, n3, n4, n5, n6⟩ := h.next m (by omega)
    have hn := news_len l m
    have hor := congrArg List.length (out_rst (nxt l w m))
    rw [List.length_append] at hor
    obtain ⟨i1, i2, i3, i4, i5, i6, i7, i8, i9, i10, i11⟩ := Inv.run r _ _ _ n1 (by omega)
    have hrun : (runS l (m :: r)).1 = (runS (nxt l w m).1 r).1 := by
      rw [n4]
      split
      · rename_i h0; rw [runS_ok h0]
      · rename_i h0; rw [runS_err h0]
    have hnw : newsW l (m :: r) = news l m ++ newsW (nxt l w m).1 r := by rw [n4]; rfl
    rw [relW_cons, mksW_cons]
    simp only [finW]
    refine ⟨by rw [← List.append_assoc]; exact i1, by rw [i2, n2], by rw [hrun]; exact i3, Int.le_trans n3 i4, List.pairwise_cons.2 ⟨i6, i5⟩, fun g hg => ?_, fun g hg => ?_, fun e => ?_, ?_, ?_, fun p B hp hB => ?_⟩
    · rcases List.mem_cons.1 hg with rfl | hg
      · exact n3
      · exact Int.le_trans n3 (i6 g hg)
    · cases hm : mksW (nxt l w m).1 (rstS (nxt l w m)) r with
      | nil =>
        have hlen := mksW_len r (nxt l w m).1 (rstS (nxt l w m))
        rw [hm] at hlen hg
        have : r = [] := List.length_eq_zero_iff.1 hlen.symm
        subst this
        simpa [finW] using hg.symm
      | cons a b => rw [hm, List.getLast?_cons_cons] at hg; exact i7 g (by rw [hm]; exact hg)
    · rw [hnw, List.append_assoc, List.mem_append, i8 e, ← or_assoc, ← List.mem_append, out_rst, n6, List.mem_append, or_assoc]
    · rw [hnw, List.length_append, List.length_append]; omega
    · rw [hnw, List.length_append, List.length_cons]; omega
    · rw [hnw, List.length_append] at hB
      exact i11 _ B (by omega) (by omega)
end Go.Proofs.YtimkhfaddnanhaaGreat
