/- Chapter 36, plain: a message received (both), and that trackers stay well-formed. Chapter 36, plain: Receive, Begin and Run (both). Chapter 36, plain: the laws that compare, and that the program is awake. Chapter 36, plain: what one message does to a tracker; the laws Completes and Fills. Chapter 36, plain: the law Fills. Chapter 36, plain: the law Commutes. Chapter 47, plain: reading, replaying (both). Chapter 47, plain: routing (both), what is small, the examples. Chapter 47, plain: the laws Reads, Replays, Routes, Divides, Promises. -/
import Derived.Test.YtcbdhigllelmcaaGreatK12
set_option linter.unusedVariables false
set_option linter.unusedSimpArgs false
namespace Go.Proofs.YtcbdhigllelmcaaGreat
open Go.RowKit

theorem strip_props (a : Int) (l : List Int) (hs : l.Pairwise (· < ·)) (ha : ∀ b ∈ l, a ≤ b) :
    a ≤ (strip a l).1 ∧ ((strip a l).1 = a ∨ (strip a l).1 - 1 ∈ l) ∧ (∀ b ∈ (strip a l).2, b ∈ l) ∧ ((strip a l).1 :: (strip a l).2).Pairwise (· < ·) ∧ (strip a l).2.length ≤ l.length ∧ ∀ x, (x < (strip a l).1 ∨ x ∈ (strip a l).2) ↔ (x < a ∨ x ∈ l) := by
  induction l generalizing a with
  | nil => simp [strip]
  | cons b r ih =>
    have h' := List.pairwise_cons.1 hs
    unfold strip
    by_cases h : b = a
    · rw [if_pos h]
      obtain ⟨i1, i2, i3, i4, i5, i6⟩ := ih (a + 1) h'.2 (fun x hx => by have := h'.1 x hx; omega)
      refine ⟨by omega, Or.inr ?_, fun x hx => by simp [i3 x hx], i4, by simp; omega, fun x => ?_⟩
      · rcases i2 with i2 | i2
        · rw [i2, show a + 1 - 1 = b by omega]; simp
        · simp [i2]
      · rw [i6 x]
        simp only [List.mem_cons]
        constructor
        · rintro (h1 | h1)
          · by_cases hx : x = b
            · exact Or.inr (Or.inl hx)
            · exact Or.inl (by omega)
          · exact Or.inr (Or.inr h1)
        · rintro (h1 | h1 | h1)
          · exact Or.inl (by omega)
          · exact Or.inl (by omega)
          · exact Or.inr h1
    · rw [if_neg h]
      have hb := ha b (by simp)
      exact ⟨by omega, Or.inl rfl, fun x hx => hx, List.pairwise_cons.2 ⟨fun x hx => by
        rcases List.mem_cons.1 hx with rfl | hx
        · omega
        · have := h'.1 x hx; omega, hs⟩, by simp, fun x => Iff.rfl⟩
theorem insB_mem (l : List Int) (s x : Int) : x ∈ insB l s ↔ x = s ∨ x ∈ l := by
  have e : x ∈ l ↔ x ∈ l.take (cntB l s) ∨ x ∈ l.drop (cntB l s) := by
    rw [← List.mem_append, List.take_append_drop]
  rw [e]
  simp only [insB, List.mem_append, List.mem_cons]
  constructor
  · rintro (h | h | h)
    · exact Or.inr (Or.inl h)
    · exact Or.inl h
    · exact Or.inr (Or.inr h)
  · rintro (h | h | h)
    · exact Or.inr (Or.inl h)
    · exact Or.inl h
    · exact Or.inr (Or.inr h)
theorem insB_sorted (l : List Int) (s : Int) (hs : l.Pairwise (· < ·)) (hn : s ∉ l) : (insB l s).Pairwise (· < ·) := by
  have h1 : ∀ x ∈ l.take (cntB l s), x < s := fun x hx => by
    obtain ⟨k, hk, rfl⟩ := List.mem_iff_getElem.1 hx
    simp only [List.length_take] at hk
    rw [List.getElem_take]
    exact (cntB_lt l s hs k (by omega)).2 (by omega)
  have h2 : ∀ x ∈ l.drop (cntB l s), s < x := fun x hx => by
    have hxl := List.mem_of_mem_drop hx
    obtain ⟨k, hk, rfl⟩ := List.mem_iff_getElem.1 hx
    simp only [List.length_drop] at hk
    rw [List.getElem_drop]
    have := (cntB_lt l s hs (cntB l s + k) (by omega))
    have hne : l[cntB l s + k] ≠ s := fun e => hn (e ▸ List.getElem_mem _)
    omega
  unfold insB
  rw [List.pairwise_append]
  refine ⟨hs.sublist (List.take_sublist _ _), List.pairwise_cons.2 ⟨h2, hs.sublist (List.drop_sublist _ _)⟩, fun x hx y hy => ?_⟩
  rcases List.mem_cons.1 hy with rfl | hy
  · exact h1 x hx
  · have := h1 x hx; have := h2 y hy; omega
def Num (t : Trk) (x : Int) : Prop := x < t.next ∨ x ∈ t.beyond
theorem hasB_iff (t : Trk) (s : Int) (h0 : 0 ≤ s) : hasB t s = true ↔ Num t s := by
  unfold hasB Num
  by_cases h : s < t.next
  · simp [h, h0]
  · simp [h]
theorem withT_props (t : Trk) (s : Int) (hq : sqCheck t = 0) (h0 : 0 ≤ s) (hs : s ≤ 1099511627776) (hb : hasB t s = false) :
    (0 ≤ (withT t s).next ∧ (withT t s).next ≤ 1099511627777) ∧ (∀ b ∈ (withT t s).beyond, 0 ≤ b ∧ b ≤ 1099511627776) ∧ ((withT t s).next :: (withT t s).beyond).Pairwise (· < ·) ∧ (withT t s).beyond.length ≤ t.beyond.length + 1 ∧ t.next ≤ (withT t s).next ∧
      (∀ x, Num (withT t s) x ↔ x = s ∨ Num t x) ∧ (withT t s).points = t.points ∧ (withT t s).mark = t.mark := by
  obtain ⟨h1, h2, h3, h4⟩ := (sqCheck_zero t).1 hq
  obtain ⟨q1, q2⟩ := hasB_false t s h0 hb
  have h4' := List.pairwise_cons.1 h4
  unfold withT
  by_cases h : t.next < s
  · rw [if_pos h]
    refine ⟨h1, fun b hb => ?_, List.pairwise_cons.2 ⟨fun b hb => ?_, insB_sorted _ _ h4'.2 q2⟩, by rw [insB_len]; omega, Int.le_refl _, fun x => ?_, rfl, rfl⟩
    · rcases (insB_mem _ _ _).1 hb with rfl | hb
      · omega
      · exact h3 b hb
    · rcases (insB_mem _ _ _).1 hb with rfl | hb
      · exact h
      · exact h4'.1 b hb
    · unfold Num
      simp only [insB_mem]
      constructor
      · rintro (h | h | h)
        · exact Or.inr (Or.inl h)
        · exact Or.inl h
        · exact Or.inr (Or.inr h)
      · rintro (h | h | h)
        · exact Or.inr (Or.inl h)
        · exact Or.inl h
        · exact Or.inr (Or.inr h)
  · rw [if_neg h]
    obtain ⟨i1, i2, i3, i4, i5, i6⟩ := strip_props (t.next + 1) t.beyond h4'.2 (fun b hb => by have := h4'.1 b hb; omega)
    refine ⟨⟨by simp only; omega, ?_⟩, fun b hb => h3 b (i3 b hb), i4, by simp only; omega, by simp only; omega, fun x => ?_, rfl, rfl⟩
    · rcases i2 with i2 | i2
      · simp only; omega
      · have := h3 _ i2; simp only; omega
    · unfold Num
      rw [i6 x]
      constructor
      · rintro (h | h)
        · by_cases hx : x = s
          · exact Or.inl hx
          · exact Or.inr (Or.inl (by omega))
        · exact Or.inr (Or.inr h)
      · rintro (h | h | h)
        · exact Or.inl (by omega)
        · exact Or.inl (by omega)
        · exact Or.inr h
theorem withT_sq (t : Trk) (s : Int) (hq : sqCheck t = 0) (h0 : 0 ≤ s) (hs : s ≤ 1099511627776) (hb : hasB t s = false) (hl : (withT t s).beyond.length ≤ 256) : sqCheck (withT t s) = 0 := by
  obtain ⟨a, b, c, _⟩ := withT_props t s hq h0 hs hb
  exact (sqCheck_zero _).2 ⟨a, hl, b, c⟩
theorem latest_ge (mark : Int) (l : List Pt) (s : Int) : mark ≤ latest mark l s ∧ (∀ p ∈ l, p.seq ≤ s → p.time ≤ latest mark l s) ∧ (latest mark l s = mark ∨ ∃ p ∈ l, p.seq ≤ s ∧ latest mark l s = p.time) := by
  unfold latest
  have key : ∀ (l : List Pt) (a : Int), a ≤ l.foldl (fun m p => max m p.time) a ∧ (∀ p ∈ l, p.time ≤ l.foldl (fun m p => max m p.time) a) ∧ (l.foldl (fun m p => max m p.time) a = a ∨ ∃ p ∈ l, l.foldl (fun m p => max m p.time) a = p.time) := fun l => by
    induction l with
    | nil => intro a; simp
    | cons x r ih =>
      intro a
      obtain ⟨i1, i2, i3⟩ := ih (max a x.time)
      rw [List.foldl_cons]
      refine ⟨by omega, fun p hp => ?_, ?_⟩
      · rcases List.mem_cons.1 hp with rfl | hp
        · omega
        · exact i2 p hp
      · rcases i3 with i3 | ⟨p, hp, i3⟩
        · by_cases h : x.time ≤ a
          · exact Or.inl (by omega)
          · exact Or.inr ⟨x, by simp, by omega⟩
        · exact Or.inr ⟨p, by simp [hp], i3⟩
  obtain ⟨k1, k2, k3⟩ := key (l.filter fun p => decide (p.seq ≤ s)) mark
  refine ⟨k1, fun p hp h => k2 p (List.mem_filter.2 ⟨hp, by simpa using h⟩), ?_⟩
  rcases k3 with k3 | ⟨p, hp, k3⟩
  · exact Or.inl k3
  · obtain ⟨h1, h2⟩ := List.mem_filter.1 hp
    exact Or.inr ⟨p, h1, by simpa using h2, k3⟩
theorem settled_ok (u : Trk) (hq : sqCheck u = 0) (hm : -1 ≤ u.mark ∧ u.mark ≤ 1099511627776) (hl : u.points.length ≤ 256) (ho : ∀ p ∈ u.points, PtOk p) (ha : u.points.Pairwise Asc2) :
    settleT u = (settledR u, 0) ∧ TOk (settledR u) ∧ (∀ s τ, u.next ≤ s → (Forb (settledR u) s τ ↔ Forb u s τ)) ∧ u.mark ≤ (settledR u).mark := by
  obtain ⟨l1, l2, l3⟩ := latest_ge u.mark u.points u.next
  have hmk : -1 ≤ latest u.mark u.points u.next ∧ latest u.mark u.points u.next ≤ 1099511627776 := by
    refine ⟨by omega, ?_⟩
    rcases l3 with l3 | ⟨p, hp, _, l3⟩
    · omega
    · have := (ho p hp).2.2.2; omega
  have hasc : asc u ⟨-1, -1⟩ = 0 := by
    unfold asc
    rw [if_neg (by simpa using hq), if_neg (by omega), if_neg (by omega)]
    refine (ascLoop_zero _ _).2 ⟨ho, List.pairwise_cons.2 ⟨fun p hp => ?_, ha⟩⟩
    have := ho p hp
    unfold PtOk at this
    unfold Asc2
    simp only
    omega
  refine ⟨by unfold settleT; rw [if_neg (by simpa using hasc)]; rfl, ⟨?_, hmk, ?_, ?_, ?_⟩, fun s τ hs => ?_, l1⟩
  · have : sqCheck (settledR u) = sqCheck u := rfl
    rw [this]; exact hq
  · have := List.length_filter_le (fun p => decide (u.next < p.seq) && decide (latest u.mark u.points u.next < p.time)) u.points
    show (List.filter _ u.points).length ≤ 256
    omega
  · intro p hp
    exact ho p (List.mem_filter.1 hp).1
  · refine List.pairwise_cons.2 ⟨fun p hp => ?_, ha.filter _⟩
    have := (List.mem_filter.1 hp).2
    simp only [Bool.and_eq_true, decide_eq_true_eq] at this
    exact this
  · unfold Forb
    constructor
    · rintro (h | ⟨p, hp, h⟩)
      · have h : τ ≤ latest u.mark u.points u.next := h
        rcases l3 with l3 | ⟨q, hq, h3, l3⟩
        · exact Or.inl (by omega)
        · exact Or.inr ⟨q, hq, by omega, by omega⟩
      · exact Or.inr ⟨p, (List.mem_filter.1 hp).1, h⟩
    · rintro (h | ⟨p, hp, h1, h2⟩)
      · exact Or.inl (by show τ ≤ latest u.mark u.points u.next; omega)
      · by_cases h3 : u.next < p.seq ∧ latest u.mark u.points u.next < p.time
        · exact Or.inr ⟨p, List.mem_filter.2 ⟨hp, by simpa using h3⟩, h1, h2⟩
        · left
          show τ ≤ latest u.mark u.points u.next
          by_cases h4 : u.next < p.seq
          · omega
          · have := l2 p hp (by omega); omega

def noteT (t : Trk) (m : T_api_Message) : Trk × Bool × Int :=
  if m.fKind = 1 then ((addT t ⟨m.fSeq, m.fTime⟩).1, false, (addT t ⟨m.fSeq, m.fTime⟩).2) else
  if hasB t m.fEvent.fSeq = true then (t, false, 0) else
  if latest t.mark t.points m.fEvent.fSeq < m.fEvent.fTime then
    (if 256 < (withT t m.fEvent.fSeq).beyond.length then (zeroT, false, 5) else (settledR (withT t m.fEvent.fSeq), true, 0))
  else (zeroT, false, 19)
def stepT (l : List Trk) (m : T_api_Message) : List Trk × Bool × Int :=
  if msgCheck m ≠ 0 then ([], false, msgCheck m) else if (l.length : Int) ≤ srcOf m then ([], false, 32) else
  if (noteT (l.getD (srcOf m).toNat zeroT) m).2.2 ≠ 0 then ([], false, (noteT (l.getD (srcOf m).toNat zeroT) m).2.2) else
  (l.set (srcOf m).toNat (noteT (l.getD (srcOf m).toNat zeroT) m).1, (noteT (l.getD (srcOf m).toNat zeroT) m).2.1, 0)
theorem rng_iff (a b : Int) : rng a b = true ↔ 0 ≤ a ∧ a ≤ b := by simp [rng]
theorem msg_ok (m : T_api_Message) (h : msgCheck m = 0) : (m.fKind = 0 ∨ m.fKind = 1) ∧ 0 ≤ srcOf m ∧ srcOf m ≤ 7 ∧
    (m.fKind = 0 → 0 ≤ m.fEvent.fSeq ∧ m.fEvent.fSeq ≤ 1099511627776 ∧ 0 ≤ m.fEvent.fTime ∧ m.fEvent.fTime ≤ 1099511627776) ∧ (m.fKind = 1 → ptValid ⟨m.fSeq, m.fTime⟩ = true) := by
  unfold msgCheck at h
  unfold srcOf
  split at h
  · rename_i h0
    split at h
    · split at h
      · rename_i h2
        simp only [rng_iff] at h2
        rw [if_pos h0]
        exact ⟨Or.inl h0, by omega, by omega, fun _ => by omega, fun h1 => by omega⟩
      · omega
    · omega
  · rename_i h0
    split at h
    · rename_i h1
      split at h
      · split at h
        · rename_i h2
          rw [rng_iff] at h2
          rw [if_neg h0]
          exact ⟨Or.inr h1, by omega, by omega, fun h3 => absurd h3 h0, fun _ => h2.2⟩
        · omega
      · omega
    · omega
theorem event_new (t : Trk) (s : Int) (ht : TOk t) (h0 : 0 ≤ s) (hs : s ≤ 1099511627776) (hb : hasB t s = false) (hl : (withT t s).beyond.length ≤ 256) :
    settleT (withT t s) = (settledR (withT t s), 0) ∧ TOk (settledR (withT t s)) ∧ (∀ s' τ, (withT t s).next ≤ s' → (Forb (settledR (withT t s)) s' τ ↔ Forb t s' τ)) ∧ t.mark ≤ (settledR (withT t s)).mark := by
  have hq := withT_sq t s ht.sq h0 hs hb hl
  obtain ⟨_, _, _, _, _, _, hp, hm⟩ := withT_props t s ht.sq h0 hs hb
  have := settled_ok (withT t s) hq (by rw [hm]; exact ht.mark) (by rw [hp]; exact ht.len) (by rw [hp]; exact ht.ok) (by rw [hp]; exact (List.pairwise_cons.1 ht.asc).2)
  have hf : ∀ s' τ, Forb (withT t s) s' τ ↔ Forb t s' τ := fun s' τ => by unfold Forb; rw [hp, hm]
  refine ⟨this.1, this.2.1, fun s' τ h => (this.2.2.1 s' τ h).trans (hf s' τ), by rw [← hm]; exact this.2.2.2⟩
theorem noteT_ok (t : Trk) (m : T_api_Message) (ht : TOk t) (hm : msgCheck m = 0) (h : (noteT t m).2.2 = 0) : TOk (noteT t m).1 := by
  obtain ⟨k1, k2, k3, k4, k5⟩ := msg_ok m hm
  unfold noteT at h ⊢
  split
  · rename_i h1
    rw [if_pos h1] at h
    exact (added t _ h).2.2.ok
  · rename_i h1
    rw [if_neg h1] at h
    obtain ⟨e1, e2, e3, e4⟩ := k4 (by omega)
    split
    · exact ht
    · rename_i h2
      rw [if_neg h2] at h
      split
      · rename_i h3
        rw [if_pos h3] at h
        split
        · rename_i h4
          rw [if_pos h4] at h
          exact absurd h (by simp)
        · rename_i h4
          exact (event_new t _ ht e1 e2 (by simpa using h2) (by omega)).2.1
      · rename_i h3
        rw [if_neg h3] at h
        exact absurd h (by simp)
theorem p_recvE (n : Nat) (t : Trk) (m : T_api_Message) (ht : TOk t) (hm : msgCheck m = 0) (hk : m.fKind = 0) (hn : 1000 ≤ n) : ∃ r, F_watermark_receiveEvent n t m = some r ∧ r.2 = (noteT t m).2 ∧ (r.2.2 = 0 → r.1 = (noteT t m).1) := by
  obtain ⟨k1, k2, k3, k4, k5⟩ := msg_ok m hm
  obtain ⟨e1, e2, e3, e4⟩ := k4 hk
  obtain ⟨h1, h2, h3, h4⟩ := (sqCheck_zero t).1 ht.sq
  have hlp := ht.len
  unfold F_watermark_receiveEvent F_sequence_Has noteT
  rw [p_sqCheck n t (by omega) (by omega), bnd_some, ht.sq]
  simp only [cnd_not, cnd_if]
  rw [if_pos trivial, p_has n t _ (List.pairwise_cons.1 h4).2 (by omega) (by omega), bnd_some, bnd_some]
  simp only
  rw [if_pos trivial, if_neg (by omega)]
  cases hb : hasB t m.fEvent.fSeq with
  | true => rw [cnd_t, if_pos rfl]; exact ⟨_, rfl, rfl, fun _ => rfl⟩
  | false =>
    rw [cnd_f, if_neg (by simp)]
    obtain ⟨q1, q2⟩ := hasB_false t _ e1 hb
    unfold F_puAllows
    rw [if_pos (by omega), bnd_some]
    have ha : allowsT t m.fEvent.fSeq m.fEvent.fTime = (decide (latest t.mark t.points m.fEvent.fSeq < m.fEvent.fTime), 0) := by
      unfold allowsT
      rw [if_neg (by simp [(puCheck_zero t).2 ht]), if_neg (by omega), if_neg]
      rintro (h | h)
      · omega
      · rw [List.contains_iff_mem] at h; exact q2 h
    rw [ha]
    simp only
    rw [if_pos trivial, cnd_if]
    by_cases hlt : latest t.mark t.points m.fEvent.fSeq < m.fEvent.fTime
    · rw [if_pos hlt, if_pos hlt, p_recv n t _ (by omega) (by omega) hn, bnd_some]
      have hr : recvT t m.fEvent.fSeq = if 256 < (withT t m.fEvent.fSeq).beyond.length then (zeroT, false, 5) else (withT t m.fEvent.fSeq, true, 0) := by
        unfold recvT
        rw [if_neg (by simp [ht.sq]), if_neg (by omega), if_neg (by simp [hb])]
      rw [hr]
      by_cases h5 : 256 < (withT t m.fEvent.fSeq).beyond.length
      · rw [if_pos h5, if_pos h5]
        exact ⟨_, rfl, rfl, fun h => absurd h (by simp)⟩
      · rw [if_neg h5, if_neg h5]
        obtain ⟨s1, s2, s3, s4⟩ := event_new t _ ht e1 e2 hb (by omega)
        obtain ⟨_, _, _, _, _, _, hp, _⟩ := withT_props t _ ht.sq e1 e2 hb
        simp only
        rw [if_pos trivial]
        unfold F_puSettle
        rw [if_pos ⟨by omega, by rw [hp]; omega⟩, bnd_some, s1]
        exact ⟨_, rfl, rfl, fun _ => rfl⟩
    · rw [if_neg hlt, if_neg hlt]
      exact ⟨_, rfl, rfl, fun h => absurd h (by simp)⟩
theorem p_note (n : Nat) (t : Trk) (m : T_api_Message) (ht : TOk t) (hm : msgCheck m = 0) (hn : 1000 ≤ n) : ∃ r, F_tidegateref36_Note n t m = some r ∧ r.2 = (noteT t m).2 ∧ (r.2.2 = 0 → r.1 = (noteT t m).1) := by
  obtain ⟨k1, k2, k3, k4, k5⟩ := msg_ok m hm
  obtain ⟨h1, h2, h3, h4⟩ := (sqCheck_zero t).1 ht.sq
  have hlp := ht.len
  unfold F_tidegateref36_Note noteT
  rw [cnd_if]
  by_cases hk : m.fKind = 1
  · rw [if_pos hk, if_pos hk]
    unfold F_rpuAdd
    rw [if_pos (by omega), bnd_some, addR_eq]
    exact ⟨_, rfl, rfl, fun _ => rfl⟩
  · obtain ⟨e1, e2, e3, e4⟩ := k4 (by omega)
    rw [if_neg hk, if_neg hk, p_contains n t _ (by omega) (by omega), bnd_some]
    cases hb : hasB t m.fEvent.fSeq with
    | true => rw [cnd_t, if_pos rfl]; exact ⟨_, rfl, rfl, fun _ => rfl⟩
    | false =>
      rw [cnd_f, if_neg (by simp)]
      obtain ⟨q1, q2⟩ := hasB_false t _ e1 hb
      unfold F_puAllows
      rw [if_pos (by omega), bnd_some]
      have ha : allowsT t m.fEvent.fSeq m.fEvent.fTime = (decide (latest t.mark t.points m.fEvent.fSeq < m.fEvent.fTime), 0) := by
        unfold allowsT
        rw [if_neg (by simp [(puCheck_zero t).2 ht]), if_neg (by omega), if_neg]
        rintro (h | h)
        · omega
        · rw [List.contains_iff_mem] at h; exact q2 h
      rw [ha]
      simp only [cnd_not, cnd_if]
      by_cases hlt : latest t.mark t.points m.fEvent.fSeq < m.fEvent.fTime
      · rw [if_pos hlt, if_pos hlt, p_rrecv n t _ (by omega) hn, bnd_some]
        have hr : recvT t m.fEvent.fSeq = if 256 < (withT t m.fEvent.fSeq).beyond.length then (zeroT, false, 5) else (withT t m.fEvent.fSeq, true, 0) := by
          unfold recvT
          rw [if_neg (by simp [ht.sq]), if_neg (by omega), if_neg (by simp [hb])]
        rw [hr]
        by_cases h5 : 256 < (withT t m.fEvent.fSeq).beyond.length
        · rw [if_pos h5, if_pos h5]
          exact ⟨_, rfl, rfl, fun h => absurd h (by simp)⟩
        · rw [if_neg h5, if_neg h5]
          obtain ⟨_, _, _, _, _, _, hp, _⟩ := withT_props t _ ht.sq e1 e2 hb
          simp only
          rw [if_pos trivial, p_settled n _ (by rw [hp]; omega) (by rw [hp]; omega), bnd_some]
          exact ⟨_, rfl, rfl, fun _ => rfl⟩
      · rw [if_neg hlt, if_neg hlt]
        exact ⟨_, rfl, rfl, fun h => absurd h (by simp)⟩
theorem p_receive (n : Nat) (l : List Trk) (m : T_api_Message) (hl : l.length ≤ 1000) (ht : ∀ t ∈ l, TOk t) (hn : 1000 ≤ n) : F_watermark_receive n l m = some (stepT l m) := by
  unfold F_watermark_receive stepT
  rw [p_checkM, bnd_some]
  simp only [cnd_not, cnd_if, List.length_map]
  by_cases hm : msgCheck m = 0
  · have hw : ¬ msgCheck m ≠ 0 := by simpa using hm
    rw [if_pos hm, if_neg hw]
    obtain ⟨k1, k2, k3, k4, k5⟩ := msg_ok m hm
    have fin : ∀ (F : Option (Trk × Bool × Int)) (h : (srcOf m).toNat < l.length), (∃ r, F = some r ∧ r.2 = (noteT l[(srcOf m).toNat] m).2 ∧ (r.2.2 = 0 → r.1 = (noteT l[(srcOf m).toNat] m).1)) →
        (bnd F fun x4 => if x4.2.2 = 0 then bndR (F_clone n l) fun x5 => nat (srcOf m) x5.length fun x6 => stx x5 x6 (fun x7 => x4.1) fun x8 => some (x8, x4.2.1, 0) else some (([] : List Trk), false, x4.2.2)) =
        some (if (noteT (l.getD (srcOf m).toNat zeroT) m).2.2 ≠ 0 then ([], false, (noteT (l.getD (srcOf m).toNat zeroT) m).2.2) else (l.set (srcOf m).toNat (noteT (l.getD (srcOf m).toNat zeroT) m).1, (noteT (l.getD (srcOf m).toNat zeroT) m).2.1, 0)) := fun F h ⟨r, e, r1, r2⟩ => by
      have hg : l.getD (srcOf m).toNat zeroT = l[(srcOf m).toNat] := by simp [List.getElem?_eq_getElem h]
      rw [e, bnd_some, hg]
      have r3 : r.2.2 = (noteT l[(srcOf m).toNat] m).2.2 := by rw [r1]
      by_cases h0 : r.2.2 = 0
      · rw [if_pos h0, if_neg (by rw [← r3]; simpa using h0)]
        unfold F_clone
        rw [if_pos (by omega), bndR_some, nat_int k2 h, stx_ok h, r2 h0, r1]
      · rw [if_neg h0, if_pos (by rw [← r3]; exact h0), r3]
    by_cases hk : m.fKind = 0
    · have hs : srcOf m = m.fEvent.fSource := if_pos hk
      rw [if_pos hk]
      unfold F_watermark_kinds_1
      rw [bnd_some, ← hs]
      by_cases h5 : (l.length : Int) ≤ srcOf m
      · rw [if_pos h5, if_pos h5]
      · have h6 : (srcOf m).toNat < l.length := by omega
        rw [if_neg h5, if_neg h5, idx_int k2 h6]
        exact fin _ h6 (p_recvE n _ m (ht _ (List.getElem_mem h6)) hm hk hn)
    · have hk1 : m.fKind = 1 := by omega
      have hs : srcOf m = m.fSource := if_neg hk
      rw [if_neg hk, if_pos hk1]
      unfold F_watermark_kinds_2
      rw [bnd_some, ← hs]
      by_cases h5 : (l.length : Int) ≤ srcOf m
      · rw [if_pos h5, if_pos h5]
      · have h6 : (srcOf m).toNat < l.length := by omega
        rw [if_neg h5, if_neg h5, idx_int k2 h6]
        refine fin _ h6 ?_
        have hto := ht _ (List.getElem_mem h6)
        obtain ⟨q1, q2, q3, q4⟩ := (sqCheck_zero _).1 hto.sq
        have hlp := hto.len
        unfold F_watermark_receivePoint F_puAdd noteT
        rw [if_pos (by omega), bnd_some, if_pos hk1]
        exact ⟨_, rfl, rfl, fun _ => rfl⟩
  · rw [if_neg hm, if_pos hm]
end Go.Proofs.YtcbdhigllelmcaaGreat
namespace Go.Proofs.YtcbdhigllelmcaaGreat
open Go.RowKit

def recvAll (l : List Trk) (m : T_api_Message) : List Trk × Bool × Int := if wCheck l ≠ 0 then ([], false, wCheck l) else stepT l m
theorem stepT_ok (l : List Trk) (m : T_api_Message) (ht : ∀ t ∈ l, TOk t) (h : (stepT l m).2.2 = 0) :
    msgCheck m = 0 ∧ 0 ≤ srcOf m ∧ ∃ hs : (srcOf m).toNat < l.length, (noteT l[(srcOf m).toNat] m).2.2 = 0 ∧ stepT l m = (l.set (srcOf m).toNat (noteT l[(srcOf m).toNat] m).1, (noteT l[(srcOf m).toNat] m).2.1, 0) ∧ TOk (noteT l[(srcOf m).toNat] m).1 := by
  unfold stepT at h ⊢
  by_cases h1 : msgCheck m ≠ 0
  · rw [if_pos h1] at h; exact absurd h h1
  · rw [if_neg h1] at h ⊢
    by_cases h2 : (l.length : Int) ≤ srcOf m
    · rw [if_pos h2] at h; exact absurd h (by simp)
    · rw [if_neg h2] at h ⊢
      have hm : msgCheck m = 0 := by omega
      obtain ⟨k1, k2, k3, _⟩ := msg_ok m hm
      have hs : (srcOf m).toNat < l.length := by omega
      have hg : l.getD (srcOf m).toNat zeroT = l[(srcOf m).toNat] := by simp [List.getElem?_eq_getElem hs]
      rw [hg] at h ⊢
      by_cases h3 : (noteT l[(srcOf m).toNat] m).2.2 ≠ 0
      · rw [if_pos h3] at h; exact absurd h h3
      · rw [if_neg h3]
        have h4 : (noteT l[(srcOf m).toNat] m).2.2 = 0 := by omega
        exact ⟨hm, k2, hs, h4, rfl, noteT_ok _ m (ht _ (List.getElem_mem hs)) hm h4⟩
theorem stepT_err (l : List Trk) (m : T_api_Message) (h : (stepT l m).2.2 ≠ 0) : stepT l m = ([], false, (stepT l m).2.2) := by
  unfold stepT at h ⊢
  split
  · rfl
  · rename_i h1
    rw [if_neg h1] at h
    split
    · rfl
    · rename_i h2
      rw [if_neg h2] at h
      split
      · rfl
      · rename_i h3
        rw [if_neg h3] at h
        exact absurd rfl h
theorem set_mem {α : Type} {P : α → Prop} {l : List α} {i : Nat} {x : α} (h : ∀ t ∈ l, P t) (hx : P x) : ∀ t ∈ l.set i x, P t := fun t ht => by
  rcases List.mem_or_eq_of_mem_set ht with h1 | h1
  · exact h t h1
  · rw [h1]; exact hx
theorem stepT_all (l : List Trk) (m : T_api_Message) (ht : ∀ t ∈ l, TOk t) (h : (stepT l m).2.2 = 0) : (∀ t ∈ (stepT l m).1, TOk t) ∧ (stepT l m).1.length = l.length := by
  obtain ⟨_, _, hs, _, e, ho⟩ := stepT_ok l m ht h
  rw [e]
  exact ⟨set_mem ht ho, by simp⟩
theorem p_Receive_l1 (n : Nat) (x : List Trk × Bool × Int) (K : Bool → List Trk → Option (List Trk × Bool × Int)) (hl : x.1.length ≤ 1000) (ht : ∀ t ∈ x.1, TOk t) : ∀ (m k : Nat), k ≤ x.1.length → x.1.length < m + k → F_watermark_Receive_l1 n x K m ((k : Int), x.1) = K x.2.1 x.1
  | 0, k, h1, h2 => by omega
  | m + 1, k, h1, h2 => by
    rw [F_watermark_Receive_l1]
    simp only [List.length_map, cnd_if]
    by_cases h : k < x.1.length
    · have h0 := ht _ (List.getElem_mem h)
      have hb := ((sqCheck_zero _).1 h0.sq).2.1
      have hp := h0.len
      have e : ∀ (y : Trk), y = x.1[k] → x.1.set k y = x.1 := fun y hy => by rw [hy]; exact List.set_getElem_self h
      rw [if_pos (by omega), nat_nat h, ltx_ok h, elt_ok h]
      simp only [F_clone]
      rw [if_pos (by omega), bnd_some, nat_nat h, ltx_ok h, elt_ok h, if_pos (by omega), bnd_some, nat_nat h, ltx_ok h, stx_ok h, e _ rfl, nat_nat h, ltx_ok h, stx_ok h, e _ rfl, wrapS k (by omega)]
      exact p_Receive_l1 n x K hl ht m (k + 1) (by omega) (by omega)
    · rw [if_neg (by omega)]
theorem p_Receive (n : Nat) (l : List Trk) (m : T_api_Message) (hn : 1000 ≤ n) : F_watermark_Receive n l m = some (recvAll l m) := by
  unfold F_watermark_Receive recvAll
  rw [p_check n l (by omega), bnd_some]
  simp only [cnd_not, cnd_if]
  by_cases h : wCheck l = 0
  · have hw : ¬ wCheck l ≠ 0 := by simpa using h
    obtain ⟨hl, ht⟩ := (wCheck_zero l).1 h
    rw [if_pos h, if_neg hw, p_receive n l m (by omega) ht hn, bndR_some]
    by_cases h2 : (stepT l m).2.2 = 0
    · obtain ⟨ha, hb⟩ := stepT_all l m ht h2
      rw [if_pos h2]
      have := p_Receive_l1 n (stepT l m) (fun y z => some (z, y, 0)) (by omega) ha n 0 (by omega) (by omega)
      simp only [Int.natCast_zero] at this
      rw [this, ← h2]
    · rw [if_neg h2, ← stepT_err l m h2]
  · have hw : wCheck l ≠ 0 := h
    rw [if_neg h, if_pos hw]
def t0 : Trk := ⟨0, [], [], -1⟩
def runS : List Trk → List T_api_Message → List Trk × List Bool
  | l, [] => (l, [])
  | l, m :: r => if (stepT l m).2.2 = 0 then ((runS (stepT l m).1 r).1, (stepT l m).2.1 :: (runS (stepT l m).1 r).2) else ((runS l r).1, false :: (runS l r).2)
theorem runS_ok {l : List Trk} {m : T_api_Message} {r : List T_api_Message} (h : (stepT l m).2.2 = 0) : runS l (m :: r) = ((runS (stepT l m).1 r).1, (stepT l m).2.1 :: (runS (stepT l m).1 r).2) := by
  rw [runS, if_pos h]
theorem runS_err {l : List Trk} {m : T_api_Message} {r : List T_api_Message} (h : ¬ (stepT l m).2.2 = 0) : runS l (m :: r) = ((runS l r).1, false :: (runS l r).2) := by
  rw [runS, if_neg h]
end Go.Proofs.YtcbdhigllelmcaaGreat
namespace Go.Proofs.YtcbdhigllelmcaaGreat
open Go.RowKit

end Go.Proofs.YtcbdhigllelmcaaGreat
namespace Go.Proofs.YtcbdhigllelmcaaGreat
open Go.RowKit

structure Fwd (t u : Trk) (S : Int → Prop) (Q : Pt → Prop) : Prop where
  num : ∀ x, Num u x ↔ Num t x ∨ S x
  next : t.next ≤ u.next
  mark : t.mark ≤ u.mark
  forb : ∀ s τ, u.next ≤ s → (Forb u s τ ↔ Forb t s τ ∨ ∃ p, Q p ∧ p.seq ≤ s ∧ τ ≤ p.time)
def evOf (m : T_api_Message) (x : Int) : Prop := m.fKind = 0 ∧ x = m.fEvent.fSeq
def ptOf (m : T_api_Message) (p : Pt) : Prop := m.fKind = 1 ∧ p = ⟨m.fSeq, m.fTime⟩
theorem note_fwd (t : Trk) (m : T_api_Message) (ht : TOk t) (hm : msgCheck m = 0) (h : (noteT t m).2.2 = 0) :
    Fwd t (noteT t m).1 (evOf m) (ptOf m) ∧ (noteT t m).1.beyond.length ≤ t.beyond.length + 1 ∧ (noteT t m).1.points.length ≤ t.points.length + 1 := by
  obtain ⟨k1, k2, k3, k4, k5⟩ := msg_ok m hm
  unfold noteT at h ⊢
  by_cases h1 : m.fKind = 1
  · rw [if_pos h1] at h ⊢
    obtain ⟨_, _, ad⟩ := added t _ h
    refine ⟨⟨fun x => ?_, by rw [ad.next]; exact Int.le_refl _, ad.mark, fun s τ hs => ?_⟩, by rw [ad.beyond]; omega, ad.len⟩
    · unfold Num evOf
      rw [ad.next, ad.beyond]
      exact ⟨Or.inl, fun h => h.elim id fun h => by omega⟩
    · rw [ad.forb s τ (by rw [ad.next] at hs; exact hs)]
      unfold ptOf
      constructor
      · rintro (h | h)
        · exact Or.inl h
        · exact Or.inr ⟨_, ⟨h1, rfl⟩, h⟩
      · rintro (h | ⟨p, ⟨_, rfl⟩, h⟩)
        · exact Or.inl h
        · exact Or.inr h
  · rw [if_neg h1] at h ⊢
    have hk : m.fKind = 0 := by omega
    obtain ⟨e1, e2, e3, e4⟩ := k4 hk
    have none : ∀ s τ, ¬ ∃ p, ptOf m p ∧ p.seq ≤ s ∧ τ ≤ p.time := fun s τ ⟨p, hp, _⟩ => h1 hp.1
    by_cases hb : hasB t m.fEvent.fSeq = true
    · rw [if_pos hb] at h ⊢
      refine ⟨⟨fun x => ?_, Int.le_refl _, Int.le_refl _, fun s τ _ => ?_⟩, by simp only; omega, by simp only; omega⟩
      · constructor
        · exact Or.inl
        · rintro (h | ⟨_, rfl⟩)
          · exact h
          · exact (hasB_iff t _ e1).1 hb
      · exact ⟨Or.inl, fun h => h.elim id fun h => absurd h (none s τ)⟩
    · rw [if_neg hb] at h ⊢
      by_cases h3 : latest t.mark t.points m.fEvent.fSeq < m.fEvent.fTime
      · rw [if_pos h3] at h ⊢
        by_cases h4 : 256 < (withT t m.fEvent.fSeq).beyond.length
        · rw [if_pos h4] at h; exact absurd h (by simp)
        · rw [if_neg h4]
          obtain ⟨s1, s2, s3, s4⟩ := event_new t _ ht e1 e2 (by simpa using hb) (by omega)
          obtain ⟨w1, w2, w3, w4, w5, w6, w7, w8⟩ := withT_props t _ ht.sq e1 e2 (by simpa using hb)
          refine ⟨⟨fun x => ?_, w5, s4, fun s τ hs => ?_⟩, w4, ?_⟩
          · have : Num (settledR (withT t m.fEvent.fSeq)) x ↔ Num (withT t m.fEvent.fSeq) x := Iff.rfl
            rw [this, w6 x]
            unfold evOf
            constructor
            · rintro (h | h)
              · exact Or.inr ⟨hk, h⟩
              · exact Or.inl h
            · rintro (h | h)
              · exact Or.inr h
              · exact Or.inl h.2
          · rw [s3 s τ hs]
            exact ⟨Or.inl, fun h => h.elim id fun h => absurd h (none s τ)⟩
          · have := List.length_filter_le (fun p => decide ((withT t m.fEvent.fSeq).next < p.seq) && decide (latest (withT t m.fEvent.fSeq).mark (withT t m.fEvent.fSeq).points (withT t m.fEvent.fSeq).next < p.time)) (withT t m.fEvent.fSeq).points
            show (List.filter _ (withT t m.fEvent.fSeq).points).length ≤ _
            rw [w7] at this ⊢
            omega
      · rw [if_neg h3] at h; exact absurd h (by simp)
theorem note_late (t : Trk) (m : T_api_Message) (hm : msgCheck m = 0) (h : (noteT t m).2.1 = true) : t.mark < m.fEvent.fTime := by
  unfold noteT at h
  by_cases h1 : m.fKind = 1
  · rw [if_pos h1] at h; exact absurd h (by simp)
  · rw [if_neg h1] at h
    by_cases hb : hasB t m.fEvent.fSeq = true
    · rw [if_pos hb] at h; exact absurd h (by simp)
    · rw [if_neg hb] at h
      by_cases h3 : latest t.mark t.points m.fEvent.fSeq < m.fEvent.fTime
      · have := (latest_ge t.mark t.points m.fEvent.fSeq).1
        omega
      · rw [if_neg h3] at h; exact absurd h (by simp)

theorem later (g : Int) : ∀ (ms : List T_api_Message) (l : List Trk), (∀ t ∈ l, TOk t) → (∀ t ∈ l, g ≤ t.mark) → ∀ i (hi : i < ms.length) (hj : i < (runS l ms).2.length), (runS l ms).2[i] = true → g < ms[i].fEvent.fTime
  | [], l, ht, hg, i, hi, hj, h => absurd hi (by simp)
  | m :: r, l, ht, hg, i, hi, hj, h => by
    by_cases he : (stepT l m).2.2 = 0
    · obtain ⟨hm, k2, hs, h4, e, ho⟩ := stepT_ok l m ht he
      obtain ⟨a1, a2⟩ := stepT_all l m ht he
      have hg2 : ∀ t ∈ (stepT l m).1, g ≤ t.mark := fun t h => by
        rw [e] at h
        have := (note_fwd _ m (ht _ (List.getElem_mem hs)) hm h4).1.mark
        exact set_mem (P := fun t => g ≤ t.mark) hg (by have := hg _ (List.getElem_mem hs); omega) t h
      cases i with
      | zero =>
        simp only [runS_ok he, List.getElem_cons_zero] at h ⊢
        rw [e] at h
        have := note_late _ m hm h
        have := hg _ (List.getElem_mem hs)
        omega
      | succ i =>
        simp only [runS_ok he, List.getElem_cons_succ] at h ⊢
        exact later g r _ a1 hg2 i (by simpa using hi) (by simp only [runS_ok he] at hj; simpa using hj) h
    · cases i with
      | zero =>
        simp only [runS_err he, List.getElem_cons_zero] at h
        exact absurd h (by simp)
      | succ i =>
        simp only [runS_err he, List.getElem_cons_succ] at h ⊢
        exact later g r l ht hg i (by simpa using hi) (by simp only [runS_err he] at hj; simpa using hj) h
end Go.Proofs.YtcbdhigllelmcaaGreat
namespace Go.Proofs.YtcbdhigllelmcaaGreat
open Go.RowKit

structure Fill (l0 l : List Trk) (i : Nat) (hi : i < l0.length) (S : Int → Prop) : Prop where
  ok : ∀ t ∈ l, TOk t
  len : l.length = l0.length
  fwd : ∀ h : i < l.length, Fwd l0[i] l[i] S (fun _ => False)
end Go.Proofs.YtcbdhigllelmcaaGreat
namespace Go.Proofs.YtcbdhigllelmcaaGreat
open Go.RowKit

structure Hon (k : Nat) (H : T_api_Message → Prop) : Prop where
  ok : ∀ m, H m → msgCheck m = 0
  src : ∀ m, H m → srcOf m < (k : Int)
  fit : ∀ a b, H a → H b → srcOf a = srcOf b → a.fKind = 0 → b.fKind = 1 → ¬ (b.fSeq ≤ a.fEvent.fSeq ∧ a.fEvent.fTime ≤ b.fTime)
def Evs (d : List T_api_Message) (i : Int) (x : Int) : Prop := ∃ m ∈ d, srcOf m = i ∧ evOf m x
def PtsM (d : List T_api_Message) (i : Int) (p : Pt) : Prop := ∃ m ∈ d, srcOf m = i ∧ ptOf m p
structure Got (k : Nat) (l : List Trk) (d : List T_api_Message) : Prop where
  len : l.length = k
  ok : ∀ t ∈ l, TOk t
  fwd : ∀ i (h : i < l.length), Fwd t0 l[i] (Evs d (i : Int)) (PtsM d (i : Int))
  bl : ∀ t ∈ l, t.beyond.length ≤ d.length
  pl : ∀ t ∈ l, t.points.length ≤ d.length
end Go.Proofs.YtcbdhigllelmcaaGreat
namespace Go.Proofs.YtcbdhigllelmcaaGreat
open Go.RowKit

abbrev Rd := T_api_Reader
abbrev Ms := T_api_Message
def zeroR : Rd := ⟨0, 0, ⟨0, [], [], 0⟩⟩
def zeroE : Ev47 := ⟨0, 0, 0, 0, []⟩
def rdErr (r : Rd) : Int := if r.fSource < 0 ∨ 8 ≤ r.fSource then 32 else if r.fOffset < 0 ∨ 4096 < r.fOffset then 30 else puCheck r.fTracker
theorem p_rdCheck (n : Nat) (r : Rd) : F_reader_Check n r = some (rdErr r) := by
  unfold F_reader_Check F_puCheck rdErr
  simp only [cnd_if, bnd_some]
  (repeat' split) <;> first | rfl | (exfalso; omega)
theorem p_rrdCheck (n : Nat) (r : Rd) : F_tidegateref47_Check n r = some (rdErr r) := by
  unfold F_tidegateref47_Check F_puCheck rdErr
  simp only [cnd_if, bnd_some]
  (repeat' split) <;> first | rfl | (exfalso; omega)
structure ROk (r : Rd) : Prop where
  s : 0 ≤ r.fSource ∧ r.fSource ≤ 7
  o : 0 ≤ r.fOffset ∧ r.fOffset ≤ 4096
  t : TOk r.fTracker
theorem rdErr_zero (r : Rd) : rdErr r = 0 ↔ ROk r := by
  unfold rdErr
  constructor
  · intro h
    by_cases h1 : r.fSource < 0 ∨ 8 ≤ r.fSource
    · rw [if_pos h1] at h; exact absurd h (by decide)
    · rw [if_neg h1] at h
      by_cases h2 : r.fOffset < 0 ∨ 4096 < r.fOffset
      · rw [if_pos h2] at h; exact absurd h (by decide)
      · rw [if_neg h2] at h
        exact ⟨by omega, by omega, (puCheck_zero _).1 h⟩
  · intro h
    obtain ⟨h1, h2, h3⟩ := h
    rw [if_neg (by omega), if_neg (by omega)]
    exact (puCheck_zero _).2 h3
def beginR (s : Int) : Rd × Int := if s < 0 ∨ 8 ≤ s then (zeroR, 32) else (⟨s, 0, t0⟩, 0)
theorem p_beginR (n : Nat) (s : Int) : F_reader_Begin n s = some (beginR s) := by
  unfold F_reader_Begin F_sequence_Begin beginR
  simp only [cnd_if, bnd_some]
  (repeat' split) <;> first | rfl | (exfalso; omega)
def refuse (l : List Sch) (r : Rd) (m : Ms) : Prop := msgCheck m ≠ 0 ∨ srcOf m ≠ r.fSource ∨ (m.fKind = 0 ∧ evErr l m.fEvent ≠ 0) ∨ (noteT r.fTracker m).2.2 ≠ 0
instance (l : List Sch) (r : Rd) (m : Ms) : Decidable (refuse l r m) := by unfold refuse; infer_instance
def itemsOf (t u : Trk) (fresh : Bool) (e : Ev47) : List It := (if fresh = true then [⟨0, e, 0⟩] else []) ++ (if t.mark < u.mark then [⟨1, zeroE, u.mark⟩] else [])
def nextS (l : List Sch) (r : Rd) (m : Ms) : Rd × List It :=
  if refuse l r m then (⟨r.fSource, r.fOffset + 1, r.fTracker⟩, []) else
  (⟨r.fSource, r.fOffset + 1, (noteT r.fTracker m).1⟩, itemsOf r.fTracker (noteT r.fTracker m).1 (noteT r.fTracker m).2.1 m.fEvent)
theorem p_acc_l1 (n : Nat) (m : Ms) (r : Rd) (x : List Trk) (K : List Trk → Option (Trk × Bool × Bool)) (hl : x.length ≤ 1000) : ∀ (f k : Nat), k ≤ x.length → x.length < f + k → F_reader_accept_l1 n m r x K f ((k : Int), List.replicate k t0 ++ x.drop k) = K (List.replicate x.length t0)
  | 0, k, h1, h2 => by omega
  | f + 1, k, h1, h2 => by
    rw [F_reader_accept_l1]
    simp only [List.length_map, cnd_if]
    by_cases h : k < x.length
    · have hk : k < (List.replicate k t0 ++ x.drop k).length := by simp; omega
      rw [if_pos (by omega), show F_sequence_Begin n = some t0 from rfl, bnd_some, nat_nat hk, stx_ok hk, wrapS k (by omega)]
      have e : (List.replicate k t0 ++ x.drop k).set k t0 = List.replicate (k + 1) t0 ++ x.drop (k + 1) := by
        rw [dropK_cons h, List.set_append_right _ _ (by simp), List.length_replicate, Nat.sub_self, List.set_cons_zero, List.replicate_succ', List.append_assoc]
        rfl
      rw [e]
      exact p_acc_l1 n m r x K hl f (k + 1) (by omega) (by omega)
    · have : k = x.length := by omega
      rw [if_neg (by omega), this, List.drop_eq_nil_of_le (Nat.le_refl _), List.append_nil]
theorem p_acc_l2 (n : Nat) (m : Ms) (r : Rd) (x : List Trk) (K : List Trk → Option (Trk × Bool × Bool)) (hl : x.length ≤ 1000) : ∀ (f k : Nat), k ≤ x.length → x.length < f + k → F_reader_accept_l2 n m r x K f ((k : Int), List.replicate k t0 ++ x.drop k) = K (List.replicate x.length t0)
  | 0, k, h1, h2 => by omega
  | f + 1, k, h1, h2 => by
    rw [F_reader_accept_l2]
    simp only [List.length_map, cnd_if]
    by_cases h : k < x.length
    · have hk : k < (List.replicate k t0 ++ x.drop k).length := by simp; omega
      rw [if_pos (by omega), show F_sequence_Begin n = some t0 from rfl, bnd_some, nat_nat hk, stx_ok hk, wrapS k (by omega)]
      have e : (List.replicate k t0 ++ x.drop k).set k t0 = List.replicate (k + 1) t0 ++ x.drop (k + 1) := by
        rw [dropK_cons h, List.set_append_right _ _ (by simp), List.length_replicate, Nat.sub_self, List.set_cons_zero, List.replicate_succ', List.append_assoc]
        rfl
      rw [e]
      exact p_acc_l2 n m r x K hl f (k + 1) (by omega) (by omega)
    · have : k = x.length := by omega
      rw [if_neg (by omega), this, List.drop_eq_nil_of_le (Nat.le_refl _), List.append_nil]
theorem t0_ok : TOk t0 := (puCheck_zero _).1 (by decide)
theorem acc_tail (n : Nat) (r : Rd) (m : Ms) (hr : ROk r) (hm : msgCheck m = 0) (hs : srcOf m = r.fSource) (hn : 1000 ≤ n) (j : Nat) (hj : (j : Int) = r.fSource + 1) :
    (nat r.fSource (List.map aTrk (List.replicate j t0)).length fun x46 => stx (List.replicate j t0) x46 (fun x47 => r.fTracker) fun x48 =>
    frz 41 <| reg <| bnd (F_watermark_Receive n x48 m) fun x49 =>
    cnd (!decide (x49.2.2 = 0)) (some (r.fTracker, false, false)) <| idx x49.1 r.fSource fun x50 => some (x50, x49.2.1, true)) =
    some (if (noteT r.fTracker m).2.2 ≠ 0 then (r.fTracker, false, false) else ((noteT r.fTracker m).1, (noteT r.fTracker m).2.1, true)) := by
  obtain ⟨i, hi⟩ : ∃ i : Nat, r.fSource = (i : Int) := ⟨r.fSource.toNat, by have := hr.s; omega⟩
  have hj' : j = i + 1 := by omega
  subst hj'
  have hs7 := hr.s
  rw [hi, nat_nat (by simp), stx_ok (by simp), frz_eq, reg_eq, p_Receive n _ m hn, bnd_some]
  have hok : wCheck ((List.replicate (i + 1) t0).set i r.fTracker) = 0 := (wCheck_zero _).2 ⟨by simp; omega, fun t ht => by
    rcases List.mem_or_eq_of_mem_set ht with h | h
    · rw [List.eq_of_mem_replicate h]; exact t0_ok
    · rw [h]; exact hr.t⟩
  have hget : ((List.replicate (i + 1) t0).set i r.fTracker).getD i zeroT = r.fTracker := by
    rw [List.getD_eq_getElem?_getD, List.getElem?_set_self (by simp)]; rfl
  have hrec : recvAll ((List.replicate (i + 1) t0).set i r.fTracker) m = stepT ((List.replicate (i + 1) t0).set i r.fTracker) m := if_neg (by simpa using hok)
  rw [hrec]
  unfold stepT
  rw [if_neg (by simpa using hm), hs, hi, if_neg (by simp; omega), Int.toNat_natCast, hget]
  by_cases h : (noteT r.fTracker m).2.2 = 0
  · rw [if_nne h, if_nne h]
    simp only [cnd_not, decide_true, cnd_t]
    rw [idx_nat (by simp)]
    simp
  · rw [if_pos h, if_pos h]
    simp only [cnd_not, cnd_if]
    rw [if_neg h]
theorem p_accept (n : Nat) (l : List Sch) (r : Rd) (m : Ms) (hr : ROk r) (ha : allErr l = 0) (hv : m.fEvent.fValues.length ≤ 12) (hn : 1000 ≤ n) :
    F_reader_accept n l r m = some (if refuse l r m then (r.fTracker, false, false) else ((noteT r.fTracker m).1, (noteT r.fTracker m).2.1, true)) := by
  unfold F_reader_accept F_reader_origin
  simp only [cnd_not, cnd_if, p_checkM, bnd_some]
  have hs7 := hr.s
  have hj : r.fSource + 1 = (((r.fSource + 1).toNat : Nat) : Int) := by omega
  by_cases h1 : msgCheck m = 0
  · rw [if_pos h1]
    have e : (if m.fKind = 0 then some m.fEvent.fSource else some m.fSource) = some (srcOf m) := by unfold srcOf; split <;> rfl
    rw [e, bnd_some]
    by_cases h2 : srcOf m = r.fSource
    · rw [if_pos h2]
      by_cases h3 : m.fKind = 0
      · rw [if_pos h3, p_evCheck n l m.fEvent (by omega) (by omega) (by omega) ha, bnd_some]
        by_cases h4 : evErr l m.fEvent = 0
        · rw [if_pos h4, wrap_in (r.fSource + 1) (by omega), hj, mak_ok (by omega) (by omega)]
          have := p_acc_l1 n m r (List.replicate (r.fSource + 1).toNat (⟨0, [], [], 0⟩ : Trk)) (fun y => nat r.fSource (List.map aTrk y).length fun x46 => stx y x46 (fun x47 => r.fTracker) fun x48 =>
            frz 41 <| reg <| bnd (F_watermark_Receive n x48 m) fun x49 => cnd (!decide (x49.2.2 = 0)) (some (r.fTracker, false, false)) <| idx x49.1 r.fSource fun x50 => some (x50, x49.2.1, true)) (by simp; omega) n 0 (by omega) (by simp; omega)
          simp only [Int.natCast_zero, List.replicate_zero, List.nil_append, List.drop_zero, List.length_replicate] at this
          simp only [cnd_not, cnd_if] at this ⊢
          rw [this]
          have ht := acc_tail n r m hr h1 h2 hn _ hj.symm
          simp only [cnd_not, cnd_if] at ht
          rw [ht]
          by_cases h5 : (noteT r.fTracker m).2.2 = 0
          · rw [if_nne h5, if_neg (show ¬ refuse l r m by unfold refuse; simp [h1, h2, h4, h5])]
          · rw [if_pos h5, if_pos (show refuse l r m from Or.inr (Or.inr (Or.inr h5)))]
        · rw [if_neg h4, if_pos (show refuse l r m from Or.inr (Or.inr (Or.inl ⟨h3, h4⟩)))]
      · rw [if_neg h3, wrap_in (r.fSource + 1) (by omega), hj, mak_ok (by omega) (by omega)]
        have := p_acc_l2 n m r (List.replicate (r.fSource + 1).toNat (⟨0, [], [], 0⟩ : Trk)) (fun y => nat r.fSource (List.map aTrk y).length fun x46 => stx y x46 (fun x47 => r.fTracker) fun x48 =>
          frz 41 <| reg <| bnd (F_watermark_Receive n x48 m) fun x49 => cnd (!decide (x49.2.2 = 0)) (some (r.fTracker, false, false)) <| idx x49.1 r.fSource fun x50 => some (x50, x49.2.1, true)) (by simp; omega) n 0 (by omega) (by simp; omega)
        simp only [Int.natCast_zero, List.replicate_zero, List.nil_append, List.drop_zero, List.length_replicate] at this
        simp only [cnd_not, cnd_if] at this ⊢
        rw [this]
        have ht := acc_tail n r m hr h1 h2 hn _ hj.symm
        simp only [cnd_not, cnd_if] at ht
        rw [ht]
        by_cases h5 : (noteT r.fTracker m).2.2 = 0
        · rw [if_nne h5, if_neg (show ¬ refuse l r m by unfold refuse; simp [h1, h2, h3, h5])]
        · rw [if_pos h5, if_pos (show refuse l r m from Or.inr (Or.inr (Or.inr h5)))]
    · rw [if_neg h2, if_pos (show refuse l r m from Or.inr (Or.inl h2))]
  · rw [if_neg h1, if_pos (show refuse l r m from Or.inl h1)]
theorem items_tail (t u : Trk) (b : Bool) (e : Ev47) (f : List It → Option (Rd × List It)) :
    cnd b (app ([] : List It) ([⟨0, e, 0⟩]) 72 fun x2 => if t.mark < u.mark then app x2 ([⟨1, ⟨0, 0, 0, 0, []⟩, u.mark⟩]) 72 f else f x2) (if t.mark < u.mark then app ([] : List It) ([⟨1, ⟨0, 0, 0, 0, []⟩, u.mark⟩]) 72 f else f []) = f (itemsOf t u b e) := by
  unfold itemsOf
  cases b with
  | true =>
    rw [cnd_t, app_ok (by simp) (by omega), if_pos rfl]
    by_cases h : t.mark < u.mark
    · rw [if_pos h, if_pos h, app_ok (by simp) (by omega)]; rfl
    · rw [if_neg h, if_neg h]; rfl
  | false =>
    rw [cnd_f, if_neg (show ¬ (false = true) by decide)]
    by_cases h : t.mark < u.mark
    · rw [if_pos h, if_pos h, app_ok (by simp) (by omega)]; rfl
    · rw [if_neg h, if_neg h]; rfl
theorem p_read1 (n : Nat) (l : List Sch) (r : Rd) (m : Ms) (hr : ROk r) (ha : allErr l = 0) (hv : m.fEvent.fValues.length ≤ 12) (hn : 1000 ≤ n) : F_reader_read n l r m = some (nextS l r m) := by
  unfold F_reader_read nextS
  have ho := hr.o
  rw [p_accept n l r m hr ha hv hn, bnd_some, wrap_in (r.fOffset + 1) (by omega)]
  by_cases h : refuse l r m
  · rw [if_pos h, if_pos h]; simp only [cnd_not, cnd_f]
  · rw [if_neg h, if_neg h]
    simp only [cnd_not, cnd_t, cnd_if]
    exact items_tail r.fTracker (noteT r.fTracker m).1 (noteT r.fTracker m).2.1 m.fEvent (fun x => some (⟨r.fSource, r.fOffset + 1, (noteT r.fTracker m).1⟩, x))
theorem p_next (n : Nat) (l : List Sch) (r : Rd) (m : Ms) (hr : ROk r) (hv : m.fEvent.fValues.length ≤ 12) (hn : 1000 ≤ n) : F_tidegateref47_Next n l r m = some (nextS l r m) := by
  unfold F_tidegateref47_Next nextS
  have ho := hr.o
  simp only [cnd_not, cnd_if, p_rcheckM, bnd_some]
  rw [wrap_in (r.fOffset + 1) (by omega)]
  by_cases h1 : msgCheck m = 0
  · rw [if_pos h1, p_source, bnd_some]
    obtain ⟨q, q1, q2, q3⟩ := p_note n r.fTracker m hr.t h1 hn
    by_cases h2 : srcOf m = r.fSource
    · rw [if_pos h2]
      have key : bnd (F_tidegateref36_Note n r.fTracker m) (fun x4 => if x4.2.2 = 0 then cnd x4.2.1 (app ([] : List It) ([⟨0, m.fEvent, 0⟩]) 72 fun x5 => if r.fTracker.mark < x4.1.mark then app x5 ([⟨1, ⟨0, 0, 0, 0, []⟩, x4.1.mark⟩]) 72 fun x6 => some ((⟨r.fSource, r.fOffset + 1, x4.1⟩ : Rd), x6) else some (⟨r.fSource, r.fOffset + 1, x4.1⟩, x5)) (if r.fTracker.mark < x4.1.mark then app ([] : List It) ([⟨1, ⟨0, 0, 0, 0, []⟩, x4.1.mark⟩]) 72 fun x7 => some ((⟨r.fSource, r.fOffset + 1, x4.1⟩ : Rd), x7) else some (⟨r.fSource, r.fOffset + 1, x4.1⟩, [])) else some ((⟨r.fSource, r.fOffset + 1, r.fTracker⟩ : Rd), ([] : List It))) =
          some (if (noteT r.fTracker m).2.2 ≠ 0 then (⟨r.fSource, r.fOffset + 1, r.fTracker⟩, []) else (⟨r.fSource, r.fOffset + 1, (noteT r.fTracker m).1⟩, itemsOf r.fTracker (noteT r.fTracker m).1 (noteT r.fTracker m).2.1 m.fEvent)) := by
        rw [q1, bnd_some]
        by_cases h5 : (noteT r.fTracker m).2.2 = 0
        · have h6 : q.2.2 = 0 := by rw [q2]; exact h5
          rw [if_pos h6, if_nne h5, q3 h6, q2]
          exact items_tail r.fTracker (noteT r.fTracker m).1 (noteT r.fTracker m).2.1 m.fEvent (fun x => some (⟨r.fSource, r.fOffset + 1, (noteT r.fTracker m).1⟩, x))
        · rw [if_neg (by rw [q2]; exact h5), if_pos h5]
      by_cases h3 : m.fKind = 0
      · rw [if_pos h3, p_rvalidE n l m.fEvent (by omega) (by omega), bnd_some]
        by_cases h4 : evErr l m.fEvent = 0
        · rw [if_pos h4, key]
          by_cases h5 : (noteT r.fTracker m).2.2 = 0
          · rw [if_nne h5, if_neg (show ¬ refuse l r m by unfold refuse; simp [h1, h2, h4, h5])]
          · rw [if_pos h5, if_pos (show refuse l r m from Or.inr (Or.inr (Or.inr h5)))]
        · rw [if_neg h4, if_pos (show refuse l r m from Or.inr (Or.inr (Or.inl ⟨h3, h4⟩)))]
      · rw [if_neg h3, key]
        by_cases h5 : (noteT r.fTracker m).2.2 = 0
        · rw [if_nne h5, if_neg (show ¬ refuse l r m by unfold refuse; simp [h1, h2, h3, h5])]
        · rw [if_pos h5, if_pos (show refuse l r m from Or.inr (Or.inr (Or.inr h5)))]
    · rw [if_neg h2, if_pos (show refuse l r m from Or.inr (Or.inl h2))]
  · rw [if_neg h1, if_pos (show refuse l r m from Or.inl h1)]
theorem next_src (l : List Sch) (r : Rd) (m : Ms) : (nextS l r m).1.fSource = r.fSource ∧ (nextS l r m).1.fOffset = r.fOffset + 1 := by unfold nextS; split <;> exact ⟨rfl, rfl⟩
theorem next_trk (l : List Sch) (r : Rd) (m : Ms) (ht : TOk r.fTracker) : TOk (nextS l r m).1.fTracker := by
  unfold nextS
  by_cases h : refuse l r m
  · rw [if_pos h]; exact ht
  · rw [if_neg h]
    unfold refuse at h
    simp only [not_or, Decidable.not_not] at h
    exact noteT_ok _ m ht h.1 h.2.2.2
theorem items_len (t u : Trk) (b : Bool) (e : Ev47) : (itemsOf t u b e).length ≤ 2 := by
  unfold itemsOf
  (repeat' split) <;> simp
theorem next_len (l : List Sch) (r : Rd) (m : Ms) : (nextS l r m).2.length ≤ 2 := by
  unfold nextS
  split
  · simp
  · exact items_len _ _ _ _
theorem next_val (l : List Sch) (r : Rd) (m : Ms) (hv : m.fEvent.fValues.length ≤ 12) : ∀ x ∈ (nextS l r m).2, x.fEvent.fValues.length ≤ 12 := fun x hx => by
  unfold nextS at hx
  split at hx
  · simp at hx
  · unfold itemsOf at hx
    rcases List.mem_append.1 hx with h | h
    · split at h
      · rw [List.mem_singleton.1 h]; exact hv
      · simp at h
    · split at h
      · rw [List.mem_singleton.1 h]; simp [zeroE]
      · simp at h

def runR (l : List Sch) : Rd → List Ms → Rd × List It
  | r, [] => (r, [])
  | r, m :: ms => ((runR l (nextS l r m).1 ms).1, (nextS l r m).2 ++ (runR l (nextS l r m).1 ms).2)
theorem runR_src (l : List Sch) : ∀ (ms : List Ms) (r : Rd), (runR l r ms).1.fSource = r.fSource ∧ (runR l r ms).1.fOffset = r.fOffset + ms.length
  | [], r => ⟨rfl, by simp [runR]⟩
  | m :: ms, r => by
    have h := runR_src l ms (nextS l r m).1
    have h2 := next_src l r m
    rw [runR]
    refine ⟨h.1.trans h2.1, ?_⟩
    rw [h.2, h2.2, List.length_cons]
    omega
theorem runR_trk (l : List Sch) : ∀ (ms : List Ms) (r : Rd), TOk r.fTracker → TOk (runR l r ms).1.fTracker
  | [], r, h => h
  | m :: ms, r, h => runR_trk l ms _ (next_trk l r m h)
theorem runR_len (l : List Sch) : ∀ (ms : List Ms) (r : Rd), (runR l r ms).2.length ≤ 2 * ms.length
  | [], r => by simp [runR]
  | m :: ms, r => by
    have h := runR_len l ms (nextS l r m).1
    have h2 := next_len l r m
    rw [runR, List.length_append, List.length_cons]
    omega
theorem runR_val (l : List Sch) : ∀ (ms : List Ms) (r : Rd), (∀ m ∈ ms, m.fEvent.fValues.length ≤ 12) → ∀ x ∈ (runR l r ms).2, x.fEvent.fValues.length ≤ 12
  | [], r, _, x, hx => by simp [runR] at hx
  | m :: ms, r, h, x, hx => by
    rw [runR] at hx
    rcases List.mem_append.1 hx with hx | hx
    · exact next_val l r m (h m (by simp)) x hx
    · exact runR_val l ms _ (fun y hy => h y (by simp [hy])) x hx
def plErr (r : Rd) (log : List Ms) (more : Int) : Int := if rdErr r ≠ 0 then rdErr r else if 4096 < log.length then 5 else if (log.length : Int) < r.fOffset + more then 30 else 0
theorem plErr_zero {r : Rd} {log : List Ms} {more : Int} (h : plErr r log more = 0) : ROk r ∧ log.length ≤ 4096 ∧ r.fOffset + more ≤ (log.length : Int) := by
  unfold plErr at h
  by_cases h1 : rdErr r = 0
  · rw [if_nne h1] at h
    by_cases h2 : 4096 < log.length
    · rw [if_pos h2] at h; exact absurd h (by decide)
    · rw [if_neg h2] at h
      by_cases h3 : (log.length : Int) < r.fOffset + more
      · rw [if_pos h3] at h; exact absurd h (by decide)
      · exact ⟨(rdErr_zero r).1 h1, by omega, by omega⟩
  · rw [if_pos h1] at h; exact absurd h h1
theorem p_place47 (n : Nat) (r : Rd) (log : List Ms) (more : Int) (h0 : 0 ≤ more ∧ more ≤ 1) : F_tidegateref47_place n r log more = some (plErr r log more) := by
  unfold F_tidegateref47_place plErr
  rw [p_rrdCheck, bnd_some]
  simp only [cnd_not, cnd_if, List.length_map]
  by_cases h1 : rdErr r = 0
  · have := (rdErr_zero r).1 h1
    have ho := this.o
    rw [if_pos h1, if_nne h1, wrap_in (r.fOffset + more) (by omega)]
    by_cases h2 : 4096 < log.length
    · rw [if_pos (by omega), if_pos h2]
    · rw [if_neg (by omega), if_neg h2]
      split <;> rfl
  · rw [if_neg h1, if_pos h1]
theorem p_check47 (n : Nat) (r : Rd) (log : List Ms) (more : Int) (h0 : 0 ≤ more ∧ more ≤ 1) : F_reader_check n r log more = some (plErr r log more) := by
  unfold F_reader_check plErr
  rw [p_rdCheck, bnd_some]
  simp only [cnd_not, cnd_if, List.length_map]
  by_cases h1 : rdErr r = 0
  · have := (rdErr_zero r).1 h1
    have ho := this.o
    rw [if_pos h1, if_nne h1]
    by_cases h2 : 4096 < log.length
    · rw [if_pos (show (4096 : Int) < (log.length : Int) by omega), if_pos h2]
    · rw [if_neg (show ¬ (4096 : Int) < (log.length : Int) by omega), if_neg h2, wrap_in ((log.length : Int) - r.fOffset) (by omega)]
      by_cases h3 : (log.length : Int) < r.fOffset + more
      · rw [if_pos (by omega), if_pos h3]
      · rw [if_neg (by omega), if_neg h3]
  · rw [if_neg h1, if_pos h1]
theorem p_owned (n : Nat) (r : Rd) (h : TOk r.fTracker) : F_reader_owned n r = some r := by
  unfold F_reader_owned F_clone
  have hb : r.fTracker.beyond.length ≤ 1000 := by
    have := h.sq
    unfold sqCheck at this
    split at this
    · exact absurd this (by decide)
    · split at this
      · exact absurd this (by decide)
      · omega
  have hp := h.len
  rw [if_pos (by omega), bnd_some, if_pos (by omega), bnd_some]
def readS (l : List Sch) (r : Rd) (log : List Ms) : Rd × List It × Int :=
  if allErr l ≠ 0 then (zeroR, [], allErr l) else if plErr r log 1 ≠ 0 then (zeroR, [], plErr r log 1) else
  ((nextS l r (log.getD r.fOffset.toNat default)).1, (nextS l r (log.getD r.fOffset.toNat default)).2, 0)
theorem getD_log {l : List Ms} {k : Nat} (h : k < l.length) : l.getD k default = l[k] := by
  rw [List.getD_eq_getElem?_getD, List.getElem?_eq_getElem h]; rfl
theorem p_Read (n : Nat) (l : List Sch) (r : Rd) (log : List Ms) (hv : ∀ m ∈ log, m.fEvent.fValues.length ≤ 12) (hn : 1000 ≤ n) : F_reader_Read n l r log = some (readS l r log) := by
  unfold F_reader_Read readS
  rw [p_all n l (by omega), bnd_some, p_check47 n r log 1 (by omega), bnd_some]
  simp only [cnd_not, cnd_if]
  by_cases h1 : allErr l = 0
  · rw [if_pos h1, if_nne h1]
    by_cases h2 : plErr r log 1 = 0
    · obtain ⟨hr, h3, h4⟩ := plErr_zero h2
      have ho := hr.o
      have hk : r.fOffset.toNat < log.length := by omega
      rw [if_pos h2, if_nne h2, idx_int (by omega) hk, getD_log hk, p_read1 n l r _ hr h1 (hv _ (List.getElem_mem hk)) hn, bnd_some, p_owned n _ (next_trk l r _ hr.t), bnd_some]
    · rw [if_neg h2, if_pos h2]; rfl
  · rw [if_neg h1, if_pos h1]; rfl
def leftS (r : Rd) (log : List Ms) : Int × Int := if plErr r log 0 ≠ 0 then (0, plErr r log 0) else ((log.length : Int) - r.fOffset, 0)
theorem p_Left (n : Nat) (r : Rd) (log : List Ms) : F_reader_Left n r log = some (leftS r log) := by
  unfold F_reader_Left leftS
  rw [p_check47 n r log 0 (by omega), bnd_some]
  simp only [cnd_not, cnd_if, List.length_map]
  by_cases h2 : plErr r log 0 = 0
  · obtain ⟨hr, h3, h4⟩ := plErr_zero h2
    have ho := hr.o
    rw [if_pos h2, if_nne h2, wrap_in ((log.length : Int) - r.fOffset) (by omega)]
  · rw [if_neg h2, if_pos h2]
def replS (l : List Sch) (r : Rd) (log : List Ms) : Rd × List It × Int :=
  if allErr l ≠ 0 then (zeroR, [], allErr l) else if plErr r log 0 ≠ 0 then (zeroR, [], plErr r log 0) else
  ((runR l r (log.drop r.fOffset.toNat)).1, (runR l r (log.drop r.fOffset.toNat)).2, 0)
theorem ROk.next {l : List Sch} {r : Rd} {m : Ms} (hr : ROk r) (ho : r.fOffset ≤ 4095) : ROk (nextS l r m).1 := by
  have h := next_src l r m
  have h1 := hr.s
  have h2 := hr.o
  exact ⟨by rw [h.1]; exact h1, by rw [h.2]; omega, next_trk l r m hr.t⟩
theorem p_steps_l1 (n : Nat) (l : List Sch) (m2 xs : List Ms) (ha : allErr l = 0) (hv : ∀ m ∈ xs, m.fEvent.fValues.length ≤ 12) (hn : 1000 ≤ n) (hl : xs.length ≤ 4096) {β : Type}
    (K : Int → Int → Int → (List Int) → (List Pt) → Int → Int → Int → Int → (List Int) → (List Pt) → Int → (List T_api_Item) → Option ((List T_api_Item) × T_api_Reader × (List T_api_Message) × T_api_Reader × (List T_api_Schema))) : ∀ (f k : Nat) (r : Rd) (out : List It), k ≤ xs.length → xs.length < f + k → ROk r → r.fOffset + ((xs.length - k : Nat) : Int) ≤ 4096 → out.length + 2 * (xs.length - k) ≤ 20000 →
    F_reader_steps_1_l1 n l m2 xs K f ((k : Int), r.fSource, r.fOffset, r.fTracker.next, r.fTracker.beyond, r.fTracker.points, r.fTracker.mark, r.fSource, r.fOffset, r.fTracker.next, r.fTracker.beyond, r.fTracker.points, r.fTracker.mark, out) =
    (fun (q : Rd × List It) => K q.1.fSource q.1.fOffset q.1.fTracker.next q.1.fTracker.beyond q.1.fTracker.points q.1.fTracker.mark q.1.fSource q.1.fOffset q.1.fTracker.next q.1.fTracker.beyond q.1.fTracker.points q.1.fTracker.mark (out ++ q.2)) (runR l r (xs.drop k))
  | 0, k, r, out, h1, h2, h3, h4, h5 => by omega
  | f + 1, k, r, out, h1, h2, h3, h4, h5 => by
    rw [F_reader_steps_1_l1]
    simp only [List.length_map, cnd_if]
    by_cases h : k < xs.length
    · have hrr : (⟨r.fSource, r.fOffset, ⟨r.fTracker.next, r.fTracker.beyond, r.fTracker.points, r.fTracker.mark⟩⟩ : Rd) = r := rfl
      have hlen := next_len l r xs[k]
      have hoff := next_src l r xs[k]
      rw [if_pos (by omega), idx_nat h, hrr, p_read1 n l r _ h3 ha (hv _ (List.getElem_mem h)) hn, bnd_some]
      unfold F_reader_Replay_b9
      rw [app_ok (by omega) (by omega), bnd_some, wrapS k (by omega)]
      rw [p_steps_l1 n l m2 xs ha hv hn hl (β := β) K f (k + 1) (nextS l r xs[k]).1 (out ++ (nextS l r xs[k]).2) (by omega) (by omega) (h3.next (by omega)) (by rw [hoff.2]; omega) (by rw [List.length_append]; omega), dropK_cons h, runR]
      simp only [List.append_assoc]
    · rw [if_neg (by omega), List.drop_eq_nil_of_le (by omega), runR, List.append_nil]
theorem p_Replay (n : Nat) (l : List Sch) (r : Rd) (log : List Ms) (hv : ∀ m ∈ log, m.fEvent.fValues.length ≤ 12) (hn : 10000 ≤ n) : F_reader_Replay n l r log = some (replS l r log) := by
  unfold F_reader_Replay replS F_reader_steps F_reader_steps_1
  rw [p_all n l (by omega), bnd_some, p_check47 n r log 0 (by omega), bnd_some]
  simp only [cnd_not, cnd_if]
  by_cases h1 : allErr l = 0
  · rw [if_pos h1, if_nne h1]
    by_cases h2 : plErr r log 0 = 0
    · obtain ⟨hr, h3, h4⟩ := plErr_zero h2
      have ho := hr.o
      obtain ⟨k, hk⟩ : ∃ k : Nat, r.fOffset = (k : Int) := ⟨r.fOffset.toNat, by omega⟩
      rw [if_pos h2, if_nne h2, bnd_some]
      simp only [List.length_map]
      rw [hk, Int.toNat_natCast, sls_ok (by omega) (Nat.le_refl _), List.take_length]
      have := p_steps_l1 n l log (log.drop k) h1 (fun m hm => hv m (List.mem_of_mem_drop hm)) (by omega) (by simp; omega) (β := Unit) (fun k1_0_0y0 k1_0_0y1 k1_0_0y2 k1_0_0y3 k1_0_0y4 k1_0_0y5 k1_0_0y6 k1_0_0y7 k1_0_0y8 k1_0_0y9 k1_0_0y10 k1_0_0y11 k1_0_0y12 => some (k1_0_0y12, ⟨k1_0_0y0, k1_0_0y1, ⟨k1_0_0y2, k1_0_0y3, k1_0_0y4, k1_0_0y5⟩⟩, log, ⟨k1_0_0y6, k1_0_0y7, ⟨k1_0_0y8, k1_0_0y9, k1_0_0y10, k1_0_0y11⟩⟩, l)) n 0 r [] (by omega) (by simp; omega) hr (by simp; omega) (by simp; omega)
      simp only [Int.natCast_zero, List.drop_zero, List.nil_append, hk] at this
      rw [this, bnd_some]
      have hrr : ∀ r : Rd, (⟨r.fSource, r.fOffset, ⟨r.fTracker.next, r.fTracker.beyond, r.fTracker.points, r.fTracker.mark⟩⟩ : Rd) = r := fun _ => rfl
      simp only [hrr]
      rw [p_owned n _ (runR_trk l _ r hr.t), bnd_some]
    · rw [if_neg h2, if_pos h2]; rfl
  · rw [if_neg h1, if_pos h1]; rfl
end Go.Proofs.YtcbdhigllelmcaaGreat
namespace Go.Proofs.YtcbdhigllelmcaaGreat
open Go.RowKit

def hitsK (keys : List (List Int)) (e : Ev47) (w : Int) : List Int := keys.filterMap fun key => if (keyOf key e).2 = true then some (ownr (grpV (keyOf key e).1) w) else none
def rngI (k j : Nat) : List Int := (List.range' k j).map fun (i : Nat) => (i : Int)
def tgt (keys : List (List Int)) (w : Int) (x : It) : List Int := if x.fKind = 0 then (rngI 0 w.toNat).filter (fun i => decide (i ∈ hitsK keys x.fEvent w)) else rngI 0 w.toNat
theorem rngI_cons (k j : Nat) : rngI k (j + 1) = (k : Int) :: rngI (k + 1) j := rfl
def SeenI (m : List (Int × Bool)) (p : List Int) : Prop := ∀ x, mlk m x = if x ∈ p then some true else none
theorem SeenI.nil : SeenI [] [] := fun x => by simp [mlk]
theorem SeenI.put {m : List (Int × Bool)} {p : List Int} (h : SeenI m p) (a : Int) : SeenI (mput m a true) (p ++ [a]) := fun x => by
  rw [mlk_put, h x]
  by_cases h1 : x = a
  · simp [h1]
  · simp [h1]
theorem SeenI.get {m : List (Int × Bool)} {p : List Int} (h : SeenI m p) (a : Int) : (mlk m a).getD false = decide (a ∈ p) := by
  rw [h a]
  by_cases h1 : a ∈ p <;> simp [h1]
theorem p_route_l3 (n w : Nat) (mp : List (Int × Bool)) (p : List Int) (hp : SeenI mp p) (hw : w ≤ 1000) (K : List Int → Option (List Int × Int)) : ∀ (f k : Nat) (acc : List Int), k ≤ w → w < f + k → acc.length ≤ k →
    F_reader_Route_l3 n (w : Int) mp K f ((k : Int), acc) = K (acc ++ (rngI k (w - k)).filter (fun i => decide (i ∈ p)))
  | 0, k, acc, h1, h2, h3 => by omega
  | f + 1, k, acc, h1, h2, h3 => by
    unfold F_reader_Route_l3
    simp only [cnd_if, mgt_k, hp.get]
    by_cases h : k < w
    · rw [if_pos (by omega), app_ok (by simp; omega) (by omega), wrapS k (by omega), show w - k = (w - (k + 1)) + 1 by omega, rngI_cons, List.filter_cons, p_route_l3 n w mp p hp hw K f (k + 1) _ (by omega) (by omega) (by simp; omega), p_route_l3 n w mp p hp hw K f (k + 1) _ (by omega) (by omega) (by omega)]
      by_cases h4 : (k : Int) ∈ p
      · rw [if_pos h4, if_pos (decide_eq_true h4), List.append_assoc]; rfl
      · rw [if_neg h4, if_neg (by simpa using h4)]
    · rw [if_neg (by omega), show w - k = 0 by omega]; simp [rngI]
theorem p_route_l5 (n w : Nat) (mp : List (Int × Bool)) (p : List Int) (hp : SeenI mp p) (hw : w ≤ 1000) (K : List Int → Option (List Int × Int)) : ∀ (f k : Nat) (acc : List Int), k ≤ w → w < f + k → acc.length ≤ k →
    F_reader_Route_l5 n (w : Int) mp K f ((k : Int), acc) = K (acc ++ (rngI k (w - k)).filter (fun i => decide (i ∈ p)))
  | 0, k, acc, h1, h2, h3 => by omega
  | f + 1, k, acc, h1, h2, h3 => by
    unfold F_reader_Route_l5
    simp only [cnd_if, mgt_k, hp.get]
    by_cases h : k < w
    · rw [if_pos (by omega), app_ok (by simp; omega) (by omega), wrapS k (by omega), show w - k = (w - (k + 1)) + 1 by omega, rngI_cons, List.filter_cons, p_route_l5 n w mp p hp hw K f (k + 1) _ (by omega) (by omega) (by simp; omega), p_route_l5 n w mp p hp hw K f (k + 1) _ (by omega) (by omega) (by omega)]
      by_cases h4 : (k : Int) ∈ p
      · rw [if_pos h4, if_pos (decide_eq_true h4), List.append_assoc]; rfl
      · rw [if_neg h4, if_neg (by simpa using h4)]
    · rw [if_neg (by omega), show w - k = 0 by omega]; simp [rngI]
theorem p_route_l2 (n w : Nat) (hw : w ≤ 1000) (K : List (Int × Bool) → Option (List Int × Int)) : ∀ (f k : Nat) (mp : List (Int × Bool)), k ≤ w → w < f + k → SeenI mp (rngI 0 k) → ∃ mp', SeenI mp' (rngI 0 w) ∧ F_reader_Route_l2 n (w : Int) K f ((k : Int), mp) = K mp'
  | 0, k, mp, h1, h2, h3 => by omega
  | f + 1, k, mp, h1, h2, h3 => by
    unfold F_reader_Route_l2
    simp only [cnd_if, mst_k]
    by_cases h : k < w
    · rw [if_pos (by omega), wrapS k (by omega)]
      refine p_route_l2 n w hw K f (k + 1) _ (by omega) (by omega) ?_
      have : rngI 0 (k + 1) = rngI 0 k ++ [(k : Int)] := by unfold rngI; rw [List.range'_1_concat]; simp
      rw [this]
      exact h3.put _
    · rw [if_neg (by omega)]
      have : k = w := by omega
      subst this
      exact ⟨mp, h3, rfl⟩
theorem p_route_l4 (n : Nat) (x : It) (w : Int) (keys : List (List Int)) (l : List Sch) (hw : 1 ≤ w ∧ w ≤ 8) (hl : keys.length ≤ 1000) (ha : allErr l = 0) (he : evErr l x.fEvent = 0) (hk : ∀ key ∈ keys, keyErr l key = 0) (hkl : ∀ key ∈ keys, key.length ≤ 1000) (hv : x.fEvent.fValues.length ≤ 12) (hn : 2000 ≤ n)
    (K : List (Int × Bool) → Option (List Int × Int)) : ∀ (f k : Nat) (mp : List (Int × Bool)) (p : List Int), k ≤ keys.length → keys.length < f + k → SeenI mp p → ∃ mp', SeenI mp' (p ++ hitsK (keys.drop k) x.fEvent w) ∧ F_reader_Route_l4 n x w keys l K f ((k : Int), mp) = K mp'
  | 0, k, mp, p, h1, h2, h3 => by omega
  | f + 1, k, mp, p, h1, h2, h3 => by
    unfold F_reader_Route_l4
    simp only [List.length_map, cnd_if, mst_k]
    by_cases h : k < keys.length
    · have hm := List.getElem_mem h
      have hkk := hk _ hm
      have hkl' := hkl _ hm
      have hok := keyOf_ok he hkk
      rw [if_pos (by omega), idx_nat h, p_key n l keys[k] x.fEvent (by omega) (by omega) (by omega) (by omega) ha he hkk, bnd_some, p_group n _ (by omega), bnd_some, if_nne hok, dropK_cons h, wrapS k (by omega)]
      have eh : hitsK (keys[k] :: keys.drop (k + 1)) x.fEvent w = (if (keyOf keys[k] x.fEvent).2 = true then [ownr (grpV (keyOf keys[k] x.fEvent).1) w] else []) ++ hitsK (keys.drop (k + 1)) x.fEvent w := by
        unfold hitsK
        rw [List.filterMap_cons]
        split <;> rename_i h5 <;> split at h5 <;> simp_all
      rw [eh]
      simp only
      cases h4 : (keyOf keys[k] x.fEvent).2 with
      | true =>
        rw [cnd_t, if_pos rfl, p_worker n _ w (grpV_b _) hw (by omega), bnd_some]
        obtain ⟨mp', g1, g2⟩ := p_route_l4 n x w keys l hw hl ha he hk hkl hv hn K f (k + 1) (mput mp (ownr (grpV (keyOf keys[k] x.fEvent).1) w) true) (p ++ [ownr (grpV (keyOf keys[k] x.fEvent).1) w]) (by omega) (by omega) (h3.put _)
        exact ⟨mp', by rw [← List.append_assoc]; exact g1, g2⟩
      | false =>
        rw [cnd_f]
        obtain ⟨mp', g1, g2⟩ := p_route_l4 n x w keys l hw hl ha he hk hkl hv hn K f (k + 1) mp p (by omega) (by omega) h3
        exact ⟨mp', by simpa using g1, g2⟩
    · rw [if_neg (by omega), List.drop_eq_nil_of_le (by omega)]
      exact ⟨mp, by simpa [hitsK] using h3, rfl⟩
def keysAll (l : List Sch) : List (List Int) → Int
  | [] => 0
  | k :: r => if keyErr l k = 0 then keysAll l r else keyErr l k
theorem keysAll_zero {l : List Sch} : ∀ {keys : List (List Int)}, keysAll l keys = 0 → ∀ k ∈ keys, keyErr l k = 0
  | [], _, k, h => by simp at h
  | a :: r, h0, k, h => by
    rw [keysAll] at h0
    by_cases h1 : keyErr l a = 0
    · rw [if_pos h1] at h0
      rcases List.mem_cons.1 h with rfl | h
      · exact h1
      · exact keysAll_zero h0 k h
    · rw [if_neg h1] at h0; exact absurd h0 h1
def routeS (l : List Sch) (keys : List (List Int)) (w : Int) (x : It) : List Int × Int :=
  if allErr l ≠ 0 then ([], allErr l) else if 16 < keys.length then ([], 5) else if keysAll l keys ≠ 0 then ([], keysAll l keys) else
  if w < 1 ∨ 8 < w then ([], 2) else if itmErr x ≠ 0 then ([], itmErr x) else if x.fKind = 0 ∧ evErr l x.fEvent ≠ 0 then ([], evErr l x.fEvent) else (tgt keys w x, 0)
theorem p_route_l1 (n : Nat) (x : It) (w : Int) (keys : List (List Int)) (l : List Sch) (hl : keys.length ≤ 1000) (hkl : ∀ key ∈ keys, key.length ≤ 1000) (hn : 2000 ≤ n) (K : Option (List Int × Int)) : ∀ (f k : Nat), k ≤ keys.length → keys.length < f + k →
    F_reader_Route_l1 n x w keys l K f (k : Int) = if keysAll l (keys.drop k) = 0 then K else some ([], keysAll l (keys.drop k))
  | 0, k, h1, h2 => by omega
  | f + 1, k, h1, h2 => by
    unfold F_reader_Route_l1
    simp only [List.length_map, cnd_if, cnd_not]
    by_cases h : k < keys.length
    · have := hkl _ (List.getElem_mem h)
      rw [if_pos (by omega), idx_nat h, p_checkKey n l _ (by omega) (by omega), bnd_some, wrapS k (by omega), p_route_l1 n x w keys l hl hkl hn K f (k + 1) (by omega) (by omega), dropK_cons h, keysAll]
      by_cases h3 : keyErr l keys[k] = 0
      · rw [if_pos h3, if_pos h3]
      · rw [if_neg h3, if_neg h3, if_neg h3]
    · rw [if_neg (by omega), List.drop_eq_nil_of_le (by omega)]; rfl
theorem p_Route (n : Nat) (l : List Sch) (keys : List (List Int)) (w : Int) (x : It) (hl : keys.length ≤ 1000) (hkl : ∀ key ∈ keys, key.length ≤ 1000) (hv : x.fEvent.fValues.length ≤ 12) (hn : 2000 ≤ n) : F_reader_Route n l keys w x = some (routeS l keys w x) := by
  unfold F_reader_Route routeS
  simp only [List.length_map, cnd_if, cnd_not]
  rw [p_all n l (by omega), bnd_some]
  by_cases h1 : allErr l = 0
  · rw [if_pos h1, if_nne h1]
    by_cases h2 : 16 < keys.length
    · rw [if_pos (by omega), if_pos h2]
    · rw [if_neg (by omega), if_neg h2]
      have := p_route_l1 n x w keys l hl hkl hn (if w < 1 then some ([], 2) else if 8 < w then some ([], 2) else bnd (F_channel_Check n [⟨0, 0, [x]⟩]) fun x42 => if x42 = 0 then (if x.fKind = 0 then bnd (F_event_Check n l x.fEvent) fun x129 => if x129 = 0 then F_reader_Route_l4 n x w keys l (fun y => F_reader_Route_l5 n w y (fun z => some (z, 0)) n (0, [])) n (0, []) else some ([], x129) else
        F_reader_Route_l2 n w (fun y => F_reader_Route_l3 n w y (fun z => some (z, 0)) n (0, [])) n (0, [])) else some ([], x42)) n 0 (by omega) (by omega)
      simp only [Int.natCast_zero, List.drop_zero] at this
      rw [this]
      by_cases h3 : keysAll l keys = 0
      · rw [if_pos h3, if_nne h3]
        by_cases h4 : w < 1 ∨ 8 < w
        · rw [if_pos h4]
          split
          · rfl
          · rw [if_pos (by omega)]
        · rw [if_neg h4, if_neg (show ¬ w < 1 by omega), if_neg (show ¬ 8 < w by omega), p_chan n x (by omega), bnd_some]
          obtain ⟨j, rfl⟩ : ∃ j : Nat, w = (j : Int) := ⟨w.toNat, by omega⟩
          by_cases h5 : itmErr x = 0
          · rw [if_pos h5, if_nne h5]
            by_cases h6 : x.fKind = 0
            · rw [if_pos h6, p_evCheck n l x.fEvent (by omega) (by omega) (by omega) h1, bnd_some]
              by_cases h7 : evErr l x.fEvent = 0
              · rw [if_pos h7, if_neg (fun e => e.2 h7)]
                obtain ⟨mp, g1, g2⟩ := p_route_l4 n x (j : Int) keys l (by omega) hl h1 h7 (keysAll_zero h3) hkl hv hn (fun y => F_reader_Route_l5 n (j : Int) y (fun z => some (z, 0)) n (0, [])) n 0 [] [] (by omega) (by omega) .nil
                simp only [Int.natCast_zero, List.drop_zero, List.nil_append] at g1 g2
                have g3 := p_route_l5 n j mp _ g1 (by omega) (fun z => some (z, 0)) n 0 [] (by omega) (by omega) (by simp)
                simp only [Int.natCast_zero, List.nil_append, Nat.sub_zero] at g3
                rw [g2, g3]
                unfold tgt
                rw [if_pos h6, Int.toNat_natCast]
              · rw [if_neg h7, if_pos ⟨h6, h7⟩]
            · rw [if_neg h6, if_neg (fun e => h6 e.1)]
              obtain ⟨mp, g1, g2⟩ := p_route_l2 n j (by omega) (fun y => F_reader_Route_l3 n (j : Int) y (fun z => some (z, 0)) n (0, [])) n 0 [] (by omega) (by omega) (by simpa [rngI] using SeenI.nil)
              have g3 := p_route_l3 n j mp _ g1 (by omega) (fun z => some (z, 0)) n 0 [] (by omega) (by omega) (by simp)
              simp only [Int.natCast_zero, List.nil_append, Nat.sub_zero] at g2 g3
              rw [g2, g3]
              unfold tgt
              rw [if_neg h6, Int.toNat_natCast, List.filter_eq_self.2 (fun i hi => by simpa using hi)]
          · rw [if_neg h5, if_pos h5]
      · rw [if_neg h3, if_pos h3]
  · rw [if_neg h1, if_pos h1]

theorem wrapM (k : Nat) (h : k < 9223372036854775807) : IntKind.wrap .i64 ((k : Int) + 1) = ((k + 1 : Nat) : Int) := by rw [wrap_in _ (by omega)]; omega
theorem p_few03_l1 (n : Nat) (l : List Sch) (hl : l.length ≤ 9223372036854775807) (b : Bool) : ∀ (m k : Nat), k ≤ l.length → l.length < m + k → ∃ c, F_tidegateref03_Few_l1 n l (some b) m (k : Int) = some c ∧ (c = true → b = true)
  | 0, k, h1, h2 => by omega
  | m + 1, k, h1, h2 => by
    unfold F_tidegateref03_Few_l1
    simp only [List.length_map, cnd_if]
    by_cases h : k < l.length
    · rw [if_pos (by omega), idx_nat h, idx_nat h]
      split
      · exact ⟨false, rfl, fun h => by cases h⟩
      · split
        · exact ⟨false, rfl, fun h => by cases h⟩
        · rw [wrapM k (by omega)]
          exact p_few03_l1 n l hl b m (k + 1) (by omega) (by omega)
    · rw [if_neg (by omega)]
      exact ⟨b, rfl, id⟩
theorem p_few03 (n : Nat) (l : List Sch) (hl : l.length ≤ 9223372036854775807) (hn : l.length < n) : ∃ c, F_tidegateref03_Few n l = some c ∧ (c = true → l.length ≤ 20) := by
  unfold F_tidegateref03_Few
  obtain ⟨c, h1, h2⟩ := p_few03_l1 n l hl (decide ((((List.map e_api_Schema l).length : Nat) : Int) ≤ 20)) n 0 (by omega) (by omega)
  refine ⟨c, by simpa using h1, fun h => ?_⟩
  have := of_decide_eq_true (h2 h)
  rw [List.length_map] at this
  omega
theorem p_few47_l1 (n : Nat) (l : List Ms) (hl : l.length ≤ 1000000) : ∀ (m k : Nat), k ≤ l.length → l.length < m + k → F_tidegateref47_Few_l1 n l (some true) m (k : Int) = some ((l.drop k).all fun m => decide (m.fEvent.fValues.length ≤ 12))
  | 0, k, h1, h2 => by omega
  | m + 1, k, h1, h2 => by
    unfold F_tidegateref47_Few_l1
    simp only [List.length_map, cnd_if]
    by_cases h : k < l.length
    · rw [if_pos (by omega), idx_nat h, wrapS k (by omega), p_few47_l1 n l hl m (k + 1) (by omega) (by omega), dropK_cons h, List.all_cons]
      by_cases h3 : l[k].fEvent.fValues.length ≤ 12
      · rw [if_neg (by omega), decide_eq_true h3, Bool.true_and]
      · rw [if_pos (by omega), decide_eq_false h3, Bool.false_and]
    · rw [if_neg (by omega), List.drop_eq_nil_of_le (by omega)]; rfl
theorem p_few47_l2 (n : Nat) (l : List Ms) (hl : l.length ≤ 1000000) : ∀ (m k : Nat), k ≤ l.length → l.length < m + k → F_tidegateref47_Few_l2 n l (some true) m (k : Int) = some ((l.drop k).all fun m => decide (m.fEvent.fValues.length ≤ 12))
  | 0, k, h1, h2 => by omega
  | m + 1, k, h1, h2 => by
    unfold F_tidegateref47_Few_l2
    simp only [List.length_map, cnd_if]
    by_cases h : k < l.length
    · rw [if_pos (by omega), idx_nat h, wrapS k (by omega), p_few47_l2 n l hl m (k + 1) (by omega) (by omega), dropK_cons h, List.all_cons]
      by_cases h3 : l[k].fEvent.fValues.length ≤ 12
      · rw [if_neg (by omega), decide_eq_true h3, Bool.true_and]
      · rw [if_pos (by omega), decide_eq_false h3, Bool.false_and]
    · rw [if_neg (by omega), List.drop_eq_nil_of_le (by omega)]; rfl
def smallL (log : List Ms) : Prop := log.length ≤ 4105 ∧ ∀ m ∈ log, m.fEvent.fValues.length ≤ 12
theorem p_few47 (n : Nat) (l : List Ms) (hn : 10000 ≤ n) : ∃ c, F_tidegateref47_Few n l = some c ∧ (c = true → smallL l) := by
  unfold F_tidegateref47_Few
  simp only [List.length_map, cnd_if]
  have fin : ∀ (h : l.length ≤ 4105), ((l.drop 0).all fun m => decide (m.fEvent.fValues.length ≤ 12)) = true → smallL l := fun h ha => ⟨h, fun m hm => by
    rw [List.drop_zero, List.all_eq_true] at ha
    exact of_decide_eq_true (ha m hm)⟩
  by_cases h1 : l.length ≤ 30
  · rw [if_neg (by omega)]
    exact ⟨_, p_few47_l2 n l (by omega) n 0 (by omega) (by omega), fin (by omega)⟩
  · rw [if_pos (by omega)]
    by_cases h2 : l.length < 4096
    · rw [if_pos (by omega)]; exact ⟨false, rfl, fun h => by cases h⟩
    · rw [if_neg (by omega)]
      by_cases h3 : 4105 < l.length
      · rw [if_pos (by omega)]; exact ⟨false, rfl, fun h => by cases h⟩
      · rw [if_neg (by omega)]
        exact ⟨_, p_few47_l1 n l (by omega) n 0 (by omega) (by omega), fin (by omega)⟩
theorem p_few (n : Nat) (l : List Sch) (log : List Ms) (hl : l.length ≤ 9223372036854775807) (hn : l.length < n) (hn2 : 10000 ≤ n) : ∃ c, F_tidegatelaw47_few n l log = some c ∧ (c = true → smallL log) := by
  unfold F_tidegatelaw47_few
  obtain ⟨a, a1, a2⟩ := p_few03 n l hl hn
  obtain ⟨b, b1, b2⟩ := p_few47 n log hn2
  rw [a1, bnd_some]
  cases a with
  | false => exact ⟨false, cnd_f _ _, fun h => by cases h⟩
  | true => exact ⟨b, by rw [cnd_t, b1, bnd_some], b2⟩
theorem p_fewT47 (n : Nat) (t : Trk) : F_tidegateref34_Few n t = some (fewT t) := by
  unfold F_tidegateref34_Few fewT
  simp only [List.length_map, cnd_if]
  by_cases h : t.beyond.length ≤ 300
  · rw [if_pos (by omega), decide_eq_true h, Bool.true_and]; congr 1; rw [decide_eq_decide]; omega
  · rw [if_neg (by omega), decide_eq_false h, Bool.false_and]
theorem p_sameR (n : Nat) (a b : Rd) (h1 : a.fTracker.beyond.length ≤ 1000000000) (h2 : a.fTracker.points.length ≤ 1000000000) : F_tidegateref47_Same n a b = some (decide (a = b)) := by
  unfold F_tidegateref47_Same F_trkSame
  obtain ⟨a1, a2, a3⟩ := a
  obtain ⟨b1, b2, b3⟩ := b
  simp only [cnd_if] at *
  rw [if_pos (show a3.beyond.length ≤ 1000000000 ∧ a3.points.length ≤ 1000000000 from ⟨h1, h2⟩), bnd_some]
  by_cases e1 : a1 = b1
  · by_cases e2 : a2 = b2
    · simp [e1, e2]
    · simp [e1, e2]
  · simp [e1]

def ex47s : List Sch := [⟨ByteArray.mk #[65], [⟨ByteArray.mk #[115], 2⟩]⟩]
def ex47e (s t : Int) : Ev47 := ⟨0, s, 0, t, [⟨2, 0, ByteArray.mk #[97]⟩]⟩
def ex47l : List Ms := [⟨0, ex47e 1 7, 0, 0, 0⟩, ⟨1, zeroE, 0, 2, 5⟩, ⟨0, ex47e 0 4, 0, 0, 0⟩, ⟨0, ex47e 1 7, 0, 0, 0⟩]
theorem ex47a : readS ex47s ⟨0, 0, t0⟩ ex47l = (⟨0, 1, ⟨0, [1], [], -1⟩⟩, [⟨0, ex47e 1 7, 0⟩], 0) := by decide +kernel
theorem ex47b : replS ex47s ⟨0, 0, t0⟩ ex47l = (⟨0, 4, ⟨2, [], [], 5⟩⟩, [⟨0, ex47e 1 7, 0⟩, ⟨0, ex47e 0 4, 0⟩, ⟨1, zeroE, 5⟩], 0) := by decide +kernel
theorem ex47c : routeS ex47s [[0]] 2 ⟨0, ex47e 1 7, 0⟩ = ([1], 0) := by decide +kernel
theorem ex47d : routeS ex47s [] 2 ⟨1, zeroE, 5⟩ = ([0, 1], 0) := by decide +kernel
theorem ex47v : ∀ m ∈ ex47l, m.fEvent.fValues.length ≤ 12 := by decide +kernel
theorem awake47 (n : Nat) (hn : 10000 ≤ n) : F_tidegatelaw47_awake n = some true := by
  have r0 : F_reader_Begin n 0 = some (⟨0, 0, t0⟩, 0) := p_beginR n 0
  have r1 := p_Read n ex47s ⟨0, 0, t0⟩ ex47l ex47v (by omega)
  have r2 := p_Replay n ex47s ⟨0, 0, t0⟩ ex47l ex47v hn
  have r3 := p_Route n ex47s [[0]] 2 ⟨0, ex47e 1 7, 0⟩ (by simp) (by simp) (by decide) (by omega)
  have r4 := p_Route n ex47s [] 2 ⟨1, zeroE, 5⟩ (by simp) (by simp) (by decide) (by omega)
  have r5 := p_sameItems n [⟨0, ex47e 1 7, 0⟩] [⟨0, ex47e 1 7, 0⟩] (by simp) (by simp; omega) (by decide) (by omega)
  have r6 := p_sameItems n [⟨0, ex47e 1 7, 0⟩, ⟨0, ex47e 0 4, 0⟩, ⟨1, zeroE, 5⟩] [⟨0, ex47e 1 7, 0⟩, ⟨0, ex47e 0 4, 0⟩, ⟨1, zeroE, 5⟩] (by simp) (by simp; omega) (by decide) (by omega)
  have r7 := p_sameI n [1] [1] (by simp) (by simp; omega)
  have r8 := p_sameI n [0, 1] [0, 1] (by simp) (by simp; omega)
  rw [ex47a] at r1
  rw [ex47b] at r2
  rw [ex47c] at r3
  rw [ex47d] at r4
  rw [decide_eq_true rfl] at r5 r6 r7 r8
  unfold F_tidegatelaw47_awake F_tidegatelaw47_event F_tidegatelaw47_types
  simp only [bnd_some, r0]
  simp only [ex47s, ex47l, ex47e, zeroE] at r1 r2 r3 r4 r5 r6
  simp only [r1, r2, r3, r4, r5, r6, r7, r8, bnd_some, cnd_not, cnd_if, cnd_t, if_true]
end Go.Proofs.YtcbdhigllelmcaaGreat
namespace Go.Proofs.YtcbdhigllelmcaaGreat
open Go.RowKit

theorem TOk.b {t : Trk} (h : TOk t) : t.beyond.length ≤ 1000 ∧ t.points.length ≤ 256 := by
  refine ⟨?_, h.len⟩
  have := h.sq
  unfold sqCheck at this
  split at this
  · exact absurd this (by decide)
  · split at this
    · exact absurd this (by decide)
    · omega
def r0 : Rd := ⟨0, 0, t0⟩
theorem replS_ok {l : List Sch} {log : List Ms} (h : (replS l r0 log).2.2 = 0) : allErr l = 0 ∧ log.length ≤ 4096 ∧ replS l r0 log = ((runR l r0 log).1, (runR l r0 log).2, 0) := by
  unfold replS at h ⊢
  split
  · rename_i h1
    rw [if_pos h1] at h
    exact absurd h h1
  · rename_i h1
    rw [if_neg h1] at h
    split
    · rename_i h2
      rw [if_pos h2] at h
      exact absurd h h2
    · rename_i h2
      exact ⟨Decidable.not_not.1 h1, (plErr_zero (Decidable.not_not.1 h2)).2.1, rfl⟩
inductive Prom : Int → List It → Int → Prop
  | nil (μ : Int) : Prom μ [] μ
  | mark {μ ν : Int} {x : It} {xs : List It} (hk : x.fKind = 1) (h : μ < x.fNumber) (hp : Prom x.fNumber xs ν) : Prom μ (x :: xs) ν
  | ev {μ ν : Int} {x : It} {xs : List It} (hk : x.fKind = 0) (hs : x.fEvent.fSource = 0) (ht : μ < x.fEvent.fTime) (hp : Prom μ xs ν) : Prom μ (x :: xs) ν
theorem Prom.append {a b c : Int} {xs ys : List It} (h : Prom a xs b) (k : Prom b ys c) : Prom a (xs ++ ys) c := by
  induction h with
  | nil => exact k
  | mark hk h _ ih => exact .mark hk h (ih k)
  | ev hk hs ht _ ih => exact .ev hk hs ht (ih k)
end Go.Proofs.YtcbdhigllelmcaaGreat
