/- Chapter 47, plain: routing (both), what is small, the examples. Chapter 47, plain: the law Gathers. What some functions compute, over plain values. Printed by a program of mine (gen_fun.lean). -/
import Derived.Test.YtcbdhigllelmcaaK11
import Derived.Test.YtcbdhigllelmcaaK10
import Derived.Test.YtcbdhigllelmcaaK09
set_option linter.unusedVariables false
set_option linter.unusedSimpArgs false
set_option maxRecDepth 100000
set_option maxHeartbeats 8000000
namespace Go.Proofs.Ytcbdhigllelmcaa
open Go.RowKit

def hitsK (keys : List (List Int)) (e : Ev47) (w : Int) : List Int := keys.filterMap fun key => if (keyOf key e).2 = true then some (ownr (grpV (keyOf key e).1) w) else none
def rngI (k j : Nat) : List Int := (List.range' k j).map fun (i : Nat) => (i : Int)
def tgt (keys : List (List Int)) (w : Int) (x : It) : List Int := if x.fKind = 0 then (rngI 0 w.toNat).filter (fun i => decide (i ∈ hitsK keys x.fEvent w)) else rngI 0 w.toNat
theorem rngI_cons (k j : Nat) : rngI k (j + 1) = (k : Int) :: rngI (k + 1) j := rfl
theorem mem_rngI {k j : Nat} {i : Int} : i ∈ rngI k j ↔ (k : Int) ≤ i ∧ i < (k : Int) + (j : Int) := by
  unfold rngI
  simp only [List.mem_map, List.mem_range'_1]
  constructor
  · rintro ⟨a, h, rfl⟩; omega
  · intro h; exact ⟨i.toNat, by omega, by omega⟩
theorem rngI_len (k j : Nat) : (rngI k j).length = j := by simp [rngI]
def SeenI (m : List (Int × Bool)) (p : List Int) : Prop := ∀ x, mlk m x = if x ∈ p then some true else none
theorem SeenI.nil : SeenI [] [] := fun x => by simp [mlk]
theorem SeenI.put {m : List (Int × Bool)} {p : List Int} (h : SeenI m p) (a : Int) : SeenI (mput m a true) (p ++ [a]) := fun x => by
  rw [mlk_put, h x]
  by_cases h1 : x = a
  · simp [h1]
  · simp [h1]
theorem SeenI.get {m : List (Int × Bool)} {p : List Int} (h : SeenI m p) (a : Int) : (mlk m a).getD false = decide (a ∈ p) := by
  rw [h a]
  by_cases h1 : a ∈ p <;> simp [h1]
theorem p_route_l3 (n w : Nat) (mp : List (Int × Bool)) (p : List Int) (hp : SeenI mp p) (hw : w ≤ 1000) (K : List Int → Option (List Int × Int)) : ∀ (f k : Nat) (acc : List Int), k ≤ w → w < f + k → acc.length ≤ k →
    F_reader_Route_l3 n (w : Int) mp K f ((k : Int), acc) = K (acc ++ (rngI k (w - k)).filter (fun i => decide (i ∈ p)))
  | 0, k, acc, h1, h2, h3 => by omega
  | f + 1, k, acc, h1, h2, h3 => by
    unfold F_reader_Route_l3
    simp only [cnd_if, mgt_k, hp.get]
    by_cases h : k < w
    · rw [if_pos (by omega), app_ok (by simp; omega) (by omega), wrapS k (by omega), show w - k = (w - (k + 1)) + 1 by omega, rngI_cons, List.filter_cons, p_route_l3 n w mp p hp hw K f (k + 1) _ (by omega) (by omega) (by simp; omega), p_route_l3 n w mp p hp hw K f (k + 1) _ (by omega) (by omega) (by omega)]
      by_cases h4 : (k : Int) ∈ p
      · rw [if_pos h4, if_pos (decide_eq_true h4), List.append_assoc]; rfl
      · rw [if_neg h4, if_neg (by simpa using h4)]
    · rw [if_neg (by omega), show w - k = 0 by omega]; simp [rngI]
theorem p_route_l5 (n w : Nat) (mp : List (Int × Bool)) (p : List Int) (hp : SeenI mp p) (hw : w ≤ 1000) (K : List Int → Option (List Int × Int)) : ∀ (f k : Nat) (acc : List Int), k ≤ w → w < f + k → acc.length ≤ k →
    F_reader_Route_l5 n (w : Int) mp K f ((k : Int), acc) = K (acc ++ (rngI k (w - k)).filter (fun i => decide (i ∈ p)))
  | 0, k, acc, h1, h2, h3 => by omega
  | f + 1, k, acc, h1, h2, h3 => by
    unfold F_reader_Route_l5
    simp only [cnd_if, mgt_k, hp.get]
    by_cases h : k < w
    · rw [if_pos (by omega), app_ok (by simp; omega) (by omega), wrapS k (by omega), show w - k = (w - (k + 1)) + 1 by omega, rngI_cons, List.filter_cons, p_route_l5 n w mp p hp hw K f (k + 1) _ (by omega) (by omega) (by simp; omega), p_route_l5 n w mp p hp hw K f (k + 1) _ (by omega) (by omega) (by omega)]
      by_cases h4 : (k : Int) ∈ p
      · rw [if_pos h4, if_pos (decide_eq_true h4), List.append_assoc]; rfl
      · rw [if_neg h4, if_neg (by simpa using h4)]
    · rw [if_neg (by omega), show w - k = 0 by omega]; simp [rngI]
theorem p_route_l2 (n w : Nat) (hw : w ≤ 1000) (K : List (Int × Bool) → Option (List Int × Int)) : ∀ (f k : Nat) (mp : List (Int × Bool)), k ≤ w → w < f + k → SeenI mp (rngI 0 k) → ∃ mp', SeenI mp' (rngI 0 w) ∧ F_reader_Route_l2 n (w : Int) K f ((k : Int), mp) = K mp'
  | 0, k, mp, h1, h2, h3 => by omega
  | f + 1, k, mp, h1, h2, h3 => by
    unfold F_reader_Route_l2
    simp only [cnd_if, mst_k]
    by_cases h : k < w
    · rw [if_pos (by omega), wrapS k (by omega)]
      refine p_route_l2 n w hw K f (k + 1) _ (by omega) (by omega) ?_
      have : rngI 0 (k + 1) = rngI 0 k ++ [(k : Int)] := by unfold rngI; rw [List.range'_1_concat]; simp
      rw [this]
      exact h3.put _
    · rw [if_neg (by omega)]
      have : k = w := by omega
      subst this
      exact ⟨mp, h3, rfl⟩
theorem p_route_l4 (n : Nat) (x : It) (w : Int) (keys : List (List Int)) (l : List Sch) (hw : 1 ≤ w ∧ w ≤ 8) (hl : keys.length ≤ 1000) (ha : allErr l = 0) (he : evErr l x.fEvent = 0) (hk : ∀ key ∈ keys, keyErr l key = 0) (hkl : ∀ key ∈ keys, key.length ≤ 1000) (hv : x.fEvent.fValues.length ≤ 12) (hn : 2000 ≤ n)
    (K : List (Int × Bool) → Option (List Int × Int)) : ∀ (f k : Nat) (mp : List (Int × Bool)) (p : List Int), k ≤ keys.length → keys.length < f + k → SeenI mp p → ∃ mp', SeenI mp' (p ++ hitsK (keys.drop k) x.fEvent w) ∧ F_reader_Route_l4 n x w keys l K f ((k : Int), mp) = K mp'
  | 0, k, mp, p, h1, h2, h3 => by omega
  | f + 1, k, mp, p, h1, h2, h3 => by
    unfold F_reader_Route_l4
    simp only [List.length_map, cnd_if, mst_k]
    by_cases h : k < keys.length
    · have hm := List.getElem_mem h
      have hkk := hk _ hm
      have hkl' := hkl _ hm
      have hok := keyOf_ok he hkk
      rw [if_pos (by omega), idx_nat h, p_key n l keys[k] x.fEvent (by omega) (by omega) (by omega) (by omega) ha he hkk, bnd_some, p_group n _ (by omega), bnd_some, if_nne hok, dropK_cons h, wrapS k (by omega)]
      have eh : hitsK (keys[k] :: keys.drop (k + 1)) x.fEvent w = (if (keyOf keys[k] x.fEvent).2 = true then [ownr (grpV (keyOf keys[k] x.fEvent).1) w] else []) ++ hitsK (keys.drop (k + 1)) x.fEvent w := by
        unfold hitsK
        rw [List.filterMap_cons]
        split <;> rename_i h5 <;> split at h5 <;> simp_all
      rw [eh]
      simp only
      cases h4 : (keyOf keys[k] x.fEvent).2 with
      | true =>
        rw [cnd_t, if_pos rfl, p_worker n _ w (grpV_b _) hw (by omega), bnd_some]
        obtain ⟨mp', g1, g2⟩ := p_route_l4 n x w keys l hw hl ha he hk hkl hv hn K f (k + 1) (mput mp (ownr (grpV (keyOf keys[k] x.fEvent).1) w) true) (p ++ [ownr (grpV (keyOf keys[k] x.fEvent).1) w]) (by omega) (by omega) (h3.put _)
        exact ⟨mp', by rw [← List.append_assoc]; exact g1, g2⟩
      | false =>
        rw [cnd_f]
        obtain ⟨mp', g1, g2⟩ := p_route_l4 n x w keys l hw hl ha he hk hkl hv hn K f (k + 1) mp p (by omega) (by omega) h3
        exact ⟨mp', by simpa using g1, g2⟩
    · rw [if_neg (by omega), List.drop_eq_nil_of_le (by omega)]
      exact ⟨mp, by simpa [hitsK] using h3, rfl⟩
def keysAll (l : List Sch) : List (List Int) → Int
  | [] => 0
  | k :: r => if keyErr l k = 0 then keysAll l r else keyErr l k
theorem keysAll_zero {l : List Sch} : ∀ {keys : List (List Int)}, keysAll l keys = 0 → ∀ k ∈ keys, keyErr l k = 0
  | [], _, k, h => by simp at h
  | a :: r, h0, k, h => by
    rw [keysAll] at h0
    by_cases h1 : keyErr l a = 0
    · rw [if_pos h1] at h0
      rcases List.mem_cons.1 h with rfl | h
      · exact h1
      · exact keysAll_zero h0 k h
    · rw [if_neg h1] at h0; exact absurd h0 h1
def routeS (l : List Sch) (keys : List (List Int)) (w : Int) (x : It) : List Int × Int :=
  if allErr l ≠ 0 then ([], allErr l) else if 16 < keys.length then ([], 5) else if keysAll l keys ≠ 0 then ([], keysAll l keys) else
  if w < 1 ∨ 8 < w then ([], 2) else if itmErr x ≠ 0 then ([], itmErr x) else if x.fKind = 0 ∧ evErr l x.fEvent ≠ 0 then ([], evErr l x.fEvent) else (tgt keys w x, 0)
theorem p_route_l1 (n : Nat) (x : It) (w : Int) (keys : List (List Int)) (l : List Sch) (hl : keys.length ≤ 1000) (hkl : ∀ key ∈ keys, key.length ≤ 1000) (hn : 2000 ≤ n) (K : Option (List Int × Int)) : ∀ (f k : Nat), k ≤ keys.length → keys.length < f + k →
    F_reader_Route_l1 n x w keys l K f (k : Int) = if keysAll l (keys.drop k) = 0 then K else some ([], keysAll l (keys.drop k))
  | 0, k, h1, h2 => by omega
  | f + 1, k, h1, h2 => by
    unfold F_reader_Route_l1
    simp only [List.length_map, cnd_if, cnd_not]
    by_cases h : k < keys.length
    · have := hkl _ (List.getElem_mem h)
      rw [if_pos (by omega), idx_nat h, p_checkKey n l _ (by omega) (by omega), bnd_some, wrapS k (by omega), p_route_l1 n x w keys l hl hkl hn K f (k + 1) (by omega) (by omega), dropK_cons h, keysAll]
      by_cases h3 : keyErr l keys[k] = 0
      · rw [if_pos h3, if_pos h3]
      · rw [if_neg h3, if_neg h3, if_neg h3]
    · rw [if_neg (by omega), List.drop_eq_nil_of_le (by omega)]; rfl
theorem p_Route (n : Nat) (l : List Sch) (keys : List (List Int)) (w : Int) (x : It) (hl : keys.length ≤ 1000) (hkl : ∀ key ∈ keys, key.length ≤ 1000) (hv : x.fEvent.fValues.length ≤ 12) (hn : 2000 ≤ n) : F_reader_Route n l keys w x = some (routeS l keys w x) := by
  unfold F_reader_Route routeS
  simp only [List.length_map, cnd_if, cnd_not]
  rw [p_all n l (by omega), bnd_some]
  by_cases h1 : allErr l = 0
  · rw [if_pos h1, if_nne h1]
    by_cases h2 : 16 < keys.length
    · rw [if_pos (by omega), if_pos h2]
    · rw [if_neg (by omega), if_neg h2]
      have := p_route_l1 n x w keys l hl hkl hn (if w < 1 then some ([], 2) else if 8 < w then some ([], 2) else bnd (F_channel_Check n [⟨0, 0, [x]⟩]) fun x42 => if x42 = 0 then (if x.fKind = 0 then bnd (F_event_Check n l x.fEvent) fun x129 => if x129 = 0 then F_reader_Route_l4 n x w keys l (fun y => F_reader_Route_l5 n w y (fun z => some (z, 0)) n (0, [])) n (0, []) else some ([], x129) else
        F_reader_Route_l2 n w (fun y => F_reader_Route_l3 n w y (fun z => some (z, 0)) n (0, [])) n (0, [])) else some ([], x42)) n 0 (by omega) (by omega)
      simp only [Int.natCast_zero, List.drop_zero] at this
      rw [this]
      by_cases h3 : keysAll l keys = 0
      · rw [if_pos h3, if_nne h3]
        by_cases h4 : w < 1 ∨ 8 < w
        · rw [if_pos h4]
          split
          · rfl
          · rw [if_pos (by omega)]
        · rw [if_neg h4, if_neg (show ¬ w < 1 by omega), if_neg (show ¬ 8 < w by omega), p_chan n x (by omega), bnd_some]
          obtain ⟨j, rfl⟩ : ∃ j : Nat, w = (j : Int) := ⟨w.toNat, by omega⟩
          by_cases h5 : itmErr x = 0
          · rw [if_pos h5, if_nne h5]
            by_cases h6 : x.fKind = 0
            · rw [if_pos h6, p_evCheck n l x.fEvent (by omega) (by omega) (by omega) h1, bnd_some]
              by_cases h7 : evErr l x.fEvent = 0
              · rw [if_pos h7, if_neg (fun e => e.2 h7)]
                obtain ⟨mp, g1, g2⟩ := p_route_l4 n x (j : Int) keys l (by omega) hl h1 h7 (keysAll_zero h3) hkl hv hn (fun y => F_reader_Route_l5 n (j : Int) y (fun z => some (z, 0)) n (0, [])) n 0 [] [] (by omega) (by omega) .nil
                simp only [Int.natCast_zero, List.drop_zero, List.nil_append] at g1 g2
                have g3 := p_route_l5 n j mp _ g1 (by omega) (fun z => some (z, 0)) n 0 [] (by omega) (by omega) (by simp)
                simp only [Int.natCast_zero, List.nil_append, Nat.sub_zero] at g3
                rw [g2, g3]
                unfold tgt
                rw [if_pos h6, Int.toNat_natCast]
              · rw [if_neg h7, if_pos ⟨h6, h7⟩]
            · rw [if_neg h6, if_neg (fun e => h6 e.1)]
              obtain ⟨mp, g1, g2⟩ := p_route_l2 n j (by omega) (fun y => F_reader_Route_l3 n (j : Int) y (fun z => some (z, 0)) n (0, [])) n 0 [] (by omega) (by omega) (by simpa [rngI] using SeenI.nil)
              have g3 := p_route_l3 n j mp _ g1 (by omega) (fun z => some (z, 0)) n 0 [] (by omega) (by omega) (by simp)
              simp only [Int.natCast_zero, List.nil_append, Nat.sub_zero] at g2 g3
              rw [g2, g3]
              unfold tgt
              rw [if_neg h6, Int.toNat_natCast, List.filter_eq_self.2 (fun i hi => by simpa using hi)]
          · rw [if_neg h5, if_pos h5]
      · rw [if_neg h3, if_pos h3]
  · rw [if_neg h1, if_pos h1]

theorem rngI_get {w i : Nat} (h : i < (rngI 0 w).length) : (rngI 0 w)[i] = (i : Int) := by simp [rngI]
def ex47s : List Sch := [⟨ByteArray.mk #[65], [⟨ByteArray.mk #[115], 2⟩]⟩]
def ex47e (s t : Int) : Ev47 := ⟨0, s, 0, t, [⟨2, 0, ByteArray.mk #[97]⟩]⟩
def ex47l : List Ms := [⟨0, ex47e 1 7, 0, 0, 0⟩, ⟨1, zeroE, 0, 2, 5⟩, ⟨0, ex47e 0 4, 0, 0, 0⟩, ⟨0, ex47e 1 7, 0, 0, 0⟩]
theorem ex47a : readS ex47s ⟨0, 0, t0⟩ ex47l = (⟨0, 1, ⟨0, [1], [], -1⟩⟩, [⟨0, ex47e 1 7, 0⟩], 0) := by decide +kernel
theorem ex47b : replS ex47s ⟨0, 0, t0⟩ ex47l = (⟨0, 4, ⟨2, [], [], 5⟩⟩, [⟨0, ex47e 1 7, 0⟩, ⟨0, ex47e 0 4, 0⟩, ⟨1, zeroE, 5⟩], 0) := by decide +kernel
theorem ex47c : routeS ex47s [[0]] 2 ⟨0, ex47e 1 7, 0⟩ = ([1], 0) := by decide +kernel
theorem ex47d : routeS ex47s [] 2 ⟨1, zeroE, 5⟩ = ([0, 1], 0) := by decide +kernel
theorem ex47v : ∀ m ∈ ex47l, m.fEvent.fValues.length ≤ 12 := by decide +kernel
theorem awake47 (n : Nat) (hn : 10000 ≤ n) : F_tidegatelaw47_awake n = some true := by
  have r0 : F_reader_Begin n 0 = some (⟨0, 0, t0⟩, 0) := p_beginR n 0
  have r1 := p_Read n ex47s ⟨0, 0, t0⟩ ex47l ex47v (by omega)
  have r2 := p_Replay n ex47s ⟨0, 0, t0⟩ ex47l ex47v hn
  have r3 := p_Route n ex47s [[0]] 2 ⟨0, ex47e 1 7, 0⟩ (by simp) (by simp) (by decide) (by omega)
  have r4 := p_Route n ex47s [] 2 ⟨1, zeroE, 5⟩ (by simp) (by simp) (by decide) (by omega)
  have r5 := p_sameItems n [⟨0, ex47e 1 7, 0⟩] [⟨0, ex47e 1 7, 0⟩] (by simp) (by simp; omega) (by decide) (by omega)
  have r6 := p_sameItems n [⟨0, ex47e 1 7, 0⟩, ⟨0, ex47e 0 4, 0⟩, ⟨1, zeroE, 5⟩] [⟨0, ex47e 1 7, 0⟩, ⟨0, ex47e 0 4, 0⟩, ⟨1, zeroE, 5⟩] (by simp) (by simp; omega) (by decide) (by omega)
  have r7 := p_sameI n [1] [1] (by simp) (by simp; omega)
  have r8 := p_sameI n [0, 1] [0, 1] (by simp) (by simp; omega)
  rw [ex47a] at r1
  rw [ex47b] at r2
  rw [ex47c] at r3
  rw [ex47d] at r4
  rw [decide_eq_true rfl] at r5 r6 r7 r8
  unfold F_tidegatelaw47_awake F_tidegatelaw47_event F_tidegatelaw47_types
  simp only [bnd_some, r0]
  simp only [ex47s, ex47l, ex47e, zeroE] at r1 r2 r3 r4 r5 r6
  simp only [r1, r2, r3, r4, r5, r6, r7, r8, bnd_some, cnd_not, cnd_if, cnd_t, if_true]
end Go.Proofs.Ytcbdhigllelmcaa
namespace Go.Proofs.Ytcbdhigllelmcaa
open Go.RowKit

def ex47g : List Sch := [⟨ByteArray.mk #[65], [⟨ByteArray.mk #[120], 0⟩, ⟨ByteArray.mk #[115], 2⟩]⟩]
theorem ex47g_ok : allErr ex47g = 0 := by decide +kernel
theorem ex47g_k1 : keysAll ex47g [[1]] = 0 := by decide +kernel
theorem ex47g_k2 : keysAll ex47g [[1], [0], [-1], []] = 0 := by decide +kernel
theorem ex47g_k3 : keysAll ex47g [[-1]] = 0 := by decide +kernel
def pickI (w : Int) (p : List Int) : List Int := (rngI 0 w.toNat).filter fun i => decide (i ∈ p)
theorem mem_pickI {w : Int} {p : List Int} {i : Int} : i ∈ pickI w p ↔ 0 ≤ i ∧ i < (w.toNat : Int) ∧ i ∈ p := by
  unfold pickI
  rw [List.mem_filter, mem_rngI, decide_eq_true_eq]
  constructor
  · rintro ⟨⟨h1, h2⟩, h3⟩; exact ⟨by omega, by omega, h3⟩
  · rintro ⟨h1, h2, h3⟩; exact ⟨⟨by omega, by omega⟩, h3⟩
theorem rngI_asc (k j : Nat) : (rngI k j).Pairwise (· < ·) := by
  unfold rngI
  rw [List.pairwise_map]
  exact (List.pairwise_lt_range' (s := k) (n := j)).imp fun h => by omega
theorem pickI_asc (w : Int) (p : List Int) : (pickI w p).Pairwise (· < ·) := (rngI_asc _ _).sublist List.filter_sublist
theorem nodup_len : ∀ (l p : List Int), l.Nodup → (∀ x ∈ l, x ∈ p) → l.length ≤ p.length
  | [], p, _, _ => Nat.zero_le _
  | a :: l, p, hn, hs => by
    have hn' := List.nodup_cons.1 hn
    have ha := hs a (by simp)
    have := nodup_len l (p.erase a) hn'.2 (fun x hx => (List.mem_erase_of_ne (fun e => hn'.1 (by rw [← e]; exact hx))).2 (hs x (by simp [hx])))
    rw [List.length_erase_of_mem ha] at this
    have := List.length_pos_of_mem ha
    rw [List.length_cons]
    omega
theorem asc_len (l p : List Int) (hl : l.Pairwise (· < ·)) (hs : ∀ x ∈ l, x ∈ p) : l.length ≤ p.length := nodup_len l p (hl.imp fun h => by omega) hs
theorem asc_one {w o : Int} (ho : 0 ≤ o ∧ o < w) : pickI w [o] = [o] := by
  have h1 : o ∈ pickI w [o] := mem_pickI.2 ⟨ho.1, by omega, by simp⟩
  have h2 := asc_len (pickI w [o]) [o] (pickI_asc _ _) (fun x hx => (mem_pickI.1 hx).2.2)
  match h : pickI w [o], h1, h2 with
  | [x], h1, _ => rw [List.mem_singleton.1 h1]
  | x :: y :: r, _, h2 => simp at h2
theorem p_gath_l1 (n : Nat) (rt : T_tidegatelaw47_Routing) (a : Ev47) (x7 x9 : List Int × Int) (o : Int) (h7 : x7.1 = [o]) (hl : x9.1.length ≤ 1000000) (ha : x9.1.Pairwise (· < ·)) (hb : ∀ i ∈ x9.1, 0 ≤ i ∧ i < rt.fWorkers) (K : Bool → Option Bool) : ∀ (f k : Nat) (b : Bool), k ≤ x9.1.length → x9.1.length < f + k →
    F_tidegatelaw47_ReaderGathers_l1 n rt a x7 x9 K f (b, (k : Int)) = K (b || (x9.1.drop k).any fun i => decide (i = o))
  | 0, k, b, h1, h2 => by omega
  | f + 1, k, b, h1, h2 => by
    rw [F_tidegatelaw47_ReaderGathers_l1]
    simp only [cnd_if, List.length_map]
    by_cases h : k < x9.1.length
    · obtain ⟨b1, b2⟩ := hb _ (List.getElem_mem h)
      have e7 : ∀ (g : Int → Option Bool), idx x7.1 0 g = g o := fun g => by rw [h7, idx_zero]
      have hprev : 0 < k → ∀ (g : Int → Option Bool), idx x9.1 (IntKind.wrap .i64 ((k : Int) - 1)) g = g (x9.1[k - 1]'(by omega)) := fun h0 g => by
        rw [wrap_in _ (by omega), show (k : Int) - 1 = ((k - 1 : Nat) : Int) by omega, idx_nat (by omega)]
      have hasc : ∀ (h0 : 0 < k), x9.1[k - 1]'(by omega) < x9.1[k] := fun h0 => List.pairwise_iff_getElem.1 ha _ _ _ _ (by omega)
      rw [if_pos (by omega), wrapS k (by omega), dropK_cons h, List.any_cons]
      simp only [idx_nat h, e7, if_neg (show ¬ x9.1[k] < 0 by omega), if_neg (show ¬ rt.fWorkers ≤ x9.1[k] by omega)]
      have ih := fun c => p_gath_l1 n rt a x7 x9 o h7 hl ha hb K f (k + 1) c (by omega) (by omega)
      by_cases h0 : 0 < k
      · have h4 := hasc h0
        simp only [hprev h0, if_pos (show (0 : Int) < (k : Int) by omega), if_neg (show ¬ x9.1[k] ≤ x9.1[k - 1]'(by omega) by omega), ih]
        cases b with
        | true => simp only [cnd_t, Bool.true_or]
        | false => simp only [cnd_f, Bool.false_or]
      · simp only [if_neg (show ¬ (0 : Int) < (k : Int) by omega), ih]
        cases b with
        | true => simp only [cnd_t, Bool.true_or]
        | false => simp only [cnd_f, Bool.false_or]
    · rw [if_neg (by omega), List.drop_eq_nil_of_le (by omega)]; simp
theorem p_gath_l2 (n : Nat) (rt : T_tidegatelaw47_Routing) (a : Ev47) (w : Nat) (hw : w ≤ 1000) (K : Option Bool) : ∀ (f k : Nat), k ≤ w → w < f + k → F_tidegatelaw47_ReaderGathers_l2 n rt a (rngI 0 w, 0) K f (k : Int) = K
  | 0, k, h1, h2 => by omega
  | f + 1, k, h1, h2 => by
    rw [F_tidegatelaw47_ReaderGathers_l2]
    simp only [cnd_if, cnd_not, List.length_map, rngI_len]
    by_cases h : k < w
    · have hk : k < (rngI 0 w).length := by rw [rngI_len]; exact h
      rw [if_pos (by omega), idx_nat hk, rngI_get, if_pos rfl, wrapS k (by omega), p_gath_l2 n rt a w hw K f (k + 1) (by omega) (by omega)]
    · rw [if_neg (by omega)]
theorem two_of {l : List Vl} (h : l.length = 2) : ∃ x y, l = [x, y] := by
  match l, h with
  | [x, y], _ => exact ⟨x, y, rfl⟩
theorem law_gathers47 (a b : Ev47) (rt : T_tidegatelaw47_Routing) : F_tidegatelaw47_ReaderGathers 100000 a b rt = some true := by
  unfold F_tidegatelaw47_ReaderGathers
  have aw := awake47 100000 (by omega)
  simp only [cnd_not, cnd_if, List.length_map, aw, bnd_some]
  by_cases ha : a.fValues.length = 2
  · rw [if_pos (by omega)]
    by_cases hb : b.fValues.length = 2
    · rw [if_pos (by omega)]
      by_cases h1 : rt.fWorkers < 1
      · rw [if_pos h1]
      · rw [if_neg h1]
        by_cases h8 : 8 < rt.fWorkers
        · rw [if_pos h8]
        · rw [if_neg h8]
          have hw : 1 ≤ rt.fWorkers ∧ rt.fWorkers ≤ 8 := by omega
          obtain ⟨a0, a1, ea⟩ := two_of ha
          obtain ⟨b0, b1, eb⟩ := two_of hb
          have i0 : ∀ (g : Vl → Option Bool), idx b.fValues 0 g = g b0 := fun g => by rw [eb, idx_zero]
          have i1 : ∀ (g : Vl → Option Bool), idx a.fValues 1 g = g a1 := fun g => by rw [ea]; exact idx_nat (i := 1) (by simp) g
          rw [i0, i1]
          have hex : ([⟨ByteArray.mk #[65], [⟨ByteArray.mk #[120], 0⟩, ⟨ByteArray.mk #[115], 2⟩]⟩] : List Sch) = ex47g := rfl
          have key : ∀ (keys : List (List Int)) (x : It), keys.length ≤ 4 → (∀ k ∈ keys, k.length ≤ 1) → x.fEvent.fValues.length ≤ 2 → F_reader_Route 100000 ex47g keys rt.fWorkers x = some (routeS ex47g keys rt.fWorkers x) := fun keys x k1 k2 k3 => p_Route _ _ _ _ _ (by omega) (fun k hk => by have := k2 k hk; omega) (by omega) (by omega)
          rw [hex, key _ _ (by simp) (by simp) (by simp only; omega), bnd_some, key _ _ (by simp) (by simp) (by simp), bnd_some, key _ _ (by simp) (by simp) (by simp only; omega), bnd_some, key _ _ (by simp) (by simp) (by simp), key _ _ (by simp) (by simp) (by simp only; omega)]
          -- what Route computes
          have rs : ∀ (keys : List (List Int)) (e : Ev47), keys.length ≤ 4 → keysAll ex47g keys = 0 → routeS ex47g keys rt.fWorkers ⟨0, e, 0⟩ = if evErr ex47g e ≠ 0 then ([], evErr ex47g e) else (pickI rt.fWorkers (hitsK keys e rt.fWorkers), 0) := fun keys e k1 k2 => by
            unfold routeS
            rw [if_nne ex47g_ok, if_neg (by omega), if_nne k2, if_neg (by omega), if_nne (show itmErr ⟨0, e, 0⟩ = 0 from rfl)]
            by_cases h : evErr ex47g e = 0
            · rw [if_neg (fun q => q.2 h), if_nne h]; rfl
            · rw [if_pos ⟨rfl, h⟩, if_pos h]
          rw [rs _ a (by simp) ex47g_k1, rs _ _ (by simp) ex47g_k1, rs _ a (by simp) ex47g_k2, rs _ a (by simp) ex47g_k3]
          by_cases h2 : evErr ex47g a = 0
          · simp only [if_nne h2, if_true]
            by_cases h3 : evErr ex47g ⟨b.fSource, b.fSeq, b.fType, b.fTime, [b0, a1]⟩ = 0
            · simp only [if_nne h3, if_true]
              have ty : ∀ e : Ev47, evErr ex47g e = 0 → e.fType.toNat = 0 := fun e he => by
                obtain ⟨_, t1, t2, _⟩ := evErr_zero he
                have : ex47g.length = 1 := rfl
                omega
              have k1 : keyOf [1] a = (a1, true) := by unfold keyOf; rw [ty a h2, ea]; rfl
              have k1' : keyOf [1] (⟨b.fSource, b.fSeq, b.fType, b.fTime, [b0, a1]⟩ : Ev47) = (a1, true) := by unfold keyOf; rw [ty _ h3]; rfl
              have k0 : keyOf [0] a = (a0, true) := by unfold keyOf; rw [ty a h2, ea]; rfl
              have km : keyOf [-1] a = (zeroV, false) := by unfold keyOf; rw [ty a h2]; rfl
              have ke : keyOf [] a = (zeroV, true) := rfl
              have ho := ownr_b (grpV_b a1) hw
              have hh1 : hitsK [[1]] a rt.fWorkers = [ownr (grpV a1) rt.fWorkers] := by simp [hitsK, k1]
              have hh1' : hitsK [[1]] (⟨b.fSource, b.fSeq, b.fType, b.fTime, [b0, a1]⟩ : Ev47) rt.fWorkers = [ownr (grpV a1) rt.fWorkers] := by simp [hitsK, k1']
              have hh3 : hitsK [[1], [0], [-1], []] a rt.fWorkers = [ownr (grpV a1) rt.fWorkers, ownr (grpV a0) rt.fWorkers, ownr (grpV zeroV) rt.fWorkers] := by simp [hitsK, k1, k0, km, ke]
              have hhm : hitsK [[-1]] a rt.fWorkers = [] := by simp [hitsK, km]
              rw [hh1, hh1', hh3, hhm, asc_one ho]
              generalize ho1 : ownr (grpV a1) rt.fWorkers = o at *
              have hn : pickI rt.fWorkers [] = [] := by
                apply List.eq_nil_iff_forall_not_mem.2
                intro x hx
                have := (mem_pickI.1 hx).2.2
                simp at this
              have hm : o ∈ pickI rt.fWorkers [o, ownr (grpV a0) rt.fWorkers, ownr (grpV zeroV) rt.fWorkers] := mem_pickI.2 ⟨ho.1, by omega, by simp⟩
              have hlen := asc_len _ _ (pickI_asc rt.fWorkers [o, ownr (grpV a0) rt.fWorkers, ownr (grpV zeroV) rt.fWorkers]) (fun x hx => (mem_pickI.1 hx).2.2)
              have hpos := List.length_pos_of_mem hm
              have hrng : ∀ i ∈ pickI rt.fWorkers [o, ownr (grpV a0) rt.fWorkers, ownr (grpV zeroV) rt.fWorkers], 0 ≤ i ∧ i < rt.fWorkers := fun i hi => by have := mem_pickI.1 hi; omega
              have hasc := pickI_asc rt.fWorkers [o, ownr (grpV a0) rt.fWorkers, ownr (grpV zeroV) rt.fWorkers]
              generalize pickI rt.fWorkers [o, ownr (grpV a0) rt.fWorkers, ownr (grpV zeroV) rt.fWorkers] = P at *
              rw [p_sameI _ _ _ (by simp) (by simp), bnd_some, decide_eq_true rfl]
              simp only [List.length_cons, List.length_nil] at hlen ⊢
              rw [if_pos (by simp), cnd_t, if_neg (by omega), if_neg (by omega)]
              have := p_gath_l1 100000 rt a ([o], 0) (P, 0) o rfl (by simp only; omega) hasc hrng
              have hl := this
              clear this
              obtain ⟨j, hj⟩ : ∃ j : Nat, rt.fWorkers = (j : Int) := ⟨rt.fWorkers.toNat, by omega⟩
              have rm : routeS ex47g [] rt.fWorkers ⟨1, ⟨0, 0, 0, 0, []⟩, 3⟩ = (rngI 0 j, 0) := by
                unfold routeS
                rw [if_nne ex47g_ok, if_neg (by simp), if_nne (show keysAll ex47g [] = 0 from rfl), if_neg (by omega), if_nne (show itmErr ⟨1, ⟨0, 0, 0, 0, []⟩, 3⟩ = 0 from rfl), if_neg (fun q => absurd q.1 (by decide)), hj]
                rfl
              have hend := hl (fun k1_0_0y => bnd (some (routeS ex47g [] rt.fWorkers ⟨1, ⟨0, 0, 0, 0, []⟩, 3⟩)) fun x54 => if x54.2 = 0 then (if (((List.map aI x54.1).length : Nat) : Int) = rt.fWorkers then cnd k1_0_0y (F_tidegatelaw47_ReaderGathers_l2 100000 rt a x54 (some (decide ((((List.map aI (pickI rt.fWorkers [])).length : Nat) : Int) = 0))) 100000 0) (some false) else some false) else some false) 100000 0 false (by omega) (by simp only; omega)
              have hany : (P.drop 0).any (fun i => decide (i = o)) = true := by rw [List.drop_zero, List.any_eq_true]; exact ⟨o, hm, decide_eq_true rfl⟩
              simp only [Bool.false_or] at hend
              rw [hany, rm, bnd_some] at hend
              simp only [Int.natCast_zero, if_true, cnd_t, List.length_map, rngI_len] at hend
              rw [if_pos hj.symm, hn] at hend
              have g2 := p_gath_l2 100000 rt a j (by omega) (some (decide ((((List.map aI ([] : List Int)).length : Nat) : Int) = 0))) 100000 0 (by omega) (by omega)
              simp only [Int.natCast_zero, List.length_map] at g2
              rw [g2] at hend
              simp only [rm, bnd_some, List.length_map] at hend ⊢
              refine Eq.trans ?_ hend
              simp only [hn, cnd_t, if_true]
            · simp only [if_pos h3]
              rw [if_neg h3]
          · simp only [if_pos h2]
            rw [if_neg h2]
    · rw [if_neg (by omega)]
  · rw [if_neg (by omega)]
end Go.Proofs.Ytcbdhigllelmcaa
namespace Go.Proofs.Ytcbdhigllelmcaa
open Go.RowKit
theorem con_watermark_kinds : Con E0 true 56 [] (.agg [.fn 61 [], .fn 62 [], .fn 63 [], .fn 64 [], .fn 65 [], .fn 66 []]) := by
  refine Con.walk _ Try.func56 rfl (enters_of Try.func56 rfl rfl) rfl (Or.inr rfl) ?_
  repeat' first
    | (refine AW.step ?_; conv => whnf)
    | (refine CondX.o hF (fun hF => ?_) (fun hF => ?_))
    | (refine CondX.t ?_)
    | (refine CondX.f ?_)
    | (refine And.intro ⟨by kernel_rfl, by kernel_rfl⟩ ?_)
    | (refine EqX.mk (by first | rfl | kernel_rfl) ?_)
    | (exact RetX.mk rfl)

def R_watermark_ranged (r : Bool) : AV := .bool (r)
theorem con_watermark_ranged {n : Nat} {a0 : Int} {a1 : Int} {r : Bool} (hF : F_watermark_ranged n a0 a1 = some r) : Con E0 true 68 [aI (a0), aI (a1)] (R_watermark_ranged r) := by
  unfold F_watermark_ranged at hF
  refine Con.walk _ Try.func68 rfl (enters_of Try.func68 rfl rfl) rfl (Or.inr rfl) ?_
  repeat' first
    | (refine AW.step ?_; conv => whnf)
    | (refine CondX.o hF (fun hF => ?_) (fun hF => ?_))
    | (refine CondX.t ?_)
    | (refine CondX.f ?_)
    | (refine And.intro ⟨by kernel_rfl, by kernel_rfl⟩ ?_)
    | (refine EqX.mk (by first | rfl | kernel_rfl) ?_)
    | (exact RetX.o hF (by repeat' first | exact Sub.nil _ | exact Sub.refl _ | refine Sub.agg ?_ | refine Sub.tup ?_ | refine Sub.fn ?_ | exact SubL.nil | refine SubL.cons ?_ ?_ | refine Sub.sl _ ?_ | exact SubE.nil | refine SubE.cons ?_ ?_))

def R_watermark_checkEvent (r : Int) : AV := aI (r)
theorem con_watermark_checkEvent {n : Nat} {a0 : T_api_Message} {r : Int} (hF : F_watermark_checkEvent n a0 = some r) : Con E0 true 61 [.agg [aI (a0.fKind), aI (a0.fEvent.fSource), aI (a0.fEvent.fSeq), aI (a0.fEvent.fType), aI (a0.fEvent.fTime), .sl 3 (List.map e_api_Value (a0.fEvent.fValues)), aI (a0.fSource), aI (a0.fSeq), aI (a0.fTime)]] (R_watermark_checkEvent r) := by
  unfold F_watermark_checkEvent at hF
  refine Con.walk _ Try.func61 rfl (enters_of Try.func61 rfl rfl) rfl (Or.inr rfl) ?_
  repeat' first
    | (refine AW.step ?_; conv => whnf)
    | (refine CondX.o hF (fun hF => ?_) (fun hF => ?_))
    | (refine CondX.t ?_)
    | (refine CondX.f ?_)
    | (refine CallX.o hF R_watermark_ranged (fun a h => con_watermark_ranged h) (fun a hF => ?_))
    | (refine And.intro ⟨by kernel_rfl, by kernel_rfl⟩ ?_)
    | (refine EqX.mk (by first | rfl | kernel_rfl) ?_)
    | (exact RetX.o hF (by repeat' first | exact Sub.nil _ | exact Sub.refl _ | refine Sub.agg ?_ | refine Sub.tup ?_ | refine Sub.fn ?_ | exact SubL.nil | refine SubL.cons ?_ ?_ | refine Sub.sl _ ?_ | exact SubE.nil | refine SubE.cons ?_ ?_))

def R_sequence_Begin (r : Trk) : AV := .agg [aI (r.next), .sl 1 (List.map aI (r.beyond)), .sl 2 (List.map aPt (r.points)), aI (r.mark)]
theorem con_sequence_Begin {n : Nat} {r : Trk} (hF : F_sequence_Begin n = some r) : Con E0 false 20 [] (R_sequence_Begin r) := by
  unfold F_sequence_Begin at hF
  refine Con.walk _ Try.func20 rfl (enters_of Try.func20 rfl rfl) rfl (Or.inl rfl) ?_
  repeat' first
    | (refine AW.step ?_; conv => whnf)
    | (refine CondX.o hF (fun hF => ?_) (fun hF => ?_))
    | (refine CondX.t ?_)
    | (refine CondX.f ?_)
    | (refine And.intro ⟨by kernel_rfl, by kernel_rfl⟩ ?_)
    | (refine EqX.mk (by first | rfl | kernel_rfl) ?_)
    | (exact RetX.o hF (by repeat' first | exact Sub.nil _ | exact Sub.refl _ | refine Sub.agg ?_ | refine Sub.tup ?_ | refine Sub.fn ?_ | exact SubL.nil | refine SubL.cons ?_ ?_ | refine Sub.sl _ ?_ | exact SubE.nil | refine SubE.cons ?_ ?_))

def R_watermark_valid (r : Bool) : AV := .bool (r)
theorem con_watermark_valid {n : Nat} {a0 : T_api_Message} {r : Bool} (hF : F_watermark_valid n a0 = some r) : Con E0 true 73 [.agg [aI (a0.fKind), aI (a0.fEvent.fSource), aI (a0.fEvent.fSeq), aI (a0.fEvent.fType), aI (a0.fEvent.fTime), .sl 3 (List.map e_api_Value (a0.fEvent.fValues)), aI (a0.fSource), aI (a0.fSeq), aI (a0.fTime)]] (R_watermark_valid r) := by
  unfold F_watermark_valid at hF
  refine Con.walk _ Try.func73 rfl (enters_of Try.func73 rfl rfl) rfl (Or.inr rfl) ?_
  repeat' first
    | (refine AW.step ?_; conv => whnf)
    | (refine CondX.o hF (fun hF => ?_) (fun hF => ?_))
    | (refine CondX.t ?_)
    | (refine CondX.f ?_)
    | (refine CallX.o hF R_sequence_Begin (fun a h => con_sequence_Begin h) (fun a hF => ?_))
    | (refine CallX.o hF R_puAdd (fun a h => con_puAdd h) (fun a hF => ?_))
    | (refine And.intro ⟨by kernel_rfl, by kernel_rfl⟩ ?_)
    | (refine EqX.mk (by first | rfl | kernel_rfl) ?_)
    | (exact RetX.o hF (by repeat' first | exact Sub.nil _ | exact Sub.refl _ | refine Sub.agg ?_ | refine Sub.tup ?_ | refine Sub.fn ?_ | exact SubL.nil | refine SubL.cons ?_ ?_ | refine Sub.sl _ ?_ | exact SubE.nil | refine SubE.cons ?_ ?_))

def R_watermark_checkPoint (r : Int) : AV := aI (r)
theorem con_watermark_checkPoint {n : Nat} {a0 : T_api_Message} {r : Int} (hF : F_watermark_checkPoint n a0 = some r) : Con E0 true 64 [.agg [aI (a0.fKind), aI (a0.fEvent.fSource), aI (a0.fEvent.fSeq), aI (a0.fEvent.fType), aI (a0.fEvent.fTime), .sl 3 (List.map e_api_Value (a0.fEvent.fValues)), aI (a0.fSource), aI (a0.fSeq), aI (a0.fTime)]] (R_watermark_checkPoint r) := by
  unfold F_watermark_checkPoint at hF
  refine Con.walk _ Try.func64 rfl (enters_of Try.func64 rfl rfl) rfl (Or.inr rfl) ?_
  repeat' first
    | (refine AW.step ?_; conv => whnf)
    | (refine CondX.o hF (fun hF => ?_) (fun hF => ?_))
    | (refine CondX.t ?_)
    | (refine CondX.f ?_)
    | (refine CallX.o hF R_watermark_ranged (fun a h => con_watermark_ranged h) (fun a hF => ?_))
    | (refine CallX.o hF R_watermark_valid (fun a h => con_watermark_valid h) (fun a hF => ?_))
    | (refine And.intro ⟨by kernel_rfl, by kernel_rfl⟩ ?_)
    | (refine EqX.mk (by first | rfl | kernel_rfl) ?_)
    | (exact RetX.o hF (by repeat' first | exact Sub.nil _ | exact Sub.refl _ | refine Sub.agg ?_ | refine Sub.tup ?_ | refine Sub.fn ?_ | exact SubL.nil | refine SubL.cons ?_ ?_ | refine Sub.sl _ ?_ | exact SubE.nil | refine SubE.cons ?_ ?_))

def R_watermark_CheckMessage (r : Int) : AV := aI (r)
theorem con_watermark_CheckMessage {n : Nat} {a0 : T_api_Message} {r : Int} (hF : F_watermark_CheckMessage n a0 = some r) : Con E0 true 47 [.agg [aI (a0.fKind), aI (a0.fEvent.fSource), aI (a0.fEvent.fSeq), aI (a0.fEvent.fType), aI (a0.fEvent.fTime), .sl 3 (List.map e_api_Value (a0.fEvent.fValues)), aI (a0.fSource), aI (a0.fSeq), aI (a0.fTime)]] (R_watermark_CheckMessage r) := by
  unfold F_watermark_CheckMessage at hF
  refine Con.walk _ Try.func47 rfl (enters_of Try.func47 rfl rfl) rfl (Or.inr rfl) ?_
  repeat' first
    | (refine AW.step ?_; conv => whnf)
    | (refine CondX.o hF (fun hF => ?_) (fun hF => ?_))
    | (refine CondX.t ?_)
    | (refine CondX.f ?_)
    | (refine CallX.mk _ _ con_watermark_kinds ?_)
    | (refine NatX.o2 hF (fun hF => ?_) (fun hF => ?_))
    | (refine CallX.o hF R_watermark_checkEvent (fun a h => con_watermark_checkEvent h) (fun a hF => ?_))
    | (refine CallX.o hF R_watermark_checkPoint (fun a h => con_watermark_checkPoint h) (fun a hF => ?_))
    | (refine And.intro ⟨by kernel_rfl, by kernel_rfl⟩ ?_)
    | (refine EqX.mk (by first | rfl | kernel_rfl) ?_)
    | (exact RetX.o hF (by repeat' first | exact Sub.nil _ | exact Sub.refl _ | refine Sub.agg ?_ | refine Sub.tup ?_ | refine Sub.fn ?_ | exact SubL.nil | refine SubL.cons ?_ ?_ | refine Sub.sl _ ?_ | exact SubE.nil | refine SubE.cons ?_ ?_))

def S_watermark_Check_l1 (a0 : (List Trk)) (v1_0 : Int) : AS := ⟨[(9, .sl 4 (List.map aTrk (a0))), (10, aI ((((List.map aTrk (a0)).length : Nat) : Int))), (11, aI (v1_0))], []⟩
theorem watermark_Check_l1_o {n N : Nat} {a0 : (List Trk)} {k1_0_0 : Option (Int)} {R : Exit → AS → Prop} {K : List KItem} {c : Code} {σ : AS} {v0 : Int} {r : Int} (hF : F_watermark_Check_l1 n a0 k1_0_0 N v0 = some r) (hl : LeX E0 21 σ (S_watermark_Check_l1 a0 v0)) (round : ∀ m v, F_watermark_Check_l1 n a0 k1_0_0 (m + 1) v = some r → AW E0 21 (thenA (fun σ' => ∃ v', F_watermark_Check_l1 n a0 k1_0_0 m v' = some r ∧ LeX E0 21 σ' (S_watermark_Check_l1 a0 v')) (AW E0 21 R K)) [.code c] .normal (S_watermark_Check_l1 a0 v)) : LoopX E0 21 (fun next σ' => AW E0 21 (thenA next (AW E0 21 R K)) [.code c] .normal σ') σ :=
  LoopA.o (S := S_watermark_Check_l1 a0) hF (fun _ => rfl) hl round
def R_watermark_Check (r : Int) : AV := aI (r)
theorem con_watermark_Check {n : Nat} {a0 : (List Trk)} {r : Int} (hF : F_watermark_Check n a0 = some r) : Con E0 true 57 [.sl 4 (List.map aTrk (a0))] (R_watermark_Check r) := by
  unfold F_watermark_Check at hF
  refine Con.walk _ Try.func57 rfl (enters_of Try.func57 rfl rfl) rfl (Or.inr rfl) ?_
  repeat' first
    | (refine AW.step ?_; conv => whnf)
    | (refine CondX.o hF (fun hF => ?_) (fun hF => ?_))
    | (refine CondX.t ?_)
    | (refine CondX.f ?_)
    | (refine IdxX.o aTrk hF (fun x hF => ?_))
    | (refine CallX.o hF R_puCheck (fun a h => con_puCheck h) (fun a hF => ?_))
    | (exact ⟨_, hF, LeX.of [] rfl ⟨⟨rfl, rfl⟩, ⟨rfl, rfl⟩, ⟨rfl, rfl⟩, trivial⟩ trivial⟩)
    | (refine watermark_Check_l1_o hF (LeX.of [] rfl ⟨⟨rfl, rfl⟩, ⟨rfl, rfl⟩, ⟨rfl, rfl⟩, trivial⟩ trivial) (fun m v hF => ?_); unfold F_watermark_Check_l1 at hF)
    | (refine And.intro ⟨by kernel_rfl, by kernel_rfl⟩ ?_)
    | (refine EqX.mk (by first | rfl | kernel_rfl) ?_)
    | (exact RetX.o hF (by repeat' first | exact Sub.nil _ | exact Sub.refl _ | refine Sub.agg ?_ | refine Sub.tup ?_ | refine Sub.fn ?_ | exact SubL.nil | refine SubL.cons ?_ ?_ | refine Sub.sl _ ?_ | exact SubE.nil | refine SubE.cons ?_ ?_))

def R_watermark_kinds_1 (r : Int) : AV := aI (r)
theorem con_watermark_kinds_1 {n : Nat} {a0 : T_api_Message} {r : Int} (hF : F_watermark_kinds_1 n a0 = some r) : Con E0 true 62 [.agg [aI (a0.fKind), aI (a0.fEvent.fSource), aI (a0.fEvent.fSeq), aI (a0.fEvent.fType), aI (a0.fEvent.fTime), .sl 3 (List.map e_api_Value (a0.fEvent.fValues)), aI (a0.fSource), aI (a0.fSeq), aI (a0.fTime)]] (R_watermark_kinds_1 r) := by
  unfold F_watermark_kinds_1 at hF
  refine Con.walk _ Try.func62 rfl (enters_of Try.func62 rfl rfl) rfl (Or.inr rfl) ?_
  repeat' first
    | (refine AW.step ?_; conv => whnf)
    | (refine CondX.o hF (fun hF => ?_) (fun hF => ?_))
    | (refine CondX.t ?_)
    | (refine CondX.f ?_)
    | (refine And.intro ⟨by kernel_rfl, by kernel_rfl⟩ ?_)
    | (refine EqX.mk (by first | rfl | kernel_rfl) ?_)
    | (exact RetX.o hF (by repeat' first | exact Sub.nil _ | exact Sub.refl _ | refine Sub.agg ?_ | refine Sub.tup ?_ | refine Sub.fn ?_ | exact SubL.nil | refine SubL.cons ?_ ?_ | refine Sub.sl _ ?_ | exact SubE.nil | refine SubE.cons ?_ ?_))

def S_sequence_Check_l1 (a0 : Trk) (v1_0 : Int × Int) : AS := ⟨[(3, aI (v1_0.1)), (23, .sl 1 (List.map aI (a0.beyond))), (24, aI ((((List.map aI (a0.beyond)).length : Nat) : Int))), (25, aI (v1_0.2))], []⟩
theorem sequence_Check_l1_o {n N : Nat} {a0 : Trk} {k1_0_0 : Option (Int)} {R : Exit → AS → Prop} {K : List KItem} {c : Code} {σ : AS} {v0 : Int × Int} {r : Int} (hF : F_sequence_Check_l1 n a0 k1_0_0 N v0 = some r) (hl : LeX E0 42 σ (S_sequence_Check_l1 a0 v0)) (round : ∀ m v, F_sequence_Check_l1 n a0 k1_0_0 (m + 1) v = some r → AW E0 42 (thenA (fun σ' => ∃ v', F_sequence_Check_l1 n a0 k1_0_0 m v' = some r ∧ LeX E0 42 σ' (S_sequence_Check_l1 a0 v')) (AW E0 42 R K)) [.code c] .normal (S_sequence_Check_l1 a0 v)) : LoopX E0 42 (fun next σ' => AW E0 42 (thenA next (AW E0 42 R K)) [.code c] .normal σ') σ :=
  LoopA.o (S := S_sequence_Check_l1 a0) hF (fun _ => rfl) hl round
def R_sequence_Check (r : Int) : AV := aI (r)
theorem con_sequence_Check {n : Nat} {a0 : Trk} {r : Int} (hF : F_sequence_Check n a0 = some r) : Con E0 true 59 [.agg [aI (a0.next), .sl 1 (List.map aI (a0.beyond)), .sl 2 (List.map aPt (a0.points)), aI (a0.mark)]] (R_sequence_Check r) := by
  unfold F_sequence_Check at hF
  refine Con.walk _ Try.func59 rfl (enters_of Try.func59 rfl rfl) rfl (Or.inr rfl) ?_
  repeat' first
    | (refine AW.step ?_; conv => whnf)
    | (refine CondX.o hF (fun hF => ?_) (fun hF => ?_))
    | (refine CondX.t ?_)
    | (refine CondX.f ?_)
    | (refine IdxX.o aI hF (fun x hF => ?_))
    | (exact ⟨_, hF, LeX.of [] rfl ⟨⟨rfl, rfl⟩, ⟨rfl, rfl⟩, ⟨rfl, rfl⟩, ⟨rfl, rfl⟩, trivial⟩ trivial⟩)
    | (refine sequence_Check_l1_o hF (LeX.of [] rfl ⟨⟨rfl, rfl⟩, ⟨rfl, rfl⟩, ⟨rfl, rfl⟩, ⟨rfl, rfl⟩, trivial⟩ trivial) (fun m v hF => ?_); unfold F_sequence_Check_l1 at hF)
    | (refine And.intro ⟨by kernel_rfl, by kernel_rfl⟩ ?_)
    | (refine EqX.mk (by first | rfl | kernel_rfl) ?_)
    | (exact RetX.o hF (by repeat' first | exact Sub.nil _ | exact Sub.refl _ | refine Sub.agg ?_ | refine Sub.tup ?_ | refine Sub.fn ?_ | exact SubL.nil | refine SubL.cons ?_ ?_ | refine Sub.sl _ ?_ | exact SubE.nil | refine SubE.cons ?_ ?_))

def R_sequence_place_1 (r : Bool) : AV := .bool (r)
theorem con_sequence_place_1 {n : Nat} {a0 : Int} {a1 : (List Int)} {a2 : Int} {r : Bool} (hF : F_sequence_place_1 n a0 a1 a2 = some r) : Con E0 true 97 [aI (a0), .ref [.sl 1 (List.map aI (a1))], .ref [aI (a2)]] (R_sequence_place_1 r) := by
  unfold F_sequence_place_1 at hF
  refine Con.walk _ Try.func97 rfl (enters_of Try.func97 rfl rfl) rfl (Or.inr rfl) ?_
  repeat' first
    | (refine AW.step ?_; conv => whnf)
    | (refine CondX.o hF (fun hF => ?_) (fun hF => ?_))
    | (refine CondX.t ?_)
    | (refine CondX.f ?_)
    | (refine IdxX.o aI hF (fun x hF => ?_))
    | (refine And.intro ⟨by kernel_rfl, by kernel_rfl⟩ ?_)
    | (refine EqX.mk (by first | rfl | kernel_rfl) ?_)
    | (exact RetX.o hF (by repeat' first | exact Sub.nil _ | exact Sub.refl _ | refine Sub.agg ?_ | refine Sub.tup ?_ | refine Sub.fn ?_ | exact SubL.nil | refine SubL.cons ?_ ?_ | refine Sub.sl _ ?_ | exact SubE.nil | refine SubE.cons ?_ ?_))

def S_sort_Search_l1 (a1c1 : Int) (a1c0 : (List Int)) (v1_0 : Int × Int) : AS := ⟨[(1, .fn 97 [.ref [.sl 1 (List.map aI (a1c0))], .ref [aI (a1c1)]]), (5, aI (v1_0.1)), (6, aI (v1_0.2))], []⟩
theorem sort_Search_l1_o {n N : Nat} {a1c1 : Int} {a1c0 : (List Int)} {k1_0_0 : Int → Option (Int)} {R : Exit → AS → Prop} {K : List KItem} {c : Code} {σ : AS} {v0 : Int × Int} {r : Int} (hF : F_sort_Search_l1 n a1c1 a1c0 k1_0_0 N v0 = some r) (hl : LeX E0 26 σ (S_sort_Search_l1 a1c1 a1c0 v0)) (round : ∀ m v, F_sort_Search_l1 n a1c1 a1c0 k1_0_0 (m + 1) v = some r → AW E0 26 (thenA (fun σ' => ∃ v', F_sort_Search_l1 n a1c1 a1c0 k1_0_0 m v' = some r ∧ LeX E0 26 σ' (S_sort_Search_l1 a1c1 a1c0 v')) (AW E0 26 R K)) [.code c] .normal (S_sort_Search_l1 a1c1 a1c0 v)) : LoopX E0 26 (fun next σ' => AW E0 26 (thenA next (AW E0 26 R K)) [.code c] .normal σ') σ :=
  LoopA.o (S := S_sort_Search_l1 a1c1 a1c0) hF (fun _ => rfl) hl round
def R_sort_Search (r : Int) : AV := aI (r)
theorem con_sort_Search {n : Nat} {a0 : Int} {a1c0 : (List Int)} {a1c1 : Int} {r : Int} (hF : F_sort_Search n a0 a1c0 a1c1 = some r) : Con E0 true 96 [aI (a0), .fn 97 [.ref [.sl 1 (List.map aI (a1c0))], .ref [aI (a1c1)]]] (R_sort_Search r) := by
  unfold F_sort_Search at hF
  refine Con.walk _ Try.func96 rfl (enters_of Try.func96 rfl rfl) rfl (Or.inr rfl) ?_
  repeat' first
    | (refine AW.step ?_; conv => whnf)
    | (refine CondX.o hF (fun hF => ?_) (fun hF => ?_))
    | (refine CondX.t ?_)
    | (refine CondX.f ?_)
    | (refine CallX.o hF R_sequence_place_1 (fun a h => con_sequence_place_1 h) (fun a hF => ?_))
    | (exact ⟨_, hF, LeX.of [] rfl ⟨⟨rfl, rfl⟩, ⟨rfl, rfl⟩, ⟨rfl, rfl⟩, trivial⟩ trivial⟩)
    | (refine ShX.o hF (fun hF => ?_))
    | (refine sort_Search_l1_o hF (LeX.of [] rfl ⟨⟨rfl, rfl⟩, ⟨rfl, rfl⟩, ⟨rfl, rfl⟩, trivial⟩ trivial) (fun m v hF => ?_); unfold F_sort_Search_l1 at hF)
    | (refine And.intro ⟨by kernel_rfl, by kernel_rfl⟩ ?_)
    | (refine EqX.mk (by first | rfl | kernel_rfl) ?_)
    | (exact RetX.o hF (by repeat' first | exact Sub.nil _ | exact Sub.refl _ | refine Sub.agg ?_ | refine Sub.tup ?_ | refine Sub.fn ?_ | exact SubL.nil | refine SubL.cons ?_ ?_ | refine Sub.sl _ ?_ | exact SubE.nil | refine SubE.cons ?_ ?_))

def R_sequence_place (r : Int) : AV := aI (r)
theorem con_sequence_place {n : Nat} {a0 : (List Int)} {a1 : Int} {r : Int} (hF : F_sequence_place n a0 a1 = some r) : Con E0 true 89 [.sl 1 (List.map aI (a0)), aI (a1)] (R_sequence_place r) := by
  unfold F_sequence_place at hF
  refine Con.walk _ Try.func89 rfl (enters_of Try.func89 rfl rfl) rfl (Or.inr rfl) ?_
  repeat' first
    | (refine AW.step ?_; conv => whnf)
    | (refine CondX.o hF (fun hF => ?_) (fun hF => ?_))
    | (refine CondX.t ?_)
    | (refine CondX.f ?_)
    | (refine CallC.o hF R_sort_Search (fun a h => con_sort_Search h) (fun _ => Or.inr rfl) (fun a hF => ?_))
    | (refine And.intro ⟨by kernel_rfl, by kernel_rfl⟩ ?_)
    | (refine EqX.mk (by first | rfl | kernel_rfl) ?_)
    | (exact RetX.o hF (by repeat' first | exact Sub.nil _ | exact Sub.refl _ | refine Sub.agg ?_ | refine Sub.tup ?_ | refine Sub.fn ?_ | exact SubL.nil | refine SubL.cons ?_ ?_ | refine Sub.sl _ ?_ | exact SubE.nil | refine SubE.cons ?_ ?_))

def R_sequence_has (r : Bool) : AV := .bool (r)
theorem con_sequence_has {n : Nat} {a0 : Trk} {a1 : Int} {r : Bool} (hF : F_sequence_has n a0 a1 = some r) : Con E0 true 75 [.agg [aI (a0.next), .sl 1 (List.map aI (a0.beyond)), .sl 2 (List.map aPt (a0.points)), aI (a0.mark)], aI (a1)] (R_sequence_has r) := by
  unfold F_sequence_has at hF
  refine Con.walk _ Try.func75 rfl (enters_of Try.func75 rfl rfl) rfl (Or.inr rfl) ?_
  repeat' first
    | (refine AW.step ?_; conv => whnf)
    | (refine CondX.o hF (fun hF => ?_) (fun hF => ?_))
    | (refine CondX.t ?_)
    | (refine CondX.f ?_)
    | (refine CallX.o hF R_sequence_place (fun a h => con_sequence_place h) (fun a hF => ?_))
    | (refine IdxX.o aI hF (fun x hF => ?_))
    | (refine And.intro ⟨by kernel_rfl, by kernel_rfl⟩ ?_)
    | (refine EqX.mk (by first | rfl | kernel_rfl) ?_)
    | (exact RetX.o hF (by repeat' first | exact Sub.nil _ | exact Sub.refl _ | refine Sub.agg ?_ | refine Sub.tup ?_ | refine Sub.fn ?_ | exact SubL.nil | refine SubL.cons ?_ ?_ | refine Sub.sl _ ?_ | exact SubE.nil | refine SubE.cons ?_ ?_))

def R_sequence_Has (r : Bool × Int) : AV := .tup [.bool (r.1), aI (r.2)]
theorem con_sequence_Has {n : Nat} {a0 : Trk} {a1 : Int} {r : Bool × Int} (hF : F_sequence_Has n a0 a1 = some r) : Con E0 true 69 [.agg [aI (a0.next), .sl 1 (List.map aI (a0.beyond)), .sl 2 (List.map aPt (a0.points)), aI (a0.mark)], aI (a1)] (R_sequence_Has r) := by
  unfold F_sequence_Has at hF
  refine Con.walk _ Try.func69 rfl (enters_of Try.func69 rfl rfl) rfl (Or.inr rfl) ?_
  repeat' first
    | (refine AW.step ?_; conv => whnf)
    | (refine CondX.o hF (fun hF => ?_) (fun hF => ?_))
    | (refine CondX.t ?_)
    | (refine CondX.f ?_)
    | (refine CallX.o hF R_sequence_Check (fun a h => con_sequence_Check h) (fun a hF => ?_))
    | (refine CallX.o hF R_sequence_has (fun a h => con_sequence_has h) (fun a hF => ?_))
    | (refine And.intro ⟨by kernel_rfl, by kernel_rfl⟩ ?_)
    | (refine EqX.mk (by first | rfl | kernel_rfl) ?_)
    | (exact RetX.o hF (by repeat' first | exact Sub.nil _ | exact Sub.refl _ | refine Sub.agg ?_ | refine Sub.tup ?_ | refine Sub.fn ?_ | exact SubL.nil | refine SubL.cons ?_ ?_ | refine Sub.sl _ ?_ | exact SubE.nil | refine SubE.cons ?_ ?_))

set_option maxHeartbeats 400000 in
theorem clone36_any (l : List (Cel 1)) (S : Nat → Prop) (v : Value) (w : World) (h : Sl w S 1 encC v l) (hl : l.length ≤ 1000000000) :
    Calls Try.prog 36 #[v] w (RetOwn 3 1 encC l w) := by
  have eok : EOk Try.prog 37 3 1 8 (encC (n := 1)) := eokC (sz := 1) tyOk37 rfl tyOk3 (by omega) rfl
  obtain ⟨A, c, rfl, hc, _⟩ := h.form
  have hq := fun (W : World) => Lib.run_eql_slice_nil W 37 3 A l.length c 0 0 Try.underlying37
  have H := hide h
  cases A with
  | none =>
    have h0 : l = [] := h.none_nil
    subst h0
    clear h H hl hc
    simp only [List.length_nil, Option.isNone_none] at hq ⊢
    go_enter Try.func36, Try.ntmps36
    go_wp2
    go_ret
    exact ⟨none, 0, rfl, Own.nil_, by go_grown⟩
  | some ad =>
    clear h
    go_enter Try.func36, Try.ntmps36
    go_wp2_with (at_builtin; refine wpList_append_sl rfl _ _ rfl eok rfl Own.made_ rfl (H.out.alloc _) (by simp; omega) (by omega) (by simp) ?_; intro A' c' w1 ho hg _)
    go_ret
    exact ⟨A', c', rfl, ho, (Own.made_ (sz := 1) (enc := encC (n := 1))).grown ((Below.refl _ _).alloc (Nat.le_refl _) _) (Nat.le_refl _) (by simp) hg⟩
theorem conT_clone36 {n : Nat} {a r : List Int} (hF : F_clone n a = some r) : ConT E0 36 [.sl 1 (List.map aI a)] 3 1 (List.map aI r) (.row 0) := clone_gen rfl (enters_of Try.func36 rfl rfl) clone36_any hF
theorem con_clone36 {n : Nat} {a r : List Int} (hF : F_clone n a = some r) : Con E0 false 36 [.sl 1 (List.map aI a)] (.sl 1 (List.map aI r)) := (conT_clone36 hF).close rfl
set_option maxHeartbeats 400000 in
theorem clone37_any (l : List (Cel 2)) (S : Nat → Prop) (v : Value) (w : World) (h : Sl w S 2 encC v l) (hl : l.length ≤ 1000000000) :
    Calls Try.prog 37 #[v] w (RetOwn 96 2 encC l w) := by
  have eok : EOk Try.prog 49 96 2 16 (encC (n := 2)) := eokC (sz := 2) tyOk49 rfl tyOk96 (by omega) rfl
  obtain ⟨A, c, rfl, hc, _⟩ := h.form
  have hq := fun (W : World) => Lib.run_eql_slice_nil W 49 96 A l.length c 0 0 Try.underlying49
  have H := hide h
  cases A with
  | none =>
    have h0 : l = [] := h.none_nil
    subst h0
    clear h H hl hc
    simp only [List.length_nil, Option.isNone_none] at hq ⊢
    go_enter Try.func37, Try.ntmps37
    go_wp2
    go_ret
    exact ⟨none, 0, rfl, Own.nil_, by go_grown⟩
  | some ad =>
    clear h
    go_enter Try.func37, Try.ntmps37
    go_wp2_with (at_builtin; refine wpList_append_sl rfl _ _ rfl eok rfl Own.made_ rfl (H.out.alloc _) (by simp; omega) (by omega) (by simp) ?_; intro A' c' w1 ho hg _)
    go_ret
    exact ⟨A', c', rfl, ho, (Own.made_ (sz := 2) (enc := encC (n := 2))).grown ((Below.refl _ _).alloc (Nat.le_refl _) _) (Nat.le_refl _) (by simp) hg⟩
theorem conT_clone37 {n : Nat} {a r : List Pt} (hF : F_clone n a = some r) : ConT E0 37 [.sl 2 (List.map aPt a)] 96 2 (List.map aPt r) (.row 0) := clone_gen rfl (enters_of Try.func37 rfl rfl) clone37_any hF
theorem con_clone37 {n : Nat} {a r : List Pt} (hF : F_clone n a = some r) : Con E0 false 37 [.sl 2 (List.map aPt a)] (.sl 2 (List.map aPt r)) := (conT_clone37 hF).close rfl

set_option maxRecDepth 100000 in
set_option maxHeartbeats 1600000 in
theorem insert92_any (l : List (Cel 1)) (x : Cel 1) (i : Nat) (base : Nat) (A : Option Addr) (c g off c1 : Nat) (w : World) (ho : Own w base 3 1 encC (.slice A l.length c) l)
    (hx : Xk w g off (encC x)) (hc1 : 1 ≤ c1) (hne : (Value.slice A l.length c).ownBlock ≠ some g) (hi : i ≤ l.length) (hl : l.length ≤ 1000000000) (hbase : base ≤ w.heap.size) :
    Calls Try.prog 92 #[.slice A l.length c, .int .i64 i, .slice (some ⟨g, off, none⟩) 1 c1] w (RetInsX 3 1 encC base (.slice A l.length c) (l.take i ++ x :: l.drop i) w) := by
  have hlen : (l.take i ++ x :: l.drop i).length = l.length + 1 := by simp; omega
  have hxl : (encC x).length = 1 := x.2.1
  have eok : EOk Try.prog 37 3 1 8 (encC (n := 1)) := eokC (sz := 1) tyOk37 rfl tyOk3 (by omega) rfl
  by_cases hin : i = l.length
  · subst hin
    have hsl : Hid (Sl w (fun _ => True) 1 encC (.slice (some ⟨g, off, none⟩) 1 c1) [x]) := Sl.one_x hc1 hx
    have H := hide ho
    have hll : Hid (l.take l.length ++ x :: l.drop l.length = l ++ [x]) := by simp [Hid]
    have hc : l.length ≤ c := by obtain ⟨_, _, he, h1, _⟩ := ho.val; injection he with _ _ hc; omega
    rw [hll.out]
    clear ho hx hne hlen
    go_enter Try.func92, Try.ntmps92
    go_wp2_with (at_builtin; refine wpList_append_sl (v := .slice A l.length c) rfl _ _ rfl eok rfl H.out rfl hsl.out (by simp; omega) (by omega) hbase ?_; intro A2 c2 w2 ho2 hg2 hb2)
    all_goals (go_ret; exact ⟨A2, c2, by simp, ho2, by cases A <;> exact hg2, by cases A <;> exact hb2⟩)
  · rcases ho.2 with ⟨hv, h0⟩ | ⟨g', cap, cur, hv, hbg, hh, hnc, hcm, hcs, htake⟩
    · omega
    injection hv with hA _ hcc
    subst hA
    subst hcc
    simp only [Nat.mul_one] at hcs htake
    have hgg : g' ≠ g := fun e => hne (by simp [Value.ownBlock, e])
    have hlt : i < l.length := by omega
    have hF1 : ((l.take i).flatMap encC).length = i := by rw [flatMap_len (sz := 1) (fun y => y.2.1)]; simp; omega
    have hF2 : ((l.drop i).flatMap encC).length = (l.length - i) := by rw [flatMap_len (sz := 1) (fun y => y.2.1)]; simp
    have hF12 : (l.take i).flatMap encC ++ (l.drop i).flatMap encC = l.flatMap encC := by rw [← List.flatMap_append, List.take_append_drop]
    have hres : (l.take i ++ x :: l.drop i).flatMap encC = (l.take i).flatMap encC ++ encC x ++ (l.drop i).flatMap encC := by simp [List.flatMap_append, List.flatMap_cons]
    have h2 := flatMap_one eok.one (l.drop i)
    have hX1 := eok.one x
    have hcur : cur.toList = (l.take i).flatMap encC ++ (l.drop i).flatMap encC ++ cur.toList.drop (l.length) := by rw [hF12, ← htake, List.take_append_drop]
    generalize hf1 : (l.take i).flatMap encC = F1 at *
    generalize hf2 : (l.drop i).flatMap encC = F2 at *
    generalize hX : encC x = X at *
    have hRl : (cur.toList.drop (l.length)).length = c - l.length := by simp [hcs]
    generalize cur.toList.drop (l.length) = R at *
    obtain ⟨cur⟩ := cur
    simp only at hcur
    subst hcur
    generalize hn : l.length = n at *
    by_cases hroom : n + 1 ≤ c
    · have hhi : (i : Int) < (n : Int) := by omega
      have hB0 : Blk w g' 3 (F1 ++ F2 ++ R).toArray := hh
      have hov : ∀ lb cb, (callFunc 98 #[.slice (some ⟨g, off, none⟩) 1 c1, .slice (some ⟨g', (i + 1), none⟩) lb cb]).run Try.prog w = .ok (.value (.bool false)) w := fun lb cb => by
        rw [run_callFunc_extern Try.func98 (by kernel_rfl) (by kernel_rfl) (by kernel_rfl) (e := Extern.SlicesOverlaps.overlaps #[37, 37] #[4]) (by kernel_rfl),
          run_overlaps_b w 37 4 3 Try.underlying37 1 (fun _ => by kernel_rfl) ⟨g, off, none⟩ ⟨g', (i + 1), none⟩ 1 c1 lb cb (fun e => hgg e.symm) hx.shape 3 (F1 ++ F2 ++ R).toArray.size (hB0.shape) (by rw [List.size_toArray, List.length_append, List.length_append]; omega) (hB0.frozen _) (hB0.frozen _)]
        rfl
      have hBH := hide hB0
      have hxH := hide hx
      have hdl : Hid (F2.length = Nat.min (n + 1 - i) (n - i)) := by unfold Hid; rw [show Nat.min (n + 1 - i) (n - i) = n - i from Nat.min_eq_right (by omega)]; exact hF2
      have hsrc : Hid (∀ (W : World), W.heap = w.heap → ∀ j u, F2[j]? = some u → W.cell? ((⟨g', i, none⟩ : Addr).add j) = some u) := fun W hW j u hu => by
        have e : Blk W g' 3 (F1 ++ F2 ++ R).toArray := by unfold Blk; rw [hW]; exact hB0
        rw [Addr.add_lit, e.cell]
        have hj := (List.getElem?_eq_some_iff.1 hu).1
        simp only [List.getElem?_toArray]
        rw [List.append_assoc, List.getElem?_append_right (by omega), List.getElem?_append_left (by omega), show i + j - F1.length = j by omega]
        exact hu
      have hHx := hide h2
      have HL := hide (And.intro hlen (And.intro hres (And.intro hbg hcs)))
      have hxl := hide hxl
      clear hx hB0 hh htake hne hF12 hcs ho h2 hlen hres
      go_enter Try.func92, Try.ntmps92
      go_wp2_with fail
      have hw1 : IntKind.i64.wrap ((i : Int) + 1) = (i : Int) + 1 := by rw [IntKind.wrap_i64]; omega
      have hb1 : (0 : Int) ≤ (i : Int) + 1 := by omega
      have hii : i ≤ n := by omega
      have htn : ((i : Int) + 1).toNat = i + 1 := by omega
      have hb2 : ¬ (c = i + 1) := by omega
      have hb3 : (i : Int) ≤ (n : Int) + 1 := by omega
      have hb4 : ¬ (c = i) := by omega
      go_region_law (refine step_copy_blk rfl _ _ 37 37 rfl 3 1 Try.underlying37 (by kernel_rfl) g' ((i + 1)) (n - i) (c - (i + 1)) (n + 1 - i) (c - i) ⟨g', i, none⟩ (by simp [Act.eval, Act.put]) (by simp [Act.eval, Act.put]) 3 (F1 ++ F2 ++ R) hBH.out F2 (by rw [Nat.mul_one]; exact hdl.out) (hsrc.out _ rfl) (by simp; omega) hHx.out ?_; intro w1 hB1 hg1)
      clear hw1 hb1 htn hb2
      have hB1' : Hid (Blk w1 g' 3 ((F1 ++ F2 ++ R).take (i + 1) ++ F2 ++ (F1 ++ F2 ++ R).drop (i + 1 + F2.length)).toArray) := by
        have e : (i + 1) = i + 1 := by omega
        rw [e] at hB1
        exact hB1
      have hX2 : Hid (∀ j u, X[j]? = some u → w1.cell? ((⟨g, off, none⟩ : Addr).add j) = some u) := fun j u hu => by
        have e : Xk w1 g off X := Xk.grown (w := w.drew) hxH.out hg1 (by simp; omega)
        rw [Addr.add_lit]
        exact e.cell hu
      have hg1' := hide (grownBy_drew_then hg1)
      have hX1' := hide hX1
      clear hB1 hg1 hX1
      go_wp2_with (refine wpList_copy_blk rfl (.tmp 80) (.tmp 81) 37 37 rfl 3 1 Try.underlying37 (by kernel_rfl) g' (i) (n + 1 - i) (c - i) 1 c1 ⟨g, off, none⟩ rfl rfl 3 _ hB1'.out X (by rw [show Nat.min 1 (n + 1 - i) = 1 from Nat.min_eq_left (by omega)]; exact hxl.out) hX2.out (by have := hxl.out; have := hRl; simp; omega) hX1'.out ?_; intro w2 hB2 hg2)
      go_ret
      have hfin := HL.out
      refine ⟨some ⟨g', 0, none⟩, c, by show Ending.returned (.slice (some ⟨g', 0, none⟩) (n + 1) c) = _; rw [hfin.1], Own.of_blk hB2 hfin.2.2.1 (by rw [hfin.1]; exact hroom) hcm (by have := hxl.out; have := hRl; simp; omega) ?_ (fun y => y.2.1), grownBy_trans hg1'.out hg2, Or.inl rfl⟩
      rw [hfin.1, hfin.2.1, ← insert_in_place F1 F2 R X (i) 1 ((n - i)) hF1 hF2 hxl.out (by omega)]
      congr 1
      omega
    · have hB0 : Blk w g' 3 (F1 ++ F2 ++ R).toArray := hh
      obtain ⟨i0, z, hi0, hz0, hzs, hzb, hzc⟩ := eok.inf
      have hik : i + (n + 1 - i) = n + 1 := by omega
      have hkk : (n : Int) + 1 - (i : Int) = ((n + 1 - i : Nat) : Int) := by omega
      have hgw : g' < w.heap.size := hB0.lt
      have hgx : g < w.heap.size := hx.lt
      have hold : (Builtin.firstCells i0.size i (.slice (some ⟨g', 0, none⟩) i c)).run Try.prog w.drew = .ok F1.toArray w.drew := by
        rw [hzs]
        refine run_firstCells_some w.drew 1 i ⟨g', 0, none⟩ i c F1 (by rw [Nat.mul_one]; exact hF1) (fun j v hj => ?_)
        have hjl := (List.getElem?_eq_some_iff.1 hj).1
        rw [Addr.add_lit]
        refine (hB0.cell _).trans ?_
        simp only [List.getElem?_toArray, Nat.zero_add]
        rw [List.append_assoc, List.getElem?_append_left (by omega)]
        exact hj
      have hrz := fun ty => Lib.run_append_grow_zeros w 37 3 ty 3 i0 z .i64 .i64 eok.und Try.underlying3 hi0 hz0 (some ⟨g', 0, none⟩) i c F1 hold (n + 1 - i) (by omega) (by omega) (by omega) (by omega) (by rw [hzb]; omega) (by rw [hzb, hik]; exact growslice_fits (by omega) (by omega))
      rw [hik] at hrz
      obtain ⟨G, hG⟩ : ∃ G, G = grownCap w (n + 1) c 3 := ⟨_, rfl⟩
      rw [← hG] at hrz
      have hGn : n + 1 ≤ G := by rw [hG]; exact grownCap_ge w _ _ _
      have hG63 : G ≤ maxLen := by rw [hG]; exact grownCap_le_maxLen w (n + 1) c 3 (by unfold maxLen; omega)
      obtain ⟨Z, hZ, hZl⟩ : ∃ Z : List Value, F1.toArray ++ Builtin.zeroCells z.cells (n + 1 - i) ++ Builtin.zeroCells z.cells (G - (n + 1)) = (F1 ++ Z).toArray ∧ Z.length = (G - i) :=
        ⟨(Builtin.zeroCells z.cells (n + 1 - i)).toList ++ (Builtin.zeroCells z.cells (G - (n + 1))).toList, by simp [Array.append_assoc], by simp [size_zeroCells, hzc]; omega⟩
      rw [hZ] at hrz
      obtain ⟨W1, hW1⟩ : ∃ W1, W1 = w.drew.alloc (.cells (F1 ++ Z).toArray 3) := ⟨_, rfl⟩
      have hBN : Hid (Blk W1 w.heap.size 3 (F1 ++ Z).toArray) := by rw [hW1]; exact Blk.new w.drew _ _
      have hxN : Hid (Xk W1 g off X) := by rw [hW1]; exact Xk.alloc (w := w.drew) hx _
      have hB1 : Hid (Blk W1 g' 3 (F1 ++ F2 ++ R).toArray) := by rw [hW1]; exact Blk.alloc (w := w.drew) hB0 _
      have hgW : Hid (∀ b, W1.grownBy b (some w.heap.size) → ∀ row, w.grownBy b row) := fun b hb row => by
        rw [hW1] at hb
        exact grownBy_drew_then (grownBy_alloc_then hb row)
      have hrz' : Hid (∀ ty, (Builtin.append_ #[37, 3] ty #[.slice (some ⟨g', 0, none⟩) i c, .int .i64 ((n : Int) + 1 - (i : Int))]).run Try.prog w = .ok (.slice (some ⟨w.heap.size, 0, none⟩) (n + 1) G) W1) := fun ty => by
        rw [hkk, hW1]
        exact hrz ty
      have hX2 : Hid (∀ j u, X[j]? = some u → W1.cell? ((⟨g, off, none⟩ : Addr).add j) = some u) := fun j u hu => by
        rw [Addr.add_lit]
        exact hxN.out.cell hu
      have HL := hide (And.intro hlen (And.intro hres (And.intro hbg hcs)))
      have hxl := hide hxl
      have hX1' := hide hX1
      have h2' := hide h2
      have hF2' : Hid (F2.length = Nat.min (n - i) (n - i)) := by unfold Hid; rw [show Nat.min (n - i) (n - i) = n - i from Nat.min_self _]; exact hF2
      have hhi : (i : Int) < (n : Int) := by omega
      have hhc : (c : Int) < (n : Int) + 1 := by omega
      have hii : i ≤ n := by omega
      have hci : ¬ (c = i) := by omega
      have hGi : ¬ (G = i) := by omega
      have hGi1 : ¬ (G = i + 1) := by omega
      have hGl : G ≤ 9223372036854775807 := by unfold maxLen at hG63; omega
      clear hx hB0 hh htake hne hF12 hcs ho h2 hlen hres hX1 hrz hold hW1 hZ hG hkk hzs hzb hzc hz0 hi0 hcm
      go_enter Try.func92, Try.ntmps92
      go_wp2_with (first | (at_builtin; refine Lib.wpList_append_run _ rfl _ _ _ _ rfl _ _ rfl rfl _ _ (hrz'.out _) ?_) | (refine wpList_copy_blk rfl (.tmp 43) (.tmp 44) 37 37 rfl 3 1 Try.underlying37 (by kernel_rfl) w.heap.size (i) (n + 1 - i) (G - i) 1 c1 ⟨g, off, none⟩ rfl rfl 3 _ hBN.out X (by rw [show Nat.min 1 (n + 1 - i) = 1 from Nat.min_eq_left (by omega)]; exact hxl.out) hX2.out (by have := hxl.out; simp; omega) hX1'.out ?_; intro w2 hB2 hg2))
      have hgN : g' ≠ w.heap.size := by omega
      have hsrc : Hid (∀ j u, F2[j]? = some u → w2.cell? ((⟨g', i, none⟩ : Addr).add j) = some u) := fun j u hu => by
        have e : Blk w2 g' 3 (F1 ++ F2 ++ R).toArray := hB1.out.grown hg2 (by simp; omega)
        rw [Addr.add_lit, e.cell]
        have hj := (List.getElem?_eq_some_iff.1 hu).1
        simp only [List.getElem?_toArray]
        rw [List.append_assoc, List.getElem?_append_right (by omega), List.getElem?_append_left (by omega), show i + j - F1.length = j by omega]
        exact hu
      have hg2' := hide hg2
      have hB2' := hide hB2
      have hw1 : IntKind.i64.wrap ((i : Int) + 1) = (i : Int) + 1 := by rw [IntKind.wrap_i64]; omega
      have hb1 : (0 : Int) ≤ (i : Int) + 1 := by omega
      have htn : ((i : Int) + 1).toNat = i + 1 := by omega
      have hb3 : (i : Int) ≤ (n : Int) := by omega
      have hb5 : (i : Int) + 1 ≤ (n : Int) + 1 := by omega
      clear hg2 hB2
      go_region_law (refine step_copy_blk rfl _ _ 37 37 rfl 3 1 Try.underlying37 (by kernel_rfl) w.heap.size ((i + 1)) (n - i) (G - (i + 1)) (n - i) (c - i) ⟨g', i, none⟩ (by simp [Act.eval, Act.put]) (by simp [Act.eval, Act.put]) 3 _ hB2'.out F2 (by rw [Nat.mul_one]; exact hF2'.out) hsrc.out (by have := hxl.out; simp; omega) h2'.out ?_; intro w3 hB3 hg3)
      clear hw1 hb1 htn hb3 hb5
      have hB3' : Hid (Blk w3 w.heap.size 3 (((F1 ++ Z).take (i) ++ X ++ (F1 ++ Z).drop (i + X.length)).take (i + 1) ++ F2 ++ ((F1 ++ Z).take (i) ++ X ++ (F1 ++ Z).drop (i + X.length)).drop (i + 1 + F2.length)).toArray) := by
        have e : (i + 1) = i + 1 := by omega
        rw [e] at hB3
        exact hB3
      have hg3' := hide (grownBy_drew_then hg3)
      clear hB3 hg3
      go_wp2
      go_ret
      have hfin := HL.out
      have hx2 := hxl.out
      refine ⟨some ⟨w.heap.size, 0, none⟩, G, by show Ending.returned (.slice (some ⟨w.heap.size, 0, none⟩) (n + 1) G) = _; rw [hfin.1], Own.of_blk hB3'.out hbase (by rw [hfin.1]; exact hGn) hG63 (by simp; omega) ?_ (fun y => y.2.1), hgW.out _ (grownBy_trans hg2'.out hg3'.out) _, Or.inr rfl⟩
      rw [hfin.1, hfin.2.1, ← insert_grown F1 F2 Z X (i) 1 ((n - i)) hF1 hF2 hx2 (by omega)]
      congr 1
      omega

theorem conC_insert92 {n : Nat} {a v r : List Int} {i : Int} (hF : F_insert n a i v = some r) : ConC false E0 92 [.row 0, aI i, .sl 1 (List.map aI v)] 3 1 (List.map aI a) 3 1 (List.map aI r) (.row 0) := insert_gen rfl (enters_of Try.func92 rfl rfl) (by omega) insert92_any hF
def S_sequence_with_l1 (a0 : Trk) (x2 : (List Pt)) (v1_0 : Int × (List Int)) : AS := ⟨[(2, .ptr 2 0), (4, .ptr 4 0)], [(2, .box 51 [aI (v1_0.1), .sl 1 (List.map aI (v1_0.2)), .sl 2 (List.map aPt (x2)), aI (a0.mark)]), (4, .box 51 [aI (0), .nils, .nils, aI (0)])]⟩
theorem sequence_with_l1_o {n N : Nat} {a0 : Trk} {x2 : (List Pt)} {k1_0_0 : Int → (List Int) → (List Pt) → Option (Trk)} {R : Exit → AS → Prop} {K : List KItem} {c : Code} {σ : AS} {v0 : Int × (List Int)} {r : Trk} (hF : F_sequence_with_l1 n a0 x2 k1_0_0 N v0 = some r) (hl : LeX E0 54 σ (S_sequence_with_l1 a0 x2 v0)) (round : ∀ m v, F_sequence_with_l1 n a0 x2 k1_0_0 (m + 1) v = some r → AW E0 54 (thenA (fun σ' => ∃ v', F_sequence_with_l1 n a0 x2 k1_0_0 m v' = some r ∧ LeX E0 54 σ' (S_sequence_with_l1 a0 x2 v')) (AW E0 54 R K)) [.code c] .normal (S_sequence_with_l1 a0 x2 v)) : LoopX E0 54 (fun next σ' => AW E0 54 (thenA next (AW E0 54 R K)) [.code c] .normal σ') σ :=
  LoopA.o (S := S_sequence_with_l1 a0 x2) hF (fun _ => rfl) hl round
def R_sequence_with (r : Trk) : AV := .agg [aI (r.next), .sl 1 (List.map aI (r.beyond)), .sl 2 (List.map aPt (r.points)), aI (r.mark)]
theorem con_sequence_with {n : Nat} {a0 : Trk} {a1 : Int} {r : Trk} (hF : F_sequence_with n a0 a1 = some r) : Con E0 false 78 [.agg [aI (a0.next), .sl 1 (List.map aI (a0.beyond)), .sl 2 (List.map aPt (a0.points)), aI (a0.mark)], aI (a1)] (R_sequence_with r) := by
  unfold F_sequence_with at hF
  refine Con.walk _ Try.func78 rfl (enters_of Try.func78 rfl rfl) rfl (Or.inl rfl) ?_
  repeat' first
    | (refine AW.regO hF (fun hF => ?_))
    | (refine AW.frzO hF 7 rfl (fun hF => ?_))
    | (refine AW.stepU [7] ?_; conv => whnf)
    | (refine CondX.o hF (fun hF => ?_) (fun hF => ?_))
    | (refine CondX.t ?_)
    | (refine CondX.f ?_)
    | (refine CallX.oR hF (fun r => r) aI (fun _ => AV.row 0) rfl (fun a h => conT_clone36 h) (fun a hF => ?_))
    | (refine CallX.oR hF (fun r => r) aI (fun _ => AV.row 0) rfl (fun a h => ConT.sub (by repeat' first | exact Sub.nil _ | exact Sub.refl _ | refine Sub.agg ?_ | refine Sub.tup ?_ | refine Sub.fn ?_ | exact SubL.nil | refine SubL.cons ?_ ?_ | refine Sub.sl _ ?_ | exact SubE.nil | refine SubE.cons ?_ ?_) (conT_clone36 h)) (fun a hF => ?_))
    | (refine CallX.o hF (fun q => AV.sl 2 (List.map aPt q)) (fun a h => con_clone37 h) (fun a hF => ?_))
    | (refine CallC.o hF R_sequence_place (fun a h => con_sequence_place h) (fun _ => Or.inr rfl) (fun a hF => ?_))
    | (refine CallC.oC hF 7 (fun r => r) aI (fun _ => AV.row 0) rfl (fun a h => conC_insert92 h) rfl rfl rfl rfl rfl rfl (fun a hF => ?_))
    | (refine IdxX.o aI hF (fun x hF => ?_))
    | (refine SlsX.o aI hF (fun l hF => ?_))
    | (exact ⟨_, hF, LeX.of [] rfl ⟨⟨rfl, rfl⟩, ⟨rfl, rfl⟩, trivial⟩ ⟨⟨rfl, rfl⟩, ⟨rfl, rfl⟩, trivial⟩⟩)
    | (refine sequence_with_l1_o hF (LeX.trans (LeX.frzAll 7 3 1 _ rfl) (LeX.of [] rfl ⟨⟨rfl, rfl⟩, ⟨rfl, rfl⟩, trivial⟩ ⟨⟨rfl, rfl⟩, ⟨rfl, rfl⟩, trivial⟩)) (fun m v hF => ?_); unfold F_sequence_with_l1 at hF)
    | (refine And.intro ⟨by kernel_rfl, by kernel_rfl⟩ ?_)
    | (refine EqX.mk (by first | rfl | kernel_rfl) ?_)
    | (exact RetX.o hF (by repeat' first | exact Sub.nil _ | exact Sub.refl _ | refine Sub.agg ?_ | refine Sub.tup ?_ | refine Sub.fn ?_ | exact SubL.nil | refine SubL.cons ?_ ?_ | refine Sub.sl _ ?_ | exact SubE.nil | refine SubE.cons ?_ ?_))

def R_sequence_Receive (r : Trk × Bool × Int) : AV := .tup [.agg [aI (r.1.next), .sl 1 (List.map aI (r.1.beyond)), .sl 2 (List.map aPt (r.1.points)), aI (r.1.mark)], .bool (r.2.1), aI (r.2.2)]
theorem con_sequence_Receive {n : Nat} {a0 : Trk} {a1 : Int} {r : Trk × Bool × Int} (hF : F_sequence_Receive n a0 a1 = some r) : Con E0 false 71 [.agg [aI (a0.next), .sl 1 (List.map aI (a0.beyond)), .sl 2 (List.map aPt (a0.points)), aI (a0.mark)], aI (a1)] (R_sequence_Receive r) := by
  unfold F_sequence_Receive at hF
  refine Con.walk _ Try.func71 rfl (enters_of Try.func71 rfl rfl) rfl (Or.inl rfl) ?_
  repeat' first
    | (refine AW.step ?_; conv => whnf)
    | (refine CondX.o hF (fun hF => ?_) (fun hF => ?_))
    | (refine CondX.t ?_)
    | (refine CondX.f ?_)
    | (refine CallX.o hF R_sequence_Check (fun a h => con_sequence_Check h) (fun a hF => ?_))
    | (refine CallX.o hF R_sequence_has (fun a h => con_sequence_has h) (fun a hF => ?_))
    | (refine CallX.o hF (fun q => AV.sl 1 (List.map aI q)) (fun a h => con_clone36 h) (fun a hF => ?_))
    | (refine CallX.o hF (fun q => AV.sl 2 (List.map aPt q)) (fun a h => con_clone37 h) (fun a hF => ?_))
    | (refine CallX.o hF R_sequence_with (fun a h => con_sequence_with h) (fun a hF => ?_))
    | (refine And.intro ⟨by kernel_rfl, by kernel_rfl⟩ ?_)
    | (refine EqX.mk (by first | rfl | kernel_rfl) ?_)
    | (exact RetX.o hF (by repeat' first | exact Sub.nil _ | exact Sub.refl _ | refine Sub.agg ?_ | refine Sub.tup ?_ | refine Sub.fn ?_ | exact SubL.nil | refine SubL.cons ?_ ?_ | refine Sub.sl _ ?_ | exact SubE.nil | refine SubE.cons ?_ ?_))

def R_watermark_receiveEvent (r : Trk × Bool × Int) : AV := .tup [.agg [aI (r.1.next), .sl 1 (List.map aI (r.1.beyond)), .sl 2 (List.map aPt (r.1.points)), aI (r.1.mark)], .bool (r.2.1), aI (r.2.2)]
theorem con_watermark_receiveEvent {n : Nat} {a0 : Trk} {a1 : T_api_Message} {r : Trk × Bool × Int} (hF : F_watermark_receiveEvent n a0 a1 = some r) : Con E0 false 63 [.agg [aI (a0.next), .sl 1 (List.map aI (a0.beyond)), .sl 2 (List.map aPt (a0.points)), aI (a0.mark)], .agg [aI (a1.fKind), aI (a1.fEvent.fSource), aI (a1.fEvent.fSeq), aI (a1.fEvent.fType), aI (a1.fEvent.fTime), .sl 3 (List.map e_api_Value (a1.fEvent.fValues)), aI (a1.fSource), aI (a1.fSeq), aI (a1.fTime)]] (R_watermark_receiveEvent r) := by
  unfold F_watermark_receiveEvent at hF
  refine Con.walk _ Try.func63 rfl (enters_of Try.func63 rfl rfl) rfl (Or.inl rfl) ?_
  repeat' first
    | (refine AW.step ?_; conv => whnf)
    | (refine CondX.o hF (fun hF => ?_) (fun hF => ?_))
    | (refine CondX.t ?_)
    | (refine CondX.f ?_)
    | (refine CallX.o hF R_sequence_Has (fun a h => con_sequence_Has h) (fun a hF => ?_))
    | (refine CallX.o hF R_puAllows (fun a h => con_puAllows h) (fun a hF => ?_))
    | (refine CallX.o hF R_sequence_Receive (fun a h => con_sequence_Receive h) (fun a hF => ?_))
    | (refine CallX.o hF R_puAdd (fun a h => con_puSettle h) (fun a hF => ?_))
    | (refine And.intro ⟨by kernel_rfl, by kernel_rfl⟩ ?_)
    | (refine EqX.mk (by first | rfl | kernel_rfl) ?_)
    | (exact RetX.o hF (by repeat' first | exact Sub.nil _ | exact Sub.refl _ | refine Sub.agg ?_ | refine Sub.tup ?_ | refine Sub.fn ?_ | exact SubL.nil | refine SubL.cons ?_ ?_ | refine Sub.sl _ ?_ | exact SubE.nil | refine SubE.cons ?_ ?_))

set_option maxHeartbeats 400000 in
theorem clone67_any (l : List (Cel 4)) (S : Nat → Prop) (v : Value) (w : World) (h : Sl w S 4 encC v l) (hl : l.length ≤ 1000000000) :
    Calls Try.prog 67 #[v] w (RetOwn 51 4 encC l w) := by
  have eok : EOk Try.prog 109 51 4 64 (encC (n := 4)) := eokC (sz := 4) tyOk109 rfl tyOk51 (by omega) rfl
  obtain ⟨A, c, rfl, hc, _⟩ := h.form
  have hq := fun (W : World) => Lib.run_eql_slice_nil W 109 51 A l.length c 0 0 Try.underlying109
  have H := hide h
  cases A with
  | none =>
    have h0 : l = [] := h.none_nil
    subst h0
    clear h H hl hc
    simp only [List.length_nil, Option.isNone_none] at hq ⊢
    go_enter Try.func67, Try.ntmps67
    go_wp2
    go_ret
    exact ⟨none, 0, rfl, Own.nil_, by go_grown⟩
  | some ad =>
    clear h
    go_enter Try.func67, Try.ntmps67
    go_wp2_with (at_builtin; refine wpList_append_sl rfl _ _ rfl eok rfl Own.made_ rfl (H.out.alloc _) (by simp; omega) (by omega) (by simp) ?_; intro A' c' w1 ho hg _)
    go_ret
    exact ⟨A', c', rfl, ho, (Own.made_ (sz := 4) (enc := encC (n := 4))).grown ((Below.refl _ _).alloc (Nat.le_refl _) _) (Nat.le_refl _) (by simp) hg⟩
theorem conT_clone67 {n : Nat} {a r : List Trk} (hF : F_clone n a = some r) : ConT E0 67 [.sl 4 (List.map aTrk a)] 51 4 (List.map aTrk r) (.row 0) := clone_gen rfl (enters_of Try.func67 rfl rfl) clone67_any hF
def R_watermark_kinds_2 (r : Int) : AV := aI (r)
theorem con_watermark_kinds_2 {n : Nat} {a0 : T_api_Message} {r : Int} (hF : F_watermark_kinds_2 n a0 = some r) : Con E0 true 65 [.agg [aI (a0.fKind), aI (a0.fEvent.fSource), aI (a0.fEvent.fSeq), aI (a0.fEvent.fType), aI (a0.fEvent.fTime), .sl 3 (List.map e_api_Value (a0.fEvent.fValues)), aI (a0.fSource), aI (a0.fSeq), aI (a0.fTime)]] (R_watermark_kinds_2 r) := by
  unfold F_watermark_kinds_2 at hF
  refine Con.walk _ Try.func65 rfl (enters_of Try.func65 rfl rfl) rfl (Or.inr rfl) ?_
  repeat' first
    | (refine AW.step ?_; conv => whnf)
    | (refine CondX.o hF (fun hF => ?_) (fun hF => ?_))
    | (refine CondX.t ?_)
    | (refine CondX.f ?_)
    | (refine And.intro ⟨by kernel_rfl, by kernel_rfl⟩ ?_)
    | (refine EqX.mk (by first | rfl | kernel_rfl) ?_)
    | (exact RetX.o hF (by repeat' first | exact Sub.nil _ | exact Sub.refl _ | refine Sub.agg ?_ | refine Sub.tup ?_ | refine Sub.fn ?_ | exact SubL.nil | refine SubL.cons ?_ ?_ | refine Sub.sl _ ?_ | exact SubE.nil | refine SubE.cons ?_ ?_))

def R_watermark_receivePoint (r : Trk × Bool × Int) : AV := .tup [.agg [aI (r.1.next), .sl 1 (List.map aI (r.1.beyond)), .sl 2 (List.map aPt (r.1.points)), aI (r.1.mark)], .bool (r.2.1), aI (r.2.2)]
theorem con_watermark_receivePoint {n : Nat} {a0 : Trk} {a1 : T_api_Message} {r : Trk × Bool × Int} (hF : F_watermark_receivePoint n a0 a1 = some r) : Con E0 false 66 [.agg [aI (a0.next), .sl 1 (List.map aI (a0.beyond)), .sl 2 (List.map aPt (a0.points)), aI (a0.mark)], .agg [aI (a1.fKind), aI (a1.fEvent.fSource), aI (a1.fEvent.fSeq), aI (a1.fEvent.fType), aI (a1.fEvent.fTime), .sl 3 (List.map e_api_Value (a1.fEvent.fValues)), aI (a1.fSource), aI (a1.fSeq), aI (a1.fTime)]] (R_watermark_receivePoint r) := by
  unfold F_watermark_receivePoint at hF
  refine Con.walk _ Try.func66 rfl (enters_of Try.func66 rfl rfl) rfl (Or.inl rfl) ?_
  repeat' first
    | (refine AW.step ?_; conv => whnf)
    | (refine CondX.o hF (fun hF => ?_) (fun hF => ?_))
    | (refine CondX.t ?_)
    | (refine CondX.f ?_)
    | (refine CallX.o hF R_puAdd (fun a h => con_puAdd h) (fun a hF => ?_))
    | (refine And.intro ⟨by kernel_rfl, by kernel_rfl⟩ ?_)
    | (refine EqX.mk (by first | rfl | kernel_rfl) ?_)
    | (exact RetX.o hF (by repeat' first | exact Sub.nil _ | exact Sub.refl _ | refine Sub.agg ?_ | refine Sub.tup ?_ | refine Sub.fn ?_ | exact SubL.nil | refine SubL.cons ?_ ?_ | refine Sub.sl _ ?_ | exact SubE.nil | refine SubE.cons ?_ ?_))

def T_watermark_receive (r : (List Trk) × Bool × Int) : AV := .tup [.row 0, .bool (r.2.1), aI (r.2.2)]
theorem conT_watermark_receive {n : Nat} {a0 : (List Trk)} {a1 : T_api_Message} {r : (List Trk) × Bool × Int} (hF : F_watermark_receive n a0 a1 = some r) : ConT E0 58 [.sl 4 (List.map aTrk (a0)), .agg [aI (a1.fKind), aI (a1.fEvent.fSource), aI (a1.fEvent.fSeq), aI (a1.fEvent.fType), aI (a1.fEvent.fTime), .sl 3 (List.map e_api_Value (a1.fEvent.fValues)), aI (a1.fSource), aI (a1.fSeq), aI (a1.fTime)]] 51 4 (List.map aTrk (r.1)) (T_watermark_receive r) := by
  unfold F_watermark_receive at hF
  refine ConT.walk _ Try.func58 rfl (enters_of Try.func58 rfl rfl) rfl rfl ?_
  repeat' first
    | (refine AW.step ?_; conv => whnf)
    | (refine CondX.o hF (fun hF => ?_) (fun hF => ?_))
    | (refine CondX.t ?_)
    | (refine CondX.f ?_)
    | (refine CallX.o hF R_watermark_CheckMessage (fun a h => con_watermark_CheckMessage h) (fun a hF => ?_))
    | (refine CallX.mk _ _ con_watermark_kinds ?_)
    | (refine NatX.o2 hF (fun hF => ?_) (fun hF => ?_))
    | (refine CallX.o hF R_watermark_kinds_1 (fun a h => con_watermark_kinds_1 h) (fun a hF => ?_))
    | (refine IdxX.o aTrk hF (fun x hF => ?_))
    | (refine CallX.o hF R_watermark_receiveEvent (fun a h => con_watermark_receiveEvent h) (fun a hF => ?_))
    | (refine CallX.oR hF (fun r => r) aTrk (fun _ => AV.row 0) rfl (fun a h => conT_clone67 h) (fun a hF => ?_))
    | (refine CallX.oR hF (fun r => r) aTrk (fun _ => AV.row 0) rfl (fun a h => ConT.sub (by repeat' first | exact Sub.nil _ | exact Sub.refl _ | refine Sub.agg ?_ | refine Sub.tup ?_ | refine Sub.fn ?_ | exact SubL.nil | refine SubL.cons ?_ ?_ | refine Sub.sl _ ?_ | exact SubE.nil | refine SubE.cons ?_ ?_) (conT_clone67 h)) (fun a hF => ?_))
    | (refine NatX.o hF (fun m hF => ?_))
    | (refine SetX.o aTrk hF (fun x => rfl) (fun x => (by first | exact SubL.refl _ | (repeat' first | exact SubL.nil | refine SubL.cons ?_ ?_ | exact Sub.refl _ | exact Sub.nil _ | refine Sub.agg ?_))) (fun l hF => ?_))
    | (refine CallX.o hF R_watermark_kinds_2 (fun a h => con_watermark_kinds_2 h) (fun a hF => ?_))
    | (refine CallX.o hF R_watermark_receivePoint (fun a h => con_watermark_receivePoint h) (fun a hF => ?_))
    | (refine And.intro ⟨by kernel_rfl, by kernel_rfl⟩ ?_)
    | (refine EqX.mk (by first | rfl | kernel_rfl) ?_)
    | (refine TX.o (rl := fun r => List.map aTrk (r.1)) (res := T_watermark_receive) hF ?_; exact TX.mk _ 47 (LeX.refl _ _ _) _ rfl rfl (by repeat' first | exact Sub.nil _ | exact Sub.refl _ | refine Sub.agg ?_ | refine Sub.tup ?_ | refine Sub.fn ?_ | exact SubL.nil | refine SubL.cons ?_ ?_ | refine Sub.sl _ ?_ | exact SubE.nil | refine SubE.cons ?_ ?_))
    | (refine TX.o (rl := fun r => List.map aTrk (r.1)) (res := T_watermark_receive) hF ?_; exact TX.mk _ 9000 (LeX.adopt 4 9000 51 4 rfl rfl) _ rfl rfl (by repeat' first | exact Sub.nil _ | exact Sub.refl _ | refine Sub.agg ?_ | refine Sub.tup ?_ | refine Sub.fn ?_ | exact SubL.nil | refine SubL.cons ?_ ?_ | refine Sub.sl _ ?_ | exact SubE.nil | refine SubE.cons ?_ ?_))

def S_watermark_Receive_l1 (x2 : (List Trk) × Bool × Int) (v1_0 : Int × (List Trk)) : AS := ⟨[(8, .row 20), (9, .bool (x2.2.1)), (28, aI ((((List.map aTrk (x2.1)).length : Nat) : Int))), (29, aI (v1_0.1))], [(20, .row 51 4 (List.map aTrk (v1_0.2)))]⟩
theorem watermark_Receive_l1_o {n N : Nat} {x2 : (List Trk) × Bool × Int} {k1_0_0 : Bool → (List Trk) → Option ((List Trk) × Bool × Int)} {R : Exit → AS → Prop} {K : List KItem} {c : Code} {σ : AS} {v0 : Int × (List Trk)} {r : (List Trk) × Bool × Int} (hF : F_watermark_Receive_l1 n x2 k1_0_0 N v0 = some r) (hl : LeX E0 55 σ (S_watermark_Receive_l1 x2 v0)) (round : ∀ m v, F_watermark_Receive_l1 n x2 k1_0_0 (m + 1) v = some r → AW E0 55 (thenA (fun σ' => ∃ v', F_watermark_Receive_l1 n x2 k1_0_0 m v' = some r ∧ LeX E0 55 σ' (S_watermark_Receive_l1 x2 v')) (AW E0 55 R K)) [.code c] .normal (S_watermark_Receive_l1 x2 v)) : LoopX E0 55 (fun next σ' => AW E0 55 (thenA next (AW E0 55 R K)) [.code c] .normal σ') σ :=
  LoopA.o (S := S_watermark_Receive_l1 x2) hF (fun _ => rfl) hl round
def R_watermark_Receive (r : (List Trk) × Bool × Int) : AV := .tup [.sl 4 (List.map aTrk (r.1)), .bool (r.2.1), aI (r.2.2)]
theorem con_watermark_Receive {n : Nat} {a0 : (List Trk)} {a1 : T_api_Message} {r : (List Trk) × Bool × Int} (hF : F_watermark_Receive n a0 a1 = some r) : Con E0 false 49 [.sl 4 (List.map aTrk (a0)), .agg [aI (a1.fKind), aI (a1.fEvent.fSource), aI (a1.fEvent.fSeq), aI (a1.fEvent.fType), aI (a1.fEvent.fTime), .sl 3 (List.map e_api_Value (a1.fEvent.fValues)), aI (a1.fSource), aI (a1.fSeq), aI (a1.fTime)]] (R_watermark_Receive r) := by
  unfold F_watermark_Receive at hF
  refine Con.walk _ Try.func49 rfl (enters_of Try.func49 rfl rfl) rfl (Or.inl rfl) ?_
  repeat' first
    | (refine AW.step ?_; conv => whnf)
    | (refine CondX.o hF (fun hF => ?_) (fun hF => ?_))
    | (refine CondX.t ?_)
    | (refine CondX.f ?_)
    | (refine CallX.o hF R_watermark_Check (fun a h => con_watermark_Check h) (fun a hF => ?_))
    | (refine CallX.oR hF (fun r => r.1) aTrk T_watermark_receive rfl (fun a h => conT_watermark_receive h) (fun a hF => ?_))
    | (refine CallX.oR hF (fun r => r.1) aTrk T_watermark_receive rfl (fun a h => ConT.sub (by repeat' first | exact Sub.nil _ | exact Sub.refl _ | refine Sub.agg ?_ | refine Sub.tup ?_ | refine Sub.fn ?_ | exact SubL.nil | refine SubL.cons ?_ ?_ | refine Sub.sl _ ?_ | exact SubE.nil | refine SubE.cons ?_ ?_) (conT_watermark_receive h)) (fun a hF => ?_))
    | (refine NatX.o hF (fun m hF => ?_))
    | (refine LtX.o hF (fun hF => ?_))
    | (refine EltX.o aTrk hF (fun x hF => ?_))
    | (refine CallX.o hF (fun q => AV.sl 1 (List.map aI q)) (fun a h => con_clone36 h) (fun a hF => ?_))
    | (refine CallX.o hF (fun q => AV.sl 2 (List.map aPt q)) (fun a h => con_clone37 h) (fun a hF => ?_))
    | (refine SetX.o aTrk hF (fun x => rfl) (fun x => (by first | exact SubL.refl _ | (repeat' first | exact SubL.nil | refine SubL.cons ?_ ?_ | exact Sub.refl _ | exact Sub.nil _ | refine Sub.agg ?_))) (fun l hF => ?_))
    | (exact ⟨_, hF, LeX.of [] rfl ⟨⟨rfl, rfl⟩, ⟨rfl, rfl⟩, ⟨rfl, rfl⟩, ⟨rfl, rfl⟩, trivial⟩ ⟨⟨rfl, rfl⟩, trivial⟩⟩)
    | (refine watermark_Receive_l1_o hF (LeX.of [] rfl ⟨⟨rfl, rfl⟩, ⟨rfl, rfl⟩, ⟨rfl, rfl⟩, ⟨rfl, rfl⟩, trivial⟩ ⟨⟨rfl, rfl⟩, trivial⟩) (fun m v hF => ?_); unfold F_watermark_Receive_l1 at hF)
    | (refine And.intro ⟨by kernel_rfl, by kernel_rfl⟩ ?_)
    | (refine EqX.mk (by first | rfl | kernel_rfl) ?_)
    | (exact RetX.o hF (by repeat' first | exact Sub.nil _ | exact Sub.refl _ | refine Sub.agg ?_ | refine Sub.tup ?_ | refine Sub.fn ?_ | exact SubL.nil | refine SubL.cons ?_ ?_ | refine Sub.sl _ ?_ | exact SubE.nil | refine SubE.cons ?_ ?_))

def R_value_size (r : Int) : AV := aI (r)
theorem con_value_size {n : Nat} {a0 : T_api_Value} {r : Int} (hF : F_value_size n a0 = some r) : Con E0 true 54 [.agg [aI (a0.fKind), aI (a0.fNum), .str (a0.fText)]] (R_value_size r) := by
  unfold F_value_size at hF
  refine Con.walk _ Try.func54 rfl (enters_of Try.func54 rfl rfl) rfl (Or.inr rfl) ?_
  repeat' first
    | (refine AW.step ?_; conv => whnf)
    | (refine CondX.o hF (fun hF => ?_) (fun hF => ?_))
    | (refine CondX.t ?_)
    | (refine CondX.f ?_)
    | (refine And.intro ⟨by kernel_rfl, by kernel_rfl⟩ ?_)
    | (refine EqX.mk (by first | rfl | kernel_rfl) ?_)
    | (exact RetX.o hF (by repeat' first | exact Sub.nil _ | exact Sub.refl _ | refine Sub.agg ?_ | refine Sub.tup ?_ | refine Sub.fn ?_ | exact SubL.nil | refine SubL.cons ?_ ?_ | refine Sub.sl _ ?_ | exact SubE.nil | refine SubE.cons ?_ ?_))

def R_value_Check (r : Int) : AV := aI (r)
theorem con_value_Check {n : Nat} {a0 : T_api_Value} {r : Int} (hF : F_value_Check n a0 = some r) : Con E0 true 45 [.agg [aI (a0.fKind), aI (a0.fNum), .str (a0.fText)]] (R_value_Check r) := by
  unfold F_value_Check at hF
  refine Con.walk _ Try.func45 rfl (enters_of Try.func45 rfl rfl) rfl (Or.inr rfl) ?_
  repeat' first
    | (refine AW.step ?_; conv => whnf)
    | (refine CondX.o hF (fun hF => ?_) (fun hF => ?_))
    | (refine CondX.t ?_)
    | (refine CondX.f ?_)
    | (refine CallX.o hF R_value_size (fun a h => con_value_size h) (fun a hF => ?_))
    | (refine And.intro ⟨by kernel_rfl, by kernel_rfl⟩ ?_)
    | (refine EqX.mk (by first | rfl | kernel_rfl) ?_)
    | (exact RetX.o hF (by repeat' first | exact Sub.nil _ | exact Sub.refl _ | refine Sub.agg ?_ | refine Sub.tup ?_ | refine Sub.fn ?_ | exact SubL.nil | refine SubL.cons ?_ ?_ | refine Sub.sl _ ?_ | exact SubE.nil | refine SubE.cons ?_ ?_))

def S_value_Hash_l1 (x3 : (List Int)) (v1_0 : Int × Int) : AS := ⟨[(7, .int .u32 (v1_0.1)), (38, .row 25), (39, aI ((((List.map (AV.int .u8) (x3)).length : Nat) : Int))), (40, aI (v1_0.2))], [(25, .row 5 1 (List.map (AV.int .u8) (x3)))]⟩
theorem value_Hash_l1_o {n N : Nat} {x3 : (List Int)} {k1_0_0 : Int → Option (Int × Int)} {R : Exit → AS → Prop} {K : List KItem} {c : Code} {σ : AS} {v0 : Int × Int} {r : Int × Int} (hF : F_value_Hash_l1 n x3 k1_0_0 N v0 = some r) (hl : LeX E0 52 σ (S_value_Hash_l1 x3 v0)) (round : ∀ m v, F_value_Hash_l1 n x3 k1_0_0 (m + 1) v = some r → AW E0 52 (thenA (fun σ' => ∃ v', F_value_Hash_l1 n x3 k1_0_0 m v' = some r ∧ LeX E0 52 σ' (S_value_Hash_l1 x3 v')) (AW E0 52 R K)) [.code c] .normal (S_value_Hash_l1 x3 v)) : LoopX E0 52 (fun next σ' => AW E0 52 (thenA next (AW E0 52 R K)) [.code c] .normal σ') σ :=
  LoopA.o (S := S_value_Hash_l1 x3) hF (fun _ => rfl) hl round
def S_value_Hash_l3 (k2_1_0y : (List Int)) (v3_2 : Int × Int) : AS := ⟨[(7, .int .u32 (v3_2.1)), (38, .row 7018), (39, aI ((((List.map (AV.int .u8) (k2_1_0y)).length : Nat) : Int))), (40, aI (v3_2.2))], [(7018, .row 5 1 (List.map (AV.int .u8) (k2_1_0y)))]⟩
theorem value_Hash_l3_o {n N : Nat} {k2_1_0y : (List Int)} {k3_2_0 : Int → Option (Int × Int)} {R : Exit → AS → Prop} {K : List KItem} {c : Code} {σ : AS} {v0 : Int × Int} {r : Int × Int} (hF : F_value_Hash_l3 n k2_1_0y k3_2_0 N v0 = some r) (hl : LeX E0 52 σ (S_value_Hash_l3 k2_1_0y v0)) (round : ∀ m v, F_value_Hash_l3 n k2_1_0y k3_2_0 (m + 1) v = some r → AW E0 52 (thenA (fun σ' => ∃ v', F_value_Hash_l3 n k2_1_0y k3_2_0 m v' = some r ∧ LeX E0 52 σ' (S_value_Hash_l3 k2_1_0y v')) (AW E0 52 R K)) [.code c] .normal (S_value_Hash_l3 k2_1_0y v)) : LoopX E0 52 (fun next σ' => AW E0 52 (thenA next (AW E0 52 R K)) [.code c] .normal σ') σ :=
  LoopA.o (S := S_value_Hash_l3 k2_1_0y) hF (fun _ => rfl) hl round
def S_value_Hash_l2 (a0 : T_api_Value) (v2_1 : Int × (List Int)) : AS := ⟨[(1, .ptr 1 0), (5, .row 7018), (6, aI (v2_1.1))], [(1, .box 36 [aI (a0.fKind), aI (a0.fNum), .str (a0.fText)]), (7018, .row 5 1 (List.map (AV.int .u8) (v2_1.2)))]⟩
theorem value_Hash_l2_o {n N : Nat} {a0 : T_api_Value} {k2_1_0 : (List Int) → Option (Int × Int)} {R : Exit → AS → Prop} {K : List KItem} {c : Code} {σ : AS} {v0 : Int × (List Int)} {r : Int × Int} (hF : F_value_Hash_l2 n a0 k2_1_0 N v0 = some r) (hl : LeX E0 52 σ (S_value_Hash_l2 a0 v0)) (round : ∀ m v, F_value_Hash_l2 n a0 k2_1_0 (m + 1) v = some r → AW E0 52 (thenA (fun σ' => ∃ v', F_value_Hash_l2 n a0 k2_1_0 m v' = some r ∧ LeX E0 52 σ' (S_value_Hash_l2 a0 v')) (AW E0 52 R K)) [.code c] .normal (S_value_Hash_l2 a0 v)) : LoopX E0 52 (fun next σ' => AW E0 52 (thenA next (AW E0 52 R K)) [.code c] .normal σ') σ :=
  LoopA.o (S := S_value_Hash_l2 a0) hF (fun _ => rfl) hl round
def R_value_Hash (r : Int × Int) : AV := .tup [aI (r.1), aI (r.2)]
theorem con_value_Hash {n : Nat} {a0 : T_api_Value} {r : Int × Int} (hF : F_value_Hash n a0 = some r) : Con E0 true 30 [.agg [aI (a0.fKind), aI (a0.fNum), .str (a0.fText)]] (R_value_Hash r) := by
  unfold F_value_Hash at hF
  refine Con.walk _ Try.func30 rfl (enters_of Try.func30 rfl rfl) rfl (Or.inr rfl) ?_
  repeat' first
    | (refine AW.step ?_; conv => whnf)
    | (refine CondX.o hF (fun hF => ?_) (fun hF => ?_))
    | (refine CondX.t ?_)
    | (refine CondX.f ?_)
    | (refine CallX.o hF R_value_Check (fun a h => con_value_Check h) (fun a hF => ?_))
    | (refine OpX.bld (AV.int .u8) hF rfl rfl rfl rfl rfl rfl rfl rfl rfl rfl rfl rfl rfl rfl rfl rfl (fun l hF => ?_))
    | (refine OpX.aps hF rfl rfl rfl rfl rfl rfl rfl rfl rfl rfl rfl rfl rfl rfl rfl rfl rfl rfl rfl (fun l hF => ?_))
    | (refine NatX.o hF (fun m hF => ?_))
    | (refine EltX.o (AV.int .u8) hF (fun x hF => ?_))
    | (exact ⟨_, hF, LeX.of [] rfl ⟨⟨rfl, rfl⟩, ⟨rfl, rfl⟩, ⟨rfl, rfl⟩, ⟨rfl, rfl⟩, trivial⟩ ⟨⟨rfl, rfl⟩, trivial⟩⟩)
    | (refine value_Hash_l1_o hF (LeX.of [] rfl ⟨⟨rfl, rfl⟩, ⟨rfl, rfl⟩, ⟨rfl, rfl⟩, ⟨rfl, rfl⟩, trivial⟩ ⟨⟨rfl, rfl⟩, trivial⟩) (fun m v hF => ?_); unfold F_value_Hash_l1 at hF)
    | (refine value_Hash_l3_o hF (LeX.of [] rfl ⟨⟨rfl, rfl⟩, ⟨rfl, rfl⟩, ⟨rfl, rfl⟩, ⟨rfl, rfl⟩, trivial⟩ ⟨⟨rfl, rfl⟩, trivial⟩) (fun m v hF => ?_); unfold F_value_Hash_l3 at hF)
    | (refine OpX.bldS (AV.int .u8) hF rfl rfl rfl rfl rfl rfl rfl rfl rfl rfl rfl rfl rfl rfl (fun l hF => ?_))
    | (refine AppX.o (AV.int .u8) hF (by first | exact SubR.refl _ | (repeat' first | exact SubR.nil | refine SubR.cons ?_ ?_ | exact SubL.nil | refine SubL.cons ?_ ?_ | exact Sub.refl _ | exact Sub.nil _)) (fun l hF => ?_))
    | (exact ⟨_, hF, LeX.of [(7018, 37)] rfl ⟨⟨rfl, rfl⟩, ⟨rfl, rfl⟩, ⟨rfl, rfl⟩, trivial⟩ ⟨⟨rfl, rfl⟩, ⟨rfl, rfl⟩, trivial⟩⟩)
    | (refine ShX.o hF (fun hF => ?_))
    | (refine value_Hash_l2_o hF (LeX.of [(7018, 18)] rfl ⟨⟨rfl, rfl⟩, ⟨rfl, rfl⟩, ⟨rfl, rfl⟩, trivial⟩ ⟨⟨rfl, rfl⟩, ⟨rfl, rfl⟩, trivial⟩) (fun m v hF => ?_); unfold F_value_Hash_l2 at hF)
    | (refine And.intro ⟨by kernel_rfl, by kernel_rfl⟩ ?_)
    | (refine EqX.mk (by first | rfl | kernel_rfl) ?_)
    | (exact RetX.o hF (by repeat' first | exact Sub.nil _ | exact Sub.refl _ | refine Sub.agg ?_ | refine Sub.tup ?_ | refine Sub.fn ?_ | exact SubL.nil | refine SubL.cons ?_ ?_ | refine Sub.sl _ ?_ | exact SubE.nil | refine SubE.cons ?_ ?_))

def R_schema_digit (r : Bool) : AV := .bool (r)
theorem con_schema_digit {n : Nat} {a0 : Int} {r : Bool} (hF : F_schema_digit n a0 = some r) : Con E0 true 50 [.int .u8 (a0)] (R_schema_digit r) := by
  unfold F_schema_digit at hF
  refine Con.walk _ Try.func50 rfl (enters_of Try.func50 rfl rfl) rfl (Or.inr rfl) ?_
  repeat' first
    | (refine AW.step ?_; conv => whnf)
    | (refine CondX.o hF (fun hF => ?_) (fun hF => ?_))
    | (refine CondX.t ?_)
    | (refine CondX.f ?_)
    | (refine And.intro ⟨by kernel_rfl, by kernel_rfl⟩ ?_)
    | (refine EqX.mk (by first | rfl | kernel_rfl) ?_)
    | (exact RetX.o hF (by repeat' first | exact Sub.nil _ | exact Sub.refl _ | refine Sub.agg ?_ | refine Sub.tup ?_ | refine Sub.fn ?_ | exact SubL.nil | refine SubL.cons ?_ ?_ | refine Sub.sl _ ?_ | exact SubE.nil | refine SubE.cons ?_ ?_))

def R_schema_letter (r : Bool) : AV := .bool (r)
theorem con_schema_letter {n : Nat} {a0 : Int} {r : Bool} (hF : F_schema_letter n a0 = some r) : Con E0 true 51 [.int .u8 (a0)] (R_schema_letter r) := by
  unfold F_schema_letter at hF
  refine Con.walk _ Try.func51 rfl (enters_of Try.func51 rfl rfl) rfl (Or.inr rfl) ?_
  repeat' first
    | (refine AW.step ?_; conv => whnf)
    | (refine CondX.o hF (fun hF => ?_) (fun hF => ?_))
    | (refine CondX.t ?_)
    | (refine CondX.f ?_)
    | (refine And.intro ⟨by kernel_rfl, by kernel_rfl⟩ ?_)
    | (refine EqX.mk (by first | rfl | kernel_rfl) ?_)
    | (exact RetX.o hF (by repeat' first | exact Sub.nil _ | exact Sub.refl _ | refine Sub.agg ?_ | refine Sub.tup ?_ | refine Sub.fn ?_ | exact SubL.nil | refine SubL.cons ?_ ?_ | refine Sub.sl _ ?_ | exact SubE.nil | refine SubE.cons ?_ ?_))

def S_schema_name_l1 (a0 : ByteArray) (v1_0 : Int) : AS := ⟨[(0, .str (a0)), (18, aI (((a0.size : Nat) : Int))), (19, aI (v1_0))], []⟩
theorem schema_name_l1_o {n N : Nat} {a0 : ByteArray} {k1_0_0 : Option (Bool)} {R : Exit → AS → Prop} {K : List KItem} {c : Code} {σ : AS} {v0 : Int} {r : Bool} (hF : F_schema_name_l1 n a0 k1_0_0 N v0 = some r) (hl : LeX E0 35 σ (S_schema_name_l1 a0 v0)) (round : ∀ m v, F_schema_name_l1 n a0 k1_0_0 (m + 1) v = some r → AW E0 35 (thenA (fun σ' => ∃ v', F_schema_name_l1 n a0 k1_0_0 m v' = some r ∧ LeX E0 35 σ' (S_schema_name_l1 a0 v')) (AW E0 35 R K)) [.code c] .normal (S_schema_name_l1 a0 v)) : LoopX E0 35 (fun next σ' => AW E0 35 (thenA next (AW E0 35 R K)) [.code c] .normal σ') σ :=
  LoopA.o (S := S_schema_name_l1 a0) hF (fun _ => rfl) hl round
def R_schema_name (r : Bool) : AV := .bool (r)
theorem con_schema_name {n : Nat} {a0 : ByteArray} {r : Bool} (hF : F_schema_name n a0 = some r) : Con E0 true 39 [.str (a0)] (R_schema_name r) := by
  unfold F_schema_name at hF
  refine Con.walk _ Try.func39 rfl (enters_of Try.func39 rfl rfl) rfl (Or.inr rfl) ?_
  repeat' first
    | (refine AW.step ?_; conv => whnf)
    | (refine CondX.o hF (fun hF => ?_) (fun hF => ?_))
    | (refine CondX.t ?_)
    | (refine CondX.f ?_)
    | (refine OpX.idb hF rfl rfl rfl rfl rfl rfl rfl rfl (fun b hF => ?_))
    | (refine CallX.o hF R_schema_digit (fun a h => con_schema_digit h) (fun a hF => ?_))
    | (refine CallX.o hF R_schema_letter (fun a h => con_schema_letter h) (fun a hF => ?_))
    | (exact ⟨_, hF, LeX.of [] rfl ⟨⟨rfl, rfl⟩, ⟨rfl, rfl⟩, ⟨rfl, rfl⟩, trivial⟩ trivial⟩)
    | (refine schema_name_l1_o hF (LeX.of [] rfl ⟨⟨rfl, rfl⟩, ⟨rfl, rfl⟩, ⟨rfl, rfl⟩, trivial⟩ trivial) (fun m v hF => ?_); unfold F_schema_name_l1 at hF)
    | (refine And.intro ⟨by kernel_rfl, by kernel_rfl⟩ ?_)
    | (refine EqX.mk (by first | rfl | kernel_rfl) ?_)
    | (exact RetX.o hF (by repeat' first | exact Sub.nil _ | exact Sub.refl _ | refine Sub.agg ?_ | refine Sub.tup ?_ | refine Sub.fn ?_ | exact SubL.nil | refine SubL.cons ?_ ?_ | refine Sub.sl _ ?_ | exact SubE.nil | refine SubE.cons ?_ ?_))

def R_schema_fieldName (r : Bool) : AV := .bool (r)
theorem con_schema_fieldName {n : Nat} {a0 : ByteArray} {r : Bool} (hF : F_schema_fieldName n a0 = some r) : Con E0 true 40 [.str (a0)] (R_schema_fieldName r) := by
  unfold F_schema_fieldName at hF
  refine Con.walk _ Try.func40 rfl (enters_of Try.func40 rfl rfl) rfl (Or.inr rfl) ?_
  repeat' first
    | (refine AW.step ?_; conv => whnf)
    | (refine CondX.o hF (fun hF => ?_) (fun hF => ?_))
    | (refine CondX.t ?_)
    | (refine CondX.f ?_)
    | (refine CallX.o hF R_schema_name (fun a h => con_schema_name h) (fun a hF => ?_))
    | (refine And.intro ⟨by kernel_rfl, by kernel_rfl⟩ ?_)
    | (refine EqX.mk (by first | rfl | kernel_rfl) ?_)
    | (exact RetX.o hF (by repeat' first | exact Sub.nil _ | exact Sub.refl _ | refine Sub.agg ?_ | refine Sub.tup ?_ | refine Sub.fn ?_ | exact SubL.nil | refine SubL.cons ?_ ?_ | refine Sub.sl _ ?_ | exact SubE.nil | refine SubE.cons ?_ ?_))

theorem eqK_9 (a b : ByteArray) : eqK (AV.str a) (AV.str b) = some (decide (a = b)) := by simp [eqK, eq1, aI, bytes_dec]
def S_schema_Check_l1 (a0 : T_api_Schema) (v1_0 : Int × (List (ByteArray × Bool))) : AS := ⟨[(3, .row 14), (16, .sl 2 (List.map e_api_Field (a0.fFields))), (17, aI ((((List.map e_api_Field (a0.fFields)).length : Nat) : Int))), (18, aI (v1_0.1))], [(14, .mp (List.map (encM AV.str AV.bool) (v1_0.2)))]⟩
theorem schema_Check_l1_o {n N : Nat} {a0 : T_api_Schema} {k1_0_0 : Option (Int)} {R : Exit → AS → Prop} {K : List KItem} {c : Code} {σ : AS} {v0 : Int × (List (ByteArray × Bool))} {r : Int} (hF : F_schema_Check_l1 n a0 k1_0_0 N v0 = some r) (hl : LeX E0 45 σ (S_schema_Check_l1 a0 v0)) (round : ∀ m v, F_schema_Check_l1 n a0 k1_0_0 (m + 1) v = some r → AW E0 45 (thenA (fun σ' => ∃ v', F_schema_Check_l1 n a0 k1_0_0 m v' = some r ∧ LeX E0 45 σ' (S_schema_Check_l1 a0 v')) (AW E0 45 R K)) [.code c] .normal (S_schema_Check_l1 a0 v)) : LoopX E0 45 (fun next σ' => AW E0 45 (thenA next (AW E0 45 R K)) [.code c] .normal σ') σ :=
  LoopA.o (S := S_schema_Check_l1 a0) hF (fun _ => rfl) hl round
def R_schema_Check (r : Int) : AV := aI (r)
end Go.Proofs.Ytcbdhigllelmcaa
