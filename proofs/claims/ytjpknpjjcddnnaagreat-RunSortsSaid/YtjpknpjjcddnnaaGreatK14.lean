/- Layer 25: the chapter's examples, worked out by the kernel. Layer 25: sorting without repetitions, plainly: the program's and the reference's. Arguments opened: structs (printed by gen_open.py). Arguments opened: bytes. What some functions compute, over plain values. Printed by a program of mine (gen_fun.lean). -/
import Derived.Test.YtjpknpjjcddnnaaGreatK13
import Derived.Test.YtjpknpjjcddnnaaGreatK12
import Derived.Test.YtjpknpjjcddnnaaGreatK08
import Derived.Test.YtjpknpjjcddnnaaGreatK11
set_option linter.unusedVariables false
set_option linter.unusedSimpArgs false
set_option maxRecDepth 100000
set_option maxHeartbeats 8000000
namespace Go.Proofs.YtjpknpjjcddnnaaGreat
open Go.RowKit
theorem awake_ok : z1j 2000000000 = some true := by kernel_rfl
end Go.Proofs.YtjpknpjjcddnnaaGreat
namespace Go.Proofs.YtjpknpjjcddnnaaGreat
open Go.RowKit
theorem nle_nat {β : Type} {i len : Nat} (h : i ≤ len) (k : Nat → Option β) : nle (i : Int) len k = k i := by unfold nle; simp [h]
theorem gle_ok {β : Type} {a b : Nat} (h : a ≤ b) (x : Option β) : gle a b x = x := by unfold gle; simp [h]
theorem clr_ok {α β : Type} {l : List α} {lo : Nat} (h : lo ≤ l.length) (z : α) (k : List α → Option β) : clr l lo z k = k (clrL l lo z) := by unfold clr; simp [h]
theorem frb_eq {β : Type} (i : Nat) (x : Option β) : frb i x = x := by unfold frb; rfl
theorem clrL_take {α : Type} (l : List α) (lo : Nat) (z : α) (h : lo ≤ l.length) : (clrL l lo z).take lo = l.take lo := by
 unfold clrL
 rw [List.take_append_of_le_length (by rw [List.length_take]; omega), List.take_take, Nat.min_self]
theorem clrL_len {α : Type} (l : List α) (lo : Nat) (z : α) (h : lo ≤ l.length) : (clrL l lo z).length = l.length := by
 unfold clrL; simp; omega
theorem wrapP (k : Nat) (h : 1 ≤ k) (h2 : k ≤ 1000000000000) : IntKind.wrap .i64 ((k : Int) - 1) = ((k - 1 : Nat) : Int) := by rw [wrap_in _ (by omega)]; omega
theorem p_rorder (n : Nat) (a b : z0q) : z3u n a b = some (rCmp a b) := by
 unfold z3u rCmp or3 cmpI
 simp only [z6o, zb6]
 repeat' split
 all_goals first | rfl | (exfalso; omega)
theorem p_border (n : Nat) (a b : Bd) : z6k n a b = some (zqf a b) := by
 unfold z6k
 rw [p_rorder, z1y]
 simp only [z6o, zb6, zqf, or2]
 have e : rCmp ⟨a.fRef.fTime, a.fRef.fSource, a.fRef.fSeq⟩ ⟨b.fRef.fTime, b.fRef.fSource, b.fRef.fSeq⟩ = rCmp a.fRef b.fRef := rfl
 rw [e]
 unfold cmpI
 by_cases h : rCmp a.fRef b.fRef = 0
 ·rw [if_pos h, if_pos h]
  split <;> (try split) <;> rfl
 ·rw [if_neg h, if_neg h]
theorem p_rma_l1 (n : Nat) (b a : Ma) (hb : b.fBindings.length ≤ 1000000000) (hal : a.fBindings.length ≤ 1000000000) (K : Option Int) (hK : K = if a.fBindings.length < b.fBindings.length then some (-1) else if b.fBindings.length < a.fBindings.length then some 1 else some 0) : ∀ (m k : Nat), k ≤ a.fBindings.length → k ≤ b.fBindings.length → a.fBindings.length < m + k →
  z14 n b a K m k = some (lexC zqf (a.fBindings.drop k) (b.fBindings.drop k))
 | 0, k, h1, _, h3 => by omega
 | m + 1, k, h1, h2, h3 => by
   unfold z14
   simp only [jon_eq, reg_eq, z15, List.length_map, z6o, cnd_t, cnd_f, zb6]
   by_cases h : k < a.fBindings.length
   ·rw [if_pos (by omega)]
    by_cases h' : k < b.fBindings.length
    ·rw [if_pos (by omega), za0 h, za0 h', z1d _ k h, z1d _ k h']
     rw [p_border, z1y, wrapS k (by omega), p_rma_l1 n b a hb hal K hK m (k + 1) (by omega) (by omega) (by omega)]
     show _ = some (or2 (zqf _ _) _)
     unfold or2
     split <;> rfl
    ·rw [if_neg (by omega), hK, if_neg (by omega), if_pos (by omega), z1d _ k h, List.drop_eq_nil_of_le (by omega : b.fBindings.length ≤ k)]
     rfl
   ·rw [if_neg (by omega), hK, List.drop_eq_nil_of_le (by omega : a.fBindings.length ≤ k)]
    by_cases h' : a.fBindings.length < b.fBindings.length
    ·rw [if_pos h', z1d _ k (by omega : k < b.fBindings.length)]; rfl
    ·rw [if_neg h', if_neg (by omega), List.drop_eq_nil_of_le (by omega)]; rfl
theorem p_rma (n : Nat) (a b : Ma) (hn : a.fBindings.length < n) (hb : b.fBindings.length ≤ 1000000000) (hal : a.fBindings.length ≤ 1000000000) : z2n n a b = some (maCmp a b) := by
 unfold z2n
 have := p_rma_l1 n b a hb hal _ rfl n 0 (by omega) (by omega) (by omega)
 simp only [Int.natCast_zero, List.drop_zero] at this
 rw [show maCmp a b = lexC zqf a.fBindings b.fBindings from rfl, ← this]
 congr 1
 simp only [List.length_map, z6o]
 split <;> split <;> (try split) <;> (try split) <;> first | rfl | omega
theorem p_rcf_l1 (n : Nat) (b a : Cf) (hb : b.fStarts.length ≤ 1000000000) (hal : a.fStarts.length ≤ 1000000000) (K : Option Int) (hK : K = if a.fStarts.length < b.fStarts.length then some (-1) else if b.fStarts.length < a.fStarts.length then some 1 else some 0) : ∀ (m k : Nat), k ≤ a.fStarts.length → k ≤ b.fStarts.length → a.fStarts.length < m + k →
  z12 n b a K m k = some (lexC zs5 (a.fStarts.drop k) (b.fStarts.drop k))
 | 0, k, h1, _, h3 => by omega
 | m + 1, k, h1, h2, h3 => by
   unfold z12
   simp only [jon_eq, reg_eq, z13, z11, List.length_map, z6o, cnd_t, cnd_f, zb6]
   by_cases h : k < a.fStarts.length
   ·rw [if_pos (by omega)]
    by_cases h' : k < b.fStarts.length
    ·rw [if_pos (by omega), za0 h, za0 h', z1d _ k h, z1d _ k h']
     rw [wrapS k (by omega), p_rcf_l1 n b a hb hal K hK m (k + 1) (by omega) (by omega) (by omega)]
     show _ = some (or2 (zs5 _ _) _)
     unfold zs5 or2 cmpI
     generalize a.fStarts[k] = x
     generalize b.fStarts[k] = y
     simp only [cnd_b, Bool.and_true, Bool.and_eq_true, decide_eq_true_eq]
     by_cases q1 : x.fScope < y.fScope
     ·simp [q1]
     ·by_cases q2 : x.fScope = y.fScope
      ·by_cases q3 : x.fTime < y.fTime
       ·simp [q1, q2, q3]
       ·by_cases q4 : x.fTime = y.fTime
        ·simp [q1, q2, q3, q4]
        ·have : y.fTime < x.fTime := by omega
         simp [q1, q2, q3, q4, this]
      ·have : y.fScope < x.fScope := by omega
       simp [q1, q2, this]
    ·rw [if_neg (by omega), hK, if_neg (by omega), if_pos (by omega), z1d _ k h, List.drop_eq_nil_of_le (by omega : b.fStarts.length ≤ k)]
     rfl
   ·rw [if_neg (by omega), hK, List.drop_eq_nil_of_le (by omega : a.fStarts.length ≤ k)]
    by_cases h' : a.fStarts.length < b.fStarts.length
    ·rw [if_pos h', z1d _ k (by omega : k < b.fStarts.length)]; rfl
    ·rw [if_neg h', if_neg (by omega), List.drop_eq_nil_of_le (by omega)]; rfl
theorem p_rcf (n : Nat) (a b : Cf) (ha : cfOk a = true) (hb : cfOk b = true) (hn : a.fBindings.length < n) (hn2 : a.fStarts.length < n) : z2k n a b = some (zck a b) := by
 obtain ⟨a1, a2⟩ := (zbu a).1 ha
 obtain ⟨b1, b2⟩ := (zbu b).1 hb
 unfold z2k
 rw [p_rma n _ _ hn b1 a1, z1y]
 have := p_rcf_l1 n b a b2 a2 _ rfl n 0 (by omega) (by omega) (by omega)
 simp only [Int.natCast_zero, List.drop_zero] at this
 simp only [List.length_map, z6o, zb6]
 have e : (if (a.fStarts.length : Int) < (b.fStarts.length : Int) then some (-1 : Int) else if (b.fStarts.length : Int) < (a.fStarts.length : Int) then some 1 else some 0) = (if a.fStarts.length < b.fStarts.length then some (-1) else if b.fStarts.length < a.fStarts.length then some 1 else some 0) := by
  split <;> split <;> (try split) <;> (try split) <;> first | rfl | omega
 rw [e, this]
 show _ = some (or3 (cmpI a.fState b.fState) (maCmp ⟨a.fBindings⟩ ⟨b.fBindings⟩) _)
 unfold or3 cmpI
 generalize maCmp ⟨a.fBindings⟩ ⟨b.fBindings⟩ = x
 generalize lexC zs5 a.fStarts b.fStarts = y
 by_cases q1 : a.fState = b.fState
 ·by_cases q2 : x = 0 <;> simp [q1, q2]
 ·by_cases q2 : a.fState < b.fState
  ·simp [q1, q2]
  ·have : b.fState < a.fState := by omega
   simp [q1, q2, this]
theorem p_eqC (n : Nat) (a b : Cf) (ha : cfOk a = true) (hb : cfOk b = true) (hn : 1000000000 < n) : z7v n a b = some (decide (a = b)) := by
 unfold z7v
 obtain ⟨a1, a2⟩ := (zbu a).1 ha
 obtain ⟨b1, b2⟩ := (zbu b).1 hb
 rw [f_cfg n a b (by omega) (by omega) (by omega) b1 a1 b2 a2]
 rw [z1y]
 congr 1
 exact decide_eq_decide.2 (zk9.zero a b)
theorem p_cptC_l2 (n : Nat) (hn : 1000000000 < n) (l : List Cf) (hok : ∀ x ∈ l, cfOk x = true) (hl : l.length ≤ 1000000000) (x46 : Nat) (hx : 1 ≤ x46) (K : Int → List Cf → Option (List Cf)) (r : Option (List Cf))
  (hK : ∀ (i : Nat) (cur : List Cf), cur.length = l.length → i ≤ l.length → cur.take i = dd l → K (i : Int) cur = r) :
  ∀ (m k j : Nat) (cur : List Cf), 1 ≤ j → k ≤ x46 + j - 1 → x46 + j ≤ l.length → l.length < m + j + x46 → cur.length = l.length → cur.take k = dd (l.take (x46 + j)) → cur.drop (x46 + j - 1) = l.drop (x46 + j - 1) → z21 n x46 K m ((k : Int), (j : Int), cur) = r
 | 0, k, j, cur, h0, h1, h2, h3, h4, h5, h6 => by omega
 | m + 1, k, j, cur, h0, h1, h2, h3, h4, h5, h6 => by
   unfold z21
   simp only [List.length_map]
   rw [gle_ok (by omega)]
   simp only [z6o]
   by_cases h : x46 + j < l.length
   ·have e0 : ∀ i (h1 : x46 + j - 1 ≤ i) (h2 : i < l.length), ∃ h3 : i < cur.length, cur[i] = l[i] := fun i h1 h2 => by
     refine ⟨by omega, ?_⟩
     have := congrArg (fun q => q[i - (x46 + j - 1)]?) h6
     simp only [List.getElem?_drop, show x46 + j - 1 + (i - (x46 + j - 1)) = i by omega] at this
     rw [List.getElem?_eq_getElem (by omega), List.getElem?_eq_getElem h2] at this
     exact Option.some.inj this
    obtain ⟨c1, c2⟩ := e0 (x46 + j) (by omega) h
    obtain ⟨d1, d2⟩ := e0 (x46 + (j - 1)) (by omega) (by omega)
    rw [if_pos (by omega), nat_nat (by omega), elt_ok c1, wrapP j h0 (by omega), nat_nat (by omega), elt_ok d1, c2, d2]
    rw [p_eqC n _ _ (hok _ (List.getElem_mem _)) (hok _ (List.getElem_mem _)) hn, z1y, zb6, z6o, wrapS j (by omega)]
    have htk : l.take (x46 + (j + 1)) = l.take (x46 + j) ++ [l[x46 + j]] := by rw [show x46 + (j + 1) = (x46 + j) + 1 by omega, List.take_succ_eq_append_getElem h]
    have hne : l.take (x46 + j) ≠ [] := by
     intro e
     have := congrArg List.length e
     rw [List.length_take, List.length_nil] at this
     omega
    have hlast : (l.take (x46 + j)).getLast hne = l[x46 + (j - 1)] := by
     rw [List.getLast_eq_getElem]
     simp only [List.getElem_take]
     congr 1
     simp only [List.length_take]
     omega
    have hd6 : cur.drop (x46 + (j + 1) - 1) = l.drop (x46 + (j + 1) - 1) := by
     have := congrArg List.tail h6
     simp only [List.tail_drop] at this
     rw [show x46 + (j + 1) - 1 = x46 + j - 1 + 1 by omega]
     exact this
    by_cases he : l[x46 + j] = l[x46 + (j - 1)]
    ·rw [if_pos he]
     refine p_cptC_l2 n hn l hok hl x46 hx K r hK m k (j + 1) cur (by omega) (by omega) (by omega) (by omega) h4 ?_ hd6
     rw [htk, dd_snoc _ _ hne, hlast, if_pos he, List.append_nil, h5]
    ·rw [if_neg he, nat_nat (by omega), elt_ok c1, nat_nat (by omega), stx_ok (by omega), wrapS k (by omega)]
     have hset : ∀ z : Cf, (cur.set k z).take (k + 1) = cur.take k ++ [z] := fun z => by
      have hk : k < cur.length := by omega
      rw [List.take_succ_eq_append_getElem (by simpa using hk), List.getElem_set_self, List.take_set_of_le (Nat.le_refl _)]
     have c2' : cur[x46 + j] = l[x46 + j] := c2
     refine p_cptC_l2 n hn l hok hl x46 hx K r hK m (k + 1) (j + 1) _ (by omega) (by omega) (by omega) (by omega) (by simpa using h4) ?_ ?_
     ·rw [hset, htk, dd_snoc _ _ hne, hlast, if_neg he, h5]
      exact congrArg (fun q => dd (l.take (x46 + j)) ++ [q]) c2'
     ·rw [List.drop_set_of_lt (by omega)]
      exact hd6
   ·rw [if_neg (by omega)]
    refine hK k cur h4 (by omega) ?_
    rw [h5, List.take_of_length_le (by omega)]
theorem p_cptC_l1 (n : Nat) (hn : 1000000000 < n) (l : List Cf) (hok : ∀ x ∈ l, cfOk x = true) (hl : l.length ≤ 1000000000) (h1l : 1 ≤ l.length) : ∀ (m k : Nat), 1 ≤ k → k ≤ l.length → l.length < m + k → dd (l.take k) = l.take k → z2p n l (some l) m (k : Int) = some (dd l)
 | 0, k, h0, h1, h2, _ => by omega
 | m + 1, k, h0, h1, h2, h3 => by
   unfold z2p
   simp only [List.length_map, z6o]
   by_cases h : k < l.length
   ·rw [if_pos (by omega), nat_nat h, elt_ok h, wrapP k h0 (by omega), nat_nat (by omega), elt_ok (by omega)]
    rw [p_eqC n _ _ (hok _ (List.getElem_mem _)) (hok _ (List.getElem_mem _)) hn, z1y, z6o, wrapS k (by omega)]
    have htk : l.take (k + 1) = l.take k ++ [l[k]] := List.take_succ_eq_append_getElem h
    have hne : l.take k ≠ [] := by
     intro e
     have := congrArg List.length e
     rw [List.length_take, List.length_nil] at this
     omega
    have hlast : (l.take k).getLast hne = l[k - 1] := by
     rw [List.getLast_eq_getElem]
     simp only [List.getElem_take]
     congr 1
     simp only [List.length_take]
     omega
    by_cases he : l[k] = l[k - 1]
    ·rw [if_pos he, nle_nat (by omega)]
     have := p_cptC_l2 n hn l hok hl k h0 (fun k2_1_0y0 k2_1_0y1 => nle k2_1_0y0 k2_1_0y1.length fun x89 =>
      clr k2_1_0y1 x89 (⟨0, [], []⟩ : z00) fun x90 =>
      sls x90 0 k2_1_0y0 fun x91 => some x91) (some (dd l)) (fun i cur hc hi ht => by
       show nle (i : Int) cur.length (fun x89 => clr cur x89 (⟨0, [], []⟩ : z00) fun x90 => sls x90 0 (i : Int) fun x91 => some x91) = some (dd l)
       rw [nle_nat (by omega), clr_ok (by omega)]
       have := sls_ok (l := clrL cur i (⟨0, [], []⟩ : z00)) (a := 0) (b := i) (Nat.zero_le _) (by rw [clrL_len _ _ _ (by omega)]; omega) (fun x91 => some x91)
       simp only [Int.natCast_zero] at this
       rw [this, List.drop_zero, clrL_take _ _ _ (by omega), ht]) n k 1 l (by omega) (by omega) (by omega) (by omega) rfl (by rw [htk, dd_snoc _ _ hne, hlast, if_pos he, List.append_nil, h3]) rfl
     have e1 : ((1 : Nat) : Int) = 1 := rfl
     rw [e1] at this
     exact this
    ·rw [if_neg he]
     refine p_cptC_l1 n hn l hok hl h1l m (k + 1) (by omega) (by omega) (by omega) ?_
     rw [htk, dd_snoc _ _ hne, hlast, if_neg he, h3]
   ·rw [if_neg (by omega)]
    rw [List.take_of_length_le (by omega)] at h3
    rw [h3]
theorem p_cptC (n : Nat) (hn : 1000000000 < n) (l : List Cf) (hok : ∀ x ∈ l, cfOk x = true) (hl : l.length ≤ 1000000000) : z7a n l = some (dd l) := by
 unfold z7a
 simp only [List.length_map, z6o]
 by_cases h : l.length < 2
 ·rw [if_pos (by omega)]
  match l, h with
  | [], _ => rfl
  | [x], _ => rfl
 ·rw [if_neg (by omega)]
  refine p_cptC_l1 n hn l hok hl (by omega) n 1 (by omega) (by omega) (by omega) ?_
  match l, h with
  | [], h => exact absurd (by simp) h
  | [x], h => exact absurd (by simp) h
  | x :: y :: q, _ => rfl
theorem p_uniqC (n : Nat) (hn : 1000000000 < n) (l : List Cf) (hok : ∀ x ∈ l, cfOk x = true) (hl : l.length ≤ 1000000000) : zef n l = some (setL zck l) := by
 unfold zef
 rw [sortS_eq zk9 n l hok hl]
 simp only [bndC_some, frb_eq, reg_eq]
 have hp := zij zck l
 rw [p_cptC n hn _ (fun x hx => hok x (hp.mem_iff.1 hx)) (by rw [hp.length_eq]; exact hl), bndM_some, dd_sort zk9]
theorem p_putC_l1 (n : Nat) (hn : 1000000000 < n) (x : Cf) (hx : cfOk x = true) (l : List Cf) (hok : ∀ x ∈ l, cfOk x = true) (hl : l.length ≤ 1000000) (K : Int → Option (List Cf)) (r : Option (List Cf))
  (hK : ∀ i : Nat, i ≤ l.length → (∀ y ∈ l.take i, zck y x < 0) → (∀ h : i < l.length, ¬ zck l[i] x < 0) → K i = r) : ∀ (m k : Nat), k ≤ l.length → l.length < m + k → (∀ y ∈ l.take k, zck y x < 0) → z1n n x l K m (k : Int) = r
 | 0, k, h1, h2, _ => by omega
 | m + 1, k, h1, h2, h3 => by
   unfold z1n
   simp only [jon_eq, reg_eq, z1o, List.length_map, z6o, cnd_f]
   by_cases h : k < l.length
   ·rw [if_pos (by omega), za0 h, p_rcf n _ x (hok _ (List.getElem_mem h)) hx (by have := (zbu _).1 (hok _ (List.getElem_mem h)); omega) (by have := (zbu _).1 (hok _ (List.getElem_mem h)); omega), z1y]
    by_cases hc : zck l[k] x < 0
    ·rw [if_pos hc, wrapS k (by omega)]
     refine p_putC_l1 n hn x hx l hok hl K r hK m (k + 1) (by omega) (by omega) (fun y hy => ?_)
     rw [List.take_succ_eq_append_getElem h, List.mem_append, List.mem_singleton] at hy
     rcases hy with hy | hy
     ·exact h3 y hy
     ·rw [hy]; exact hc
    ·rw [if_neg hc]
     exact hK k h1 h3 (fun _ => hc)
   ·rw [if_neg (by omega)]
    exact hK k h1 h3 (fun h' => absurd h' h)
theorem insU_atC (x : Cf) : ∀ (l : List Cf) (i : Nat), i ≤ l.length → (∀ y ∈ l.take i, zck y x < 0) → (∀ h : i < l.length, ¬ zck l[i] x < 0) → insU zck x l = if ∃ h : i < l.length, zck l[i] x = 0 then l else l.take i ++ x :: l.drop i
 | [], i, h1, _, _ => by
   have : i = 0 := by simpa using h1
   subst this
   simp [insU]
 | y :: l, 0, _, _, h3 => by
   have := h3 (by simp)
   simp only [List.getElem_cons_zero] at this
   unfold insU
   rw [if_neg this]
   by_cases q : zck y x = 0
   ·rw [if_pos q, if_pos ⟨by simp, by simpa using q⟩]
   ·rw [if_neg q, if_neg (fun ⟨_, k⟩ => q (by simpa using k))]
    simp
 | y :: l, i + 1, h1, h2, h3 => by
   have hy := h2 y (by simp)
   unfold insU
   rw [if_pos hy, insU_atC x l i (by simpa using h1) (fun z hz => h2 z (by simp [hz])) (fun h => by have := h3 (by simpa using h); simpa using this)]
   by_cases q : ∃ h : i < l.length, zck l[i] x = 0
   ·obtain ⟨q1, q2⟩ := q
    rw [if_pos ⟨q1, q2⟩, if_pos ⟨by simpa using q1, by simpa using q2⟩]
   ·rw [if_neg q, if_neg (fun ⟨k1, k2⟩ => q ⟨by simpa using k1, by simpa using k2⟩)]
    simp
theorem p_putC (n : Nat) (hn : 1000000000 < n) (x : Cf) (hx : cfOk x = true) (l : List Cf) (hok : ∀ x ∈ l, cfOk x = true) (hl : l.length ≤ 1000000) : z3s n l x = some (insU zck x l) := by
 unfold z3s
 refine p_putC_l1 n hn x hx l hok hl _ _ (fun i hi h1 h2 => ?_) n 0 (by omega) (by omega) (by simp)
 rw [insU_atC x l i hi h1 h2]
 simp only [jon_eq, reg_eq, z1p, List.length_map, z6o, cnd_f]
 have hlast : ∀ z : Cf, z = x → (sls l 0 (i : Int) fun x45 => app ([] : List Cf) x45 56 fun x46 => app x46 [z] 56 fun x47 => sls l (i : Int) ((l.length : Nat) : Int) fun x48 => app x47 x48 56 fun x49 => some x49) = some (l.take i ++ x :: l.drop i) := fun z hz => by
  subst hz
  have e1 := sls_ok (l := l) (a := 0) (b := i) (Nat.zero_le _) hi (fun x45 => app ([] : List Cf) x45 56 fun x46 => app x46 [z] 56 fun x47 => sls l (i : Int) ((l.length : Nat) : Int) fun x48 => app x47 x48 56 fun x49 => some x49)
  simp only [Int.natCast_zero] at e1
  rw [e1, List.drop_zero, app_ok (by simp; omega) (by omega), List.nil_append, app_ok (by simp; omega) (by omega), sls_ok hi (Nat.le_refl _), app_ok (by simp; omega) (by omega), List.take_length]
  simp
 by_cases h : i < l.length
 ·rw [if_pos (by omega), za0 h, p_rcf n _ x (hok _ (List.getElem_mem h)) hx (by have := (zbu _).1 (hok _ (List.getElem_mem h)); omega) (by have := (zbu _).1 (hok _ (List.getElem_mem h)); omega), z1y]
  by_cases q : zck l[i] x = 0
  ·rw [if_pos q, if_pos ⟨h, q⟩]
  ·rw [if_neg q, if_neg (fun ⟨_, k⟩ => q k)]
   exact hlast _ rfl
 ·rw [if_neg (by omega), if_neg (fun ⟨k, _⟩ => h k)]
  exact hlast _ rfl
theorem p_sameC_l1 (n : Nat) (hn : 1000000000 < n) (b a : List Cf) (ha : ∀ x ∈ a, cfOk x = true) (hb : ∀ x ∈ b, cfOk x = true) (hl : a.length = b.length) (h2 : a.length ≤ 1000000) : ∀ (m k : Nat), k ≤ a.length → a.length < m + k → z2j n b a (some true) m (k : Int) = some (decide (a.drop k = b.drop k))
 | 0, k, h1, h3 => by omega
 | m + 1, k, h1, h3 => by
   unfold z2j
   simp only [List.length_map, z6o, zb6]
   by_cases h : k < a.length
   ·rw [if_pos (by omega), za0 h, za0 (by omega : k < b.length), p_rcf n _ _ (ha _ (List.getElem_mem h)) (hb _ (List.getElem_mem _)) (by have := (zbu _).1 (ha _ (List.getElem_mem h)); omega) (by have := (zbu _).1 (ha _ (List.getElem_mem h)); omega), z1y, wrapS k (by omega)]
    have e : (a.drop k = b.drop k) ↔ (a[k] = b[k]'(by omega) ∧ a.drop (k + 1) = b.drop (k + 1)) := by
     rw [z1d a k h, z1d b k (by omega), List.cons.injEq]
    by_cases he : a[k] = b[k]'(by omega)
    ·rw [if_pos ((zk9.zero _ _).2 he), p_sameC_l1 n hn b a ha hb hl h2 m (k + 1) (by omega) (by omega)]
     congr 1
     exact decide_eq_decide.2 ⟨fun q => e.2 ⟨he, q⟩, fun q => (e.1 q).2⟩
    ·rw [if_neg (fun q => he ((zk9.zero _ _).1 q)), decide_eq_false (fun q => he (e.1 q).1)]
   ·rw [if_neg (by omega), List.drop_eq_nil_of_le (by omega), List.drop_eq_nil_of_le (by omega)]
    simp
theorem p_sameC (n : Nat) (hn : 1000000000 < n) (a b : List Cf) (ha : ∀ x ∈ a, cfOk x = true) (hb : ∀ x ∈ b, cfOk x = true) (h2 : a.length ≤ 1000000) : z3h n a b = some (decide (a = b)) := by
 unfold z3h
 simp only [List.length_map, z6o, zb6]
 by_cases h : a.length = b.length
 ·rw [if_pos (by omega)]
  have := p_sameC_l1 n hn b a ha hb h h2 n 0 (by omega) (by omega)
  simpa using this
 ·rw [if_neg (by omega)]
  have : a ≠ b := fun e => h (by rw [e])
  simp [this]
theorem insU_okC {x : Cf} (hx : cfOk x = true) {l : List Cf} (hl : ∀ y ∈ l, cfOk y = true) : ∀ y ∈ insU zck x l, cfOk y = true := fun y hy => by
 rcases (insU_mem zk9 x y l).1 hy with h | h
 ·rw [h]; exact hx
 ·exact hl y h
theorem p_rsorted_l1 (n : Nat) (hn : 1000000000 < n) (l : List Cf) (hok : ∀ x ∈ l, cfOk x = true) (hl : l.length ≤ 100000) : ∀ (m k : Nat) (s : List Cf), k ≤ l.length → l.length < m + k → s.length ≤ k → (∀ x ∈ s, cfOk x = true) → z24 n l (fun y => some y) m (s, (k : Int)) = some (puts zck s (l.drop k))
 | 0, k, s, h1, h2, _, _ => by omega
 | m + 1, k, s, h1, h2, h3, h4 => by
   unfold z24
   simp only [List.length_map, z6o]
   by_cases h : k < l.length
   ·have hx := hok _ (List.getElem_mem h)
    rw [if_pos (by omega), za0 h, p_putC n hn _ hx s h4 (by omega), z1y, wrapS k (by omega), p_rsorted_l1 n hn l hok hl m (k + 1) _ (by omega) (by omega) (by have := insU_len zck l[k] s; omega) (insU_okC hx h4), z1d l k h, zs7]
   ·rw [if_neg (by omega), List.drop_eq_nil_of_le (by omega), puts_nil]
theorem p_rsorted (n : Nat) (hn : 1000000000 < n) (l : List Cf) (hok : ∀ x ∈ l, cfOk x = true) (hl : l.length ≤ 100000) : z5q n l = some (setL zck l) := by
 unfold z5q
 exact p_rsorted_l1 n hn l hok hl n 0 [] (by omega) (by omega) (by simp) (by simp)
theorem p_sort (n : Nat) (hn : 1000000000 < n) (l : List Cf) (hok : ∀ x ∈ l, cfOk x = true) (hl : l.length ≤ 100000) : zik n l = some (if 4096 < (setL zck l).length then ([], 5) else (setL zck l, 0)) := by
 unfold zik
 have hc : zcs n l = some l := by unfold zcs; exact if_pos (by omega)
 rw [hc, bndR_some, p_uniqC n hn l hok (by omega)]
 simp only [bndM_some, z1y, List.length_map, z6o]
 by_cases h : 4096 < (setL zck l).length
 ·rw [if_pos (by omega), if_pos h]
 ·rw [if_neg (by omega), if_neg h]
theorem p_rsort (n : Nat) (hn : 1000000000 < n) (l : List Cf) (hok : ∀ x ∈ l, cfOk x = true) (hl : l.length ≤ 100000) : z78 n l = some (if 4096 < (setL zck l).length then ([], 5) else (setL zck l, 0)) := by
 unfold z78
 rw [p_rsorted n hn l hok hl, z1y]
 simp only [List.length_map, z6o]
 by_cases h : 4096 < (setL zck l).length
 ·rw [if_pos (by omega), if_pos h]
 ·rw [if_neg (by omega), if_neg h]
theorem setL_ok {l : List Cf} (h : ∀ x ∈ l, cfOk x = true) : ∀ x ∈ setL zck l, cfOk x = true := fun x hx => h x ((setL_mem zk9 x l).1 hx)
def cfSmall (c : Cf) : Bool := decide (c.fBindings.length ≤ 12) && decide (c.fStarts.length ≤ 12)
theorem p_few_l1 (n : Nat) (l : List Cf) (K : Option Bool) : ∀ (m k : Nat), k ≤ 80 → 80 < m + k → z1q n l K m (k : Int) = if ∀ x ∈ (l.take 80).drop k, cfSmall x = true then K else some false
 | 0, k, h1, h2 => by omega
 | m + 1, k, h1, h2 => by
   unfold z1q
   simp only [jon_eq, reg_eq, z1s, z1r, List.length_map, z6o, cnd_f, cnd_t]
   by_cases h : k < l.length
   ·rw [if_pos (by omega)]
    by_cases h8 : k < 80
    ·rw [if_pos (by omega), za0 h, wrapS k (by omega), p_few_l1 n l K m (k + 1) (by omega) (by omega)]
     have hd : (l.take 80).drop k = l[k] :: (l.take 80).drop (k + 1) := by
      rw [z1d _ k (by simp; omega), List.getElem_take]
     rw [hd]
     simp only [List.forall_mem_cons]
     have hs : cfSmall l[k] = true ↔ l[k].fBindings.length ≤ 12 ∧ l[k].fStarts.length ≤ 12 := by simp [cfSmall]
     simp only [hs]
     by_cases q1 : l[k].fBindings.length ≤ 12
     ·rw [if_neg (by omega), za0 h]
      by_cases q2 : l[k].fStarts.length ≤ 12
      ·rw [if_neg (by omega)]
       simp only [q1, q2, true_and]
      ·rw [if_pos (by omega)]
       simp only [q1, q2, false_and, and_false, if_false]
     ·rw [if_pos (by omega)]
      simp only [q1, false_and, if_false]
    ·rw [if_neg (by omega), List.drop_eq_nil_of_le (by simp; omega)]
     simp
   ·rw [if_neg (by omega), List.drop_eq_nil_of_le (by simp; omega)]
    simp
theorem p_few (n : Nat) (hn : 80 < n) (l : List Cf) : z80 n l = some (decide (l.length ≤ 60 ∧ ∀ x ∈ l, cfSmall x = true)) := by
 unfold z80
 have := p_few_l1 n l (some (decide ((((List.map z08 (l)).length : Nat) : Int) ≤ 60))) n 0 (by omega) (by omega)
 simp only [Int.natCast_zero, List.drop_zero] at this
 rw [this]
 simp only [List.length_map]
 by_cases h : l.length ≤ 60
 ·rw [List.take_of_length_le (by omega)]
  by_cases q : ∀ x ∈ l, cfSmall x = true
  ·rw [if_pos q]
   have : ((l.length : Nat) : Int) ≤ 60 := by omega
   simp [h, this]
   simpa using q
  ·rw [if_neg q]
   simp only [h, true_and]
   rw [decide_eq_false q]
 ·have h' : ¬ ((l.length : Nat) : Int) ≤ 60 := by omega
  simp only [h, h', false_and, decide_false]
  split <;> rfl
theorem law_sorts (l : List Cf) : z71 2000000000 l = some true := by
 unfold z71
 rw [p_few _ (by omega), z1y, awake_ok]
 simp only [z1y, zb6, z6o]
 split
 ·rename_i h
  obtain ⟨h1, h2⟩ := h
  have hok : ∀ x ∈ l, cfOk x = true := fun x hx => by
   have := h2 x hx
   simp only [cfSmall, Bool.and_eq_true, decide_eq_true_eq] at this
   exact (zbu x).2 ⟨by omega, by omega⟩
  have hlen := setL_len (c := zck) l
  rw [p_sort _ (by omega) l hok (by omega), z1y, p_rsort _ (by omega) l hok (by omega), z1y]
  rw [if_neg (by omega)]
  simp only [jon_eq, reg_eq, z10]
  rw [p_sameC _ (by omega) _ _ (setL_ok hok) (setL_ok hok) (by omega), z1y]
  simp [cnd_t]
 ·rfl
end Go.Proofs.YtjpknpjjcddnnaaGreat
namespace Go.Proofs.YtjpknpjjcddnnaaGreat
open Go.ChangeShapes Go.WideShapes Go.ChangeAt Go.RowKit Go.Joins Go.Deep
section
variable {H : Type} {enc : TypeId × Value → H} {W : World} {base : Nat} {v : Value} {d : DataW H} {p : List MemPlace}
set_option maxRecDepth 100000
theorem fo_Ref : FO enc W 108 3 (fun m : z0q => (z43 m).cells) := fun n cs x hl h => by
 obtain ⟨xs, n', _, _, _, hlen, hf⟩ := DataW.trod_struct Tryz.underlying108 h
 match xs, hlen with
 | [y0, y1, y2], _ =>
   have c0 : Tryz.prog.cellsOf 3 = 1 := by kernel_rfl
   have g0 : DataW.trod enc Tryz.prog W 0 (fun _ => true) true n' 3 ((cs.drop 0).take (Tryz.prog.cellsOf 3)) = some y0 := hf 0 _ rfl
   rw [c0] at g0
   obtain ⟨m0, h0⟩ := (fo_int Tryz.underlying3) n' _ _ (zkr (by omega)) g0
   have c1 : Tryz.prog.cellsOf 3 = 1 := by kernel_rfl
   have g1 : DataW.trod enc Tryz.prog W 0 (fun _ => true) true n' 3 ((cs.drop 1).take (Tryz.prog.cellsOf 3)) = some y1 := hf 1 _ rfl
   rw [c1] at g1
   obtain ⟨m1, h1⟩ := (fo_int Tryz.underlying3) n' _ _ (zkr (by omega)) g1
   have c2 : Tryz.prog.cellsOf 3 = 1 := by kernel_rfl
   have g2 : DataW.trod enc Tryz.prog W 0 (fun _ => true) true n' 3 ((cs.drop 2).take (Tryz.prog.cellsOf 3)) = some y2 := hf 2 _ rfl
   rw [c2] at g2
   obtain ⟨m2, h2⟩ := (fo_int Tryz.underlying3) n' _ _ (zkr (by omega)) g2
   have r := (show zde W _ (cs.drop 0) from (.cut h0 (.cut h1 (.cut h2 (zde.done (by omega))))))
   exact ⟨⟨m0, m1, m2⟩, r⟩
theorem fo_Binding : FO enc W 128 4 (fun m : z0g => (z09 m).cells) := fun n cs x hl h => by
 obtain ⟨xs, n', _, _, _, hlen, hf⟩ := DataW.trod_struct Tryz.underlying128 h
 match xs, hlen with
 | [y0, y1], _ =>
   have c0 : Tryz.prog.cellsOf 3 = 1 := by kernel_rfl
   have g0 : DataW.trod enc Tryz.prog W 0 (fun _ => true) true n' 3 ((cs.drop 0).take (Tryz.prog.cellsOf 3)) = some y0 := hf 0 _ rfl
   rw [c0] at g0
   obtain ⟨m0, h0⟩ := (fo_int Tryz.underlying3) n' _ _ (zkr (by omega)) g0
   have c1 : Tryz.prog.cellsOf 108 = 3 := by kernel_rfl
   have g1 : DataW.trod enc Tryz.prog W 0 (fun _ => true) true n' 108 ((cs.drop 1).take (Tryz.prog.cellsOf 108)) = some y1 := hf 1 _ rfl
   rw [c1] at g1
   obtain ⟨m1, h1⟩ := (fo_Ref) n' _ _ (zkr (by omega)) g1
   have r := (show zde W _ (cs.drop 0) from (.cut h0 (.cut h1 (zde.done (by omega)))))
   exact ⟨⟨m0, m1⟩, r⟩
theorem fo_Start : FO enc W 120 2 (fun m : z04 => (z07 m).cells) := fun n cs x hl h => by
 obtain ⟨xs, n', _, _, _, hlen, hf⟩ := DataW.trod_struct Tryz.underlying120 h
 match xs, hlen with
 | [y0, y1], _ =>
   have c0 : Tryz.prog.cellsOf 3 = 1 := by kernel_rfl
   have g0 : DataW.trod enc Tryz.prog W 0 (fun _ => true) true n' 3 ((cs.drop 0).take (Tryz.prog.cellsOf 3)) = some y0 := hf 0 _ rfl
   rw [c0] at g0
   obtain ⟨m0, h0⟩ := (fo_int Tryz.underlying3) n' _ _ (zkr (by omega)) g0
   have c1 : Tryz.prog.cellsOf 3 = 1 := by kernel_rfl
   have g1 : DataW.trod enc Tryz.prog W 0 (fun _ => true) true n' 3 ((cs.drop 1).take (Tryz.prog.cellsOf 3)) = some y1 := hf 1 _ rfl
   rw [c1] at g1
   obtain ⟨m1, h1⟩ := (fo_int Tryz.underlying3) n' _ _ (zkr (by omega)) g1
   have r := (show zde W _ (cs.drop 0) from (.cut h0 (.cut h1 (zde.done (by omega)))))
   exact ⟨⟨m0, m1⟩, r⟩
theorem fo_Config : FO enc W 77 3 (fun m : z00 => (z08 m).cells) := fun n cs x hl h => by
 obtain ⟨xs, n', _, _, _, hlen, hf⟩ := DataW.trod_struct Tryz.underlying77 h
 match xs, hlen with
 | [y0, y1, y2], _ =>
   have c0 : Tryz.prog.cellsOf 3 = 1 := by kernel_rfl
   have g0 : DataW.trod enc Tryz.prog W 0 (fun _ => true) true n' 3 ((cs.drop 0).take (Tryz.prog.cellsOf 3)) = some y0 := hf 0 _ rfl
   rw [c0] at g0
   obtain ⟨m0, h0⟩ := (fo_int Tryz.underlying3) n' _ _ (zkr (by omega)) g0
   have c1 : Tryz.prog.cellsOf 74 = 1 := by kernel_rfl
   have g1 : DataW.trod enc Tryz.prog W 0 (fun _ => true) true n' 74 ((cs.drop 1).take (Tryz.prog.cellsOf 74)) = some y1 := hf 1 _ rfl
   rw [c1] at g1
   obtain ⟨m1, h1⟩ := (fo_sl (sz := 4) (a := z09) Tryz.underlying74 (by kernel_rfl) (by omega) inferInstance (fun _ => rfl) (fo_Binding)) n' _ _ (zkr (by omega)) g1
   have c2 : Tryz.prog.cellsOf 75 = 1 := by kernel_rfl
   have g2 : DataW.trod enc Tryz.prog W 0 (fun _ => true) true n' 75 ((cs.drop 2).take (Tryz.prog.cellsOf 75)) = some y2 := hf 2 _ rfl
   rw [c2] at g2
   obtain ⟨m2, h2⟩ := (fo_sl (sz := 2) (a := z07) Tryz.underlying75 (by kernel_rfl) (by omega) inferInstance (fun _ => rfl) (fo_Start)) n' _ _ (zkr (by omega)) g2
   have r := (show zde W _ (cs.drop 0) from (.cut h0 (.cut h1 (.cut h2 (zde.done (by omega))))))
   exact ⟨⟨m0, m1, m2⟩, r⟩
theorem Configs_arg (hv : Value.okWide Tryz.prog W .any base 29 v) (h : DataW.Trod enc Tryz.prog W 0 (fun _ => true) true 29 v d p) : ∃ l : List z00, Rep W (fun _ => True) G0 (.sl 3 (l.map z08)) v :=
 arg_slice Tryz.underlying29 (by kernel_rfl) (by omega) inferInstance (fun _ => rfl) fo_Config hv h
end
end Go.Proofs.YtjpknpjjcddnnaaGreat
namespace Go.Proofs.YtjpknpjjcddnnaaGreat
open Go.ChangeShapes Go.WideShapes Go.ChangeAt Go.RowKit Go.Joins Go.Deep
section
variable {H : Type} {enc : TypeId × Value → H} {W : World} {base : Nat} {v : Value} {d : DataW H} {p : List MemPlace}
set_option maxRecDepth 100000
end
end Go.Proofs.YtjpknpjjcddnnaaGreat
namespace Go.Proofs.YtjpknpjjcddnnaaGreat
open Go.RowKit
end Go.Proofs.YtjpknpjjcddnnaaGreat
namespace Go.Proofs.YtjpknpjjcddnnaaGreat
open Go.RowKit
end Go.Proofs.YtjpknpjjcddnnaaGreat
namespace Go.Proofs.YtjpknpjjcddnnaaGreat
open Go.RowKit
def zgr (rF_expr_Size : z0f → Option (Int × Int)) (a0 : z0f) (v1_0 : Int × Int × Int) : AS := ⟨[(4, aI (v1_0.1)), (5, aI (v1_0.2.1)), (11, .sl 8 (List.map idA (a0.fArgs))), (12, aI ((((List.map idA (a0.fArgs)).length : Nat) : Int))), (13, aI (v1_0.2.2))], []⟩
theorem expr_Size_l1_o {n N : Nat} {rF_expr_Size : z0f → Option (Int × Int)} {a0 : z0f} {k1_0_0 : Int → Int → Option (Int × Int)} {R : Exit → AS → Prop} {K : List z16} {c : Code} {σ : AS} {v0 : Int × Int × Int} {r : Int × Int} (hF : zam n rF_expr_Size a0 k1_0_0 N v0 = some r) (hl : LeX E0 32 σ (zgr rF_expr_Size a0 v0)) (round : ∀ m v, zam n rF_expr_Size a0 k1_0_0 (m + 1) v = some r → AW E0 32 (z0v (fun σ' => ∃ v', zam n rF_expr_Size a0 k1_0_0 m v' = some r ∧ LeX E0 32 σ' (zgr rF_expr_Size a0 v')) (AW E0 32 R K)) [.code c] .normal (zgr rF_expr_Size a0 v)) : z5v E0 32 (fun next σ' => AW E0 32 (z0v next (AW E0 32 R K)) [.code c] .normal σ') σ :=
 LoopA.o (S := zgr rF_expr_Size a0) hF (fun _ => rfl) hl round
def zrr (r : Int × Int) : AV := .tup [aI (r.1), aI (r.2)]
theorem con_expr_Size {n : Nat} {a0 : z0f} {r : Int × Int} (hF : zn3 n a0 = some r) : Con E0 true 168 [.agg [aI (a0.fOp), .sl 8 (List.map idA (a0.fArgs)), aI (a0.fVar), aI (a0.fField), aI (a0.fKind), aI (a0.fValue.fKind), aI (a0.fValue.fNum), .str (a0.fValue.fText)]] (zrr r) := by
 induction n generalizing a0 r
 case zero => cases hF
 case succ n ih =>
 unfold zn3 at hF
 refine Con.walk _ Tryz.func168 rfl (z06 Tryz.func168 rfl rfl) rfl (Or.inr rfl) ?_
 repeat' first
  | (refine AW.step ?_; conv => whnf)
  | (refine z0b.o hF (fun hF => ?_) (fun hF => ?_))
  | (refine z0b.t ?_)
  | (refine z0b.f ?_)
  | (refine IdxX.oD hF zcy (fun x hF => ?_))
  | (refine z0p.o hF zrr (fun a h => ih h) (fun a hF => ?_))
  | (exact ⟨_, hF, LeX.of [] rfl ⟨⟨rfl, rfl⟩, ⟨rfl, rfl⟩, ⟨rfl, rfl⟩, ⟨rfl, rfl⟩, ⟨rfl, rfl⟩, trivial⟩ trivial⟩)
  | (refine expr_Size_l1_o hF (LeX.of [] rfl ⟨⟨rfl, rfl⟩, ⟨rfl, rfl⟩, ⟨rfl, rfl⟩, ⟨rfl, rfl⟩, ⟨rfl, rfl⟩, trivial⟩ trivial) (fun m v hF => ?_); unfold zam at hF)
  | (refine And.intro ⟨by kernel_rfl, by kernel_rfl⟩ ?_)
  | (refine EqX.mk (by first | rfl | kernel_rfl) ?_)
  | (exact RetX.o hF (by repeat' first | exact Sub.nil _ | exact Sub.refl _ | refine Sub.agg ?_ | refine Sub.tup ?_ | refine Sub.fn ?_ | exact SubL.nil | refine SubL.cons ?_ ?_ | refine Sub.sl _ ?_ | exact SubE.nil | refine SubE.cons ?_ ?_))
def zj6 (a0 : Int) (w1_0 : Bool) : AS := ⟨[(0, aI (a0)), (4, .bool (w1_0))], []⟩
theorem zoa {n : Nat} {a0 : Int} {R : Exit → AS → Prop} {K : List z16} {i : Nat} {os : Array Oper} {d : Bool} {C : Code} {σ : AS} {x : Option (Int × Bool)} {r : Int × Bool} (hF : jon (z58 n a0) x = some r) (h1 : x = some r → AW E0 17 (z0v (fun σ' => ∃ v', z58 n a0 v' = some r ∧ LeX E0 17 σ' (zj6 a0 v')) (AW E0 17 R (.code C :: K))) [.code (.region i os d)] .normal σ) (h2 : ∀ v, z58 n a0 v = some r → AW E0 17 R (.code C :: K) .normal (zj6 a0 v)) : AW E0 17 R (.code (.region i os d) :: .code C :: K) .normal σ :=
 AW.joinO1 (S := zj6 a0) hF h1 h2
def R_expr_arity (r : Int × Bool) : AV := .tup [aI (r.1), .bool (r.2)]
theorem con_expr_arity {n : Nat} {a0 : Int} {r : Int × Bool} (hF : zpv n a0 = some r) : Con E0 true 195 [aI (a0)] (R_expr_arity r) := by
 unfold zpv at hF
 refine Con.walk _ Tryz.func195 rfl (z06 Tryz.func195 rfl rfl) rfl (Or.inr rfl) ?_
 repeat' first
  | (refine zoa hF (fun hF => ?_) (fun v hF => ?_); rotate_left; unfold z58 at hF)
  | (refine AW.regO hF (fun hF => ?_))
  | (refine AW.stepU [1] ?_; conv => whnf)
  | (refine z0b.o hF (fun hF => ?_) (fun hF => ?_))
  | (refine z0b.t ?_)
  | (refine z0b.f ?_)
  | (refine zoa hF (fun hF => ?_) (fun v hF => ?_); rotate_left; unfold z58 at hF)
  | (exact ⟨_, hF, LeX.of [] rfl ⟨⟨rfl, rfl⟩, ⟨rfl, rfl⟩, trivial⟩ trivial⟩)
  | (refine And.intro ⟨by kernel_rfl, by kernel_rfl⟩ ?_)
  | (refine EqX.mk (by first | rfl | kernel_rfl) ?_)
  | (exact RetX.o hF (by repeat' first | exact Sub.nil _ | exact Sub.refl _ | refine Sub.agg ?_ | refine Sub.tup ?_ | refine Sub.fn ?_ | exact SubL.nil | refine SubL.cons ?_ ?_ | refine Sub.sl _ ?_ | exact SubE.nil | refine SubE.cons ?_ ?_))
def zl1 (w2_1 : Bool) : AS := ⟨[(8, .bool (w2_1))], []⟩
theorem zqw {n : Nat} {R : Exit → AS → Prop} {K : List z16} {i : Nat} {os : Array Oper} {d : Bool} {B C : Code} {σ : AS} {x : Option (Bool × Bool)} {r : Bool × Bool} (hF : jon (z6a n) x = some r) (h1 : x = some r → AW E0 11 (z0v (fun σ' => ∃ v', z6a n v' = some r ∧ LeX E0 11 σ' (zl1 v')) (AW E0 11 R (.code C :: K))) [.code (.region i os d), .code B] .normal σ) (h2 : ∀ v, z6a n v = some r → AW E0 11 R (.code C :: K) .normal (zl1 v)) : AW E0 11 R (.code (.region i os d) :: .code B :: .code C :: K) .normal σ :=
 AW.joinO2 (S := zl1) hF h1 h2
def zl2 (a0 : Int) (w1_0 : Bool) : AS := ⟨[(4, aI (a0)), (5, .bool (w1_0))], []⟩
theorem zqx {n : Nat} {a0 : Int} {R : Exit → AS → Prop} {K : List z16} {i : Nat} {os : Array Oper} {d : Bool} {B C : Code} {σ : AS} {x : Option (Bool × Bool)} {r : Bool × Bool} (hF : jon (z6b n a0) x = some r) (h1 : x = some r → AW E0 11 (z0v (fun σ' => ∃ v', z6b n a0 v' = some r ∧ LeX E0 11 σ' (zl2 a0 v')) (AW E0 11 R (.code C :: K))) [.code (.region i os d), .code B] .normal σ) (h2 : ∀ v, z6b n a0 v = some r → AW E0 11 R (.code C :: K) .normal (zl2 a0 v)) : AW E0 11 R (.code (.region i os d) :: .code B :: .code C :: K) .normal σ :=
 AW.joinO2 (S := zl2 a0) hF h1 h2
def R_expr_uses (r : Bool × Bool) : AV := .tup [.bool (r.1), .bool (r.2)]
theorem con_expr_uses {n : Nat} {a0 : Int} {r : Bool × Bool} (hF : zrz n a0 = some r) : Con E0 true 196 [aI (a0)] (R_expr_uses r) := by
 unfold zrz at hF
 refine Con.walk _ Tryz.func196 rfl (z06 Tryz.func196 rfl rfl) rfl (Or.inr rfl) ?_
 repeat' first
  | (refine zqw hF (fun hF => ?_) (fun v hF => ?_); rotate_left; unfold z6a at hF)
  | (refine zqx hF (fun hF => ?_) (fun v hF => ?_); rotate_left; unfold z6b at hF)
  | (refine AW.regO hF (fun hF => ?_))
  | (refine AW.stepU [2, 5] ?_; conv => whnf)
  | (refine z0b.o hF (fun hF => ?_) (fun hF => ?_))
  | (refine z0b.t ?_)
  | (refine z0b.f ?_)
  | (refine zqw hF (fun hF => ?_) (fun v hF => ?_); rotate_left; unfold z6a at hF)
  | (exact ⟨_, hF, LeX.of [] rfl ⟨⟨rfl, rfl⟩, trivial⟩ trivial⟩)
  | (refine zqx hF (fun hF => ?_) (fun v hF => ?_); rotate_left; unfold z6b at hF)
  | (exact ⟨_, hF, LeX.of [] rfl ⟨⟨rfl, rfl⟩, ⟨rfl, rfl⟩, trivial⟩ trivial⟩)
  | (refine And.intro ⟨by kernel_rfl, by kernel_rfl⟩ ?_)
  | (refine EqX.mk (by first | rfl | kernel_rfl) ?_)
  | (exact RetX.o hF (by repeat' first | exact Sub.nil _ | exact Sub.refl _ | refine Sub.agg ?_ | refine Sub.tup ?_ | refine Sub.fn ?_ | exact SubL.nil | refine SubL.cons ?_ ?_ | refine Sub.sl _ ?_ | exact SubE.nil | refine SubE.cons ?_ ?_))
def R_value_size (r : Int) : AV := aI (r)
theorem con_value_size {n : Nat} {a0 : z01} {r : Int} (hF : ze2 n a0 = some r) : Con E0 true 223 [.agg [aI (a0.fKind), aI (a0.fNum), .str (a0.fText)]] (R_value_size r) := by
 unfold ze2 at hF
 refine Con.walk _ Tryz.func223 rfl (z06 Tryz.func223 rfl rfl) rfl (Or.inr rfl) ?_
 repeat' first
  | (refine AW.step ?_; conv => whnf)
  | (refine z0b.o hF (fun hF => ?_) (fun hF => ?_))
  | (refine z0b.t ?_)
  | (refine z0b.f ?_)
  | (refine And.intro ⟨by kernel_rfl, by kernel_rfl⟩ ?_)
  | (refine EqX.mk (by first | rfl | kernel_rfl) ?_)
  | (exact RetX.o hF (by repeat' first | exact Sub.nil _ | exact Sub.refl _ | refine Sub.agg ?_ | refine Sub.tup ?_ | refine Sub.fn ?_ | exact SubL.nil | refine SubL.cons ?_ ?_ | refine Sub.sl _ ?_ | exact SubE.nil | refine SubE.cons ?_ ?_))
def zey (r : Int) : AV := aI (r)
theorem zej {n : Nat} {a0 : z01} {r : Int} (hF : zby n a0 = some r) : Con E0 true 207 [.agg [aI (a0.fKind), aI (a0.fNum), .str (a0.fText)]] (zey r) := by
 unfold zby at hF
 refine Con.walk _ Tryz.func207 rfl (z06 Tryz.func207 rfl rfl) rfl (Or.inr rfl) ?_
 repeat' first
  | (refine AW.step ?_; conv => whnf)
  | (refine z0b.o hF (fun hF => ?_) (fun hF => ?_))
  | (refine z0b.t ?_)
  | (refine z0b.f ?_)
  | (refine z0p.o hF R_value_size (fun a h => con_value_size h) (fun a hF => ?_))
  | (refine And.intro ⟨by kernel_rfl, by kernel_rfl⟩ ?_)
  | (refine EqX.mk (by first | rfl | kernel_rfl) ?_)
  | (exact RetX.o hF (by repeat' first | exact Sub.nil _ | exact Sub.refl _ | refine Sub.agg ?_ | refine Sub.tup ?_ | refine Sub.fn ?_ | exact SubL.nil | refine SubL.cons ?_ ?_ | refine Sub.sl _ ?_ | exact SubE.nil | refine SubE.cons ?_ ?_))
def zj5 (w1_0 : Bool) : AS := ⟨[(4, .bool (w1_0))], []⟩
theorem zo9 {n : Nat} {R : Exit → AS → Prop} {K : List z16} {i : Nat} {os : Array Oper} {d : Bool} {C : Code} {σ : AS} {x : Option (Bool)} {r : Bool} (hF : jon (z4f n) x = some r) (h1 : x = some r → AW E0 16 (z0v (fun σ' => ∃ v', z4f n v' = some r ∧ LeX E0 16 σ' (zj5 v')) (AW E0 16 R (.code C :: K))) [.code (.region i os d)] .normal σ) (h2 : ∀ v, z4f n v = some r → AW E0 16 R (.code C :: K) .normal (zj5 v)) : AW E0 16 R (.code (.region i os d) :: .code C :: K) .normal σ :=
 AW.joinO1 (S := zj5) hF h1 h2
def R_expr_suits (r : Bool) : AV := .bool (r)
theorem con_expr_suits {n : Nat} {a0 : Int} {a1 : z01} {r : Bool} (hF : zpu n a0 a1 = some r) : Con E0 true 208 [aI (a0), .agg [aI (a1.fKind), aI (a1.fNum), .str (a1.fText)]] (R_expr_suits r) := by
 unfold zpu at hF
 refine Con.walk _ Tryz.func208 rfl (z06 Tryz.func208 rfl rfl) rfl (Or.inr rfl) ?_
 repeat' first
  | (refine zo9 hF (fun hF => ?_) (fun v hF => ?_); rotate_left; unfold z4f at hF)
  | (refine AW.regO hF (fun hF => ?_))
  | (refine AW.stepU [1] ?_; conv => whnf)
  | (refine z0b.o hF (fun hF => ?_) (fun hF => ?_))
  | (refine z0b.t ?_)
  | (refine z0b.f ?_)
  | (refine zo9 hF (fun hF => ?_) (fun v hF => ?_); rotate_left; unfold z4f at hF)
  | (exact ⟨_, hF, LeX.of [] rfl ⟨⟨rfl, rfl⟩, trivial⟩ trivial⟩)
  | (refine And.intro ⟨by kernel_rfl, by kernel_rfl⟩ ?_)
  | (refine EqX.mk (by first | rfl | kernel_rfl) ?_)
  | (exact RetX.o hF (by repeat' first | exact Sub.nil _ | exact Sub.refl _ | refine Sub.agg ?_ | refine Sub.tup ?_ | refine Sub.fn ?_ | exact SubL.nil | refine SubL.cons ?_ ?_ | refine Sub.sl _ ?_ | exact SubE.nil | refine SubE.cons ?_ ?_))
def zdh (w1_0 : Bool) : AS := ⟨[(31, .bool (w1_0))], []⟩
theorem zir {n : Nat} {R : Exit → AS → Prop} {K : List z16} {i : Nat} {os : Array Oper} {d : Bool} {C : Code} {σ : AS} {x : Option (Int)} {r : Int} (hF : jon (z2d n) x = some r) (h1 : x = some r → AW E0 32 (z0v (fun σ' => ∃ v', z2d n v' = some r ∧ LeX E0 32 σ' (zdh v')) (AW E0 32 R (.code C :: K))) [.code (.region i os d)] .normal σ) (h2 : ∀ v, z2d n v = some r → AW E0 32 R (.code C :: K) .normal (zdh v)) : AW E0 32 R (.code (.region i os d) :: .code C :: K) .normal σ :=
 AW.joinO1 (S := zdh) hF h1 h2
def zn9 (r : Int) : AV := aI (r)
theorem zsj {n : Nat} {a0 : z0f} {r : Int} (hF : zhn n a0 = some r) : Con E0 true 197 [.agg [aI (a0.fOp), .sl 8 (List.map idA (a0.fArgs)), aI (a0.fVar), aI (a0.fField), aI (a0.fKind), aI (a0.fValue.fKind), aI (a0.fValue.fNum), .str (a0.fValue.fText)]] (zn9 r) := by
 unfold zhn at hF
 refine Con.walk _ Tryz.func197 rfl (z06 Tryz.func197 rfl rfl) rfl (Or.inr rfl) ?_
 repeat' first
  | (refine zir hF (fun hF => ?_) (fun v hF => ?_); rotate_left; unfold z2d at hF)
  | (refine AW.regO hF (fun hF => ?_))
  | (refine AW.stepU [4] ?_; conv => whnf)
  | (refine z0b.o hF (fun hF => ?_) (fun hF => ?_))
  | (refine z0b.t ?_)
  | (refine z0b.f ?_)
  | (refine z0p.o hF zey (fun a h => zej h) (fun a hF => ?_))
  | (refine zir hF (fun hF => ?_) (fun v hF => ?_); rotate_left; unfold z2d at hF)
  | (refine z0p.o hF R_expr_suits (fun a h => con_expr_suits h) (fun a hF => ?_))
  | (exact ⟨_, hF, LeX.of [] rfl ⟨⟨rfl, rfl⟩, trivial⟩ trivial⟩)
  | (refine And.intro ⟨by kernel_rfl, by kernel_rfl⟩ ?_)
  | (refine EqX.mk (by first | rfl | kernel_rfl) ?_)
  | (exact RetX.o hF (by repeat' first | exact Sub.nil _ | exact Sub.refl _ | refine Sub.agg ?_ | refine Sub.tup ?_ | refine Sub.fn ?_ | exact SubL.nil | refine SubL.cons ?_ ?_ | refine Sub.sl _ ?_ | exact SubE.nil | refine SubE.cons ?_ ?_))
def zl3 (w5_4 : Bool) : AS := ⟨[(113, .bool (w5_4))], []⟩
theorem zqy {n : Nat} {R : Exit → AS → Prop} {K : List z16} {i : Nat} {os : Array Oper} {d : Bool} {C : Code} {σ : AS} {x : Option (Int)} {r : Int} (hF : jon (z0r n) x = some r) (h1 : x = some r → AW E0 114 (z0v (fun σ' => ∃ v', z0r n v' = some r ∧ LeX E0 114 σ' (zl3 v')) (AW E0 114 R (.code C :: K))) [.code (.region i os d)] .normal σ) (h2 : ∀ v, z0r n v = some r → AW E0 114 R (.code C :: K) .normal (zl3 v)) : AW E0 114 R (.code (.region i os d) :: .code C :: K) .normal σ :=
 AW.joinO1 (S := zl3) hF h1 h2
def zl4 (a0 : z0f) (x2 : Bool × Bool) (w3_2 : Bool) (_ : Unit) : AS := ⟨[(1, .ptr 1 0), (5, .bool (x2.1)), (6, .bool (x2.2)), (7, .bool (decide (a0.fOp = 4))), (8, .bool (w3_2))], [(1, .box 47 [aI (a0.fOp), .sl 8 (List.map idA (a0.fArgs)), aI (a0.fVar), aI (a0.fField), aI (a0.fKind), aI (a0.fValue.fKind), aI (a0.fValue.fNum), .str (a0.fValue.fText)])]⟩
theorem zqz {n : Nat} {a0 : z0f} {x2 : Bool × Bool} {w3_2 : Bool} {R : Exit → AS → Prop} {K : List z16} {i : Nat} {os : Array Oper} {d : Bool} {B C : Code} {σ : AS} {x : Option (Int)} {r : Int} (hF : jon (z6c n a0 x2 w3_2) x = some r) (h1 : x = some r → AW E0 114 (z0v (fun σ' => ∃ v', z6c n a0 x2 w3_2 v' = some r ∧ LeX E0 114 σ' (zl4 a0 x2 w3_2 v')) (AW E0 114 R (.code C :: K))) [.code (.region i os d), .code B] .normal σ) (h2 : ∀ v, z6c n a0 x2 w3_2 v = some r → AW E0 114 R (.code C :: K) .normal (zl4 a0 x2 w3_2 v)) : AW E0 114 R (.code (.region i os d) :: .code B :: .code C :: K) .normal σ :=
 AW.joinO2 (S := zl4 a0 x2 w3_2) hF h1 h2
def zl5 (a0 : z0f) (x2 : Bool × Bool) (w3_2 : Bool) : AS := ⟨[(1, .ptr 1 0), (5, .bool (x2.1)), (6, .bool (x2.2)), (7, .bool (decide (a0.fOp = 4))), (8, .bool (w3_2))], [(1, .box 47 [aI (a0.fOp), .sl 8 (List.map idA (a0.fArgs)), aI (a0.fVar), aI (a0.fField), aI (a0.fKind), aI (a0.fValue.fKind), aI (a0.fValue.fNum), .str (a0.fValue.fText)])]⟩
theorem zr0 {n : Nat} {a0 : z0f} {x2 : Bool × Bool} {R : Exit → AS → Prop} {K : List z16} {i : Nat} {os : Array Oper} {d : Bool} {C : Code} {σ : AS} {x : Option (Int)} {r : Int} (hF : jon (z6d n a0 x2) x = some r) (h1 : x = some r → AW E0 114 (z0v (fun σ' => ∃ v', z6d n a0 x2 v' = some r ∧ LeX E0 114 σ' (zl5 a0 x2 v')) (AW E0 114 R (.code C :: K))) [.code (.region i os d)] .normal σ) (h2 : ∀ v, z6d n a0 x2 v = some r → AW E0 114 R (.code C :: K) .normal (zl5 a0 x2 v)) : AW E0 114 R (.code (.region i os d) :: .code C :: K) .normal σ :=
 AW.joinO1 (S := zl5 a0 x2) hF h1 h2
def zl6 (a0 : z0f) (x2 : Bool × Bool) (w2_1 : Bool) : AS := ⟨[(1, .ptr 1 0), (5, .bool (x2.1)), (6, .bool (x2.2)), (7, .bool (decide (a0.fOp = 4))), (66, .bool (w2_1))], [(1, .box 47 [aI (a0.fOp), .sl 8 (List.map idA (a0.fArgs)), aI (a0.fVar), aI (a0.fField), aI (a0.fKind), aI (a0.fValue.fKind), aI (a0.fValue.fNum), .str (a0.fValue.fText)])]⟩
theorem zr1 {n : Nat} {a0 : z0f} {x2 : Bool × Bool} {R : Exit → AS → Prop} {K : List z16} {i : Nat} {os : Array Oper} {d : Bool} {C : Code} {σ : AS} {x : Option (Int)} {r : Int} (hF : jon (z4x n a0 x2) x = some r) (h1 : x = some r → AW E0 114 (z0v (fun σ' => ∃ v', z4x n a0 x2 v' = some r ∧ LeX E0 114 σ' (zl6 a0 x2 v')) (AW E0 114 R (.code C :: K))) [.code (.region i os d)] .normal σ) (h2 : ∀ v, z4x n a0 x2 v = some r → AW E0 114 R (.code C :: K) .normal (zl6 a0 x2 v)) : AW E0 114 R (.code (.region i os d) :: .code C :: K) .normal σ :=
 AW.joinO1 (S := zl6 a0 x2) hF h1 h2
def zl7 (a0 : z0f) (x2 : Bool × Bool) (w1_0 : Bool) : AS := ⟨[(1, .ptr 1 0), (5, .bool (x2.1)), (6, .bool (x2.2)), (52, .bool (w1_0))], [(1, .box 47 [aI (a0.fOp), .sl 8 (List.map idA (a0.fArgs)), aI (a0.fVar), aI (a0.fField), aI (a0.fKind), aI (a0.fValue.fKind), aI (a0.fValue.fNum), .str (a0.fValue.fText)])]⟩
theorem zr2 {n : Nat} {a0 : z0f} {x2 : Bool × Bool} {R : Exit → AS → Prop} {K : List z16} {i : Nat} {os : Array Oper} {d : Bool} {C : Code} {σ : AS} {x : Option (Int)} {r : Int} (hF : jon (z2v n a0 x2) x = some r) (h1 : x = some r → AW E0 114 (z0v (fun σ' => ∃ v', z2v n a0 x2 v' = some r ∧ LeX E0 114 σ' (zl7 a0 x2 v')) (AW E0 114 R (.code C :: K))) [.code (.region i os d)] .normal σ) (h2 : ∀ v, z2v n a0 x2 v = some r → AW E0 114 R (.code C :: K) .normal (zl7 a0 x2 v)) : AW E0 114 R (.code (.region i os d) :: .code C :: K) .normal σ :=
 AW.joinO1 (S := zl7 a0 x2) hF h1 h2
def R_expr_node (r : Int) : AV := aI (r)
theorem con_expr_node {n : Nat} {a0 : z0f} {r : Int} (hF : zs0 n a0 = some r) : Con E0 true 170 [.agg [aI (a0.fOp), .sl 8 (List.map idA (a0.fArgs)), aI (a0.fVar), aI (a0.fField), aI (a0.fKind), aI (a0.fValue.fKind), aI (a0.fValue.fNum), .str (a0.fValue.fText)]] (R_expr_node r) := by
 unfold zs0 at hF
 refine Con.walk _ Tryz.func170 rfl (z06 Tryz.func170 rfl rfl) rfl (Or.inr rfl) ?_
 repeat' first
  | (refine zqy hF (fun hF => ?_) (fun v hF => ?_); rotate_left; unfold z0r at hF)
  | (refine zqz hF (fun hF => ?_) (fun v hF => ?_); rotate_left; unfold z6c at hF)
  | (refine zr0 hF (fun hF => ?_) (fun v hF => ?_); rotate_left; unfold z6d at hF)
  | (refine zr1 hF (fun hF => ?_) (fun v hF => ?_); rotate_left; unfold z4x at hF)
  | (refine zr2 hF (fun hF => ?_) (fun v hF => ?_); rotate_left; unfold z2v at hF)
  | (refine AW.regO hF (fun hF => ?_))
  | (refine AW.stepU [7, 10, 12, 13, 17] ?_; conv => whnf)
  | (refine z0b.o hF (fun hF => ?_) (fun hF => ?_))
  | (refine z0b.t ?_)
  | (refine z0b.f ?_)
  | (refine z0p.o hF R_expr_arity (fun a h => con_expr_arity h) (fun a hF => ?_))
  | (refine z0p.o hF R_expr_uses (fun a h => con_expr_uses h) (fun a hF => ?_))
  | (refine zqy hF (fun hF => ?_) (fun v hF => ?_); rotate_left; unfold z0r at hF)
  | (exact ⟨_, hF, LeX.of [] rfl ⟨⟨rfl, rfl⟩, trivial⟩ trivial⟩)
  | (refine zqz hF (fun hF => ?_) (fun v hF => ?_); rotate_left; unfold z6c at hF)
  | (refine z0p.o hF zn9 (fun a h => zsj h) (fun a hF => ?_))
  | (exact ⟨(), hF, LeX.of [] rfl ⟨⟨rfl, rfl⟩, ⟨rfl, rfl⟩, ⟨rfl, rfl⟩, ⟨rfl, rfl⟩, ⟨rfl, rfl⟩, trivial⟩ ⟨⟨rfl, rfl⟩, trivial⟩⟩)
  | (refine zr0 hF (fun hF => ?_) (fun v hF => ?_); rotate_left; unfold z6d at hF)
  | (exact ⟨_, hF, LeX.of [] rfl ⟨⟨rfl, rfl⟩, ⟨rfl, rfl⟩, ⟨rfl, rfl⟩, ⟨rfl, rfl⟩, ⟨rfl, rfl⟩, trivial⟩ ⟨⟨rfl, rfl⟩, trivial⟩⟩)
  | (refine zr1 hF (fun hF => ?_) (fun v hF => ?_); rotate_left; unfold z4x at hF)
  | (refine zr2 hF (fun hF => ?_) (fun v hF => ?_); rotate_left; unfold z2v at hF)
  | (exact ⟨_, hF, LeX.of [] rfl ⟨⟨rfl, rfl⟩, ⟨rfl, rfl⟩, ⟨rfl, rfl⟩, ⟨rfl, rfl⟩, trivial⟩ ⟨⟨rfl, rfl⟩, trivial⟩⟩)
  | (refine And.intro ⟨by kernel_rfl, by kernel_rfl⟩ ?_)
  | (refine EqX.mk (by first | rfl | kernel_rfl) ?_)
  | (exact RetX.o hF (by repeat' first | exact Sub.nil _ | exact Sub.refl _ | refine Sub.agg ?_ | refine Sub.tup ?_ | refine Sub.fn ?_ | exact SubL.nil | refine SubL.cons ?_ ?_ | refine Sub.sl _ ?_ | exact SubE.nil | refine SubE.cons ?_ ?_))
def zev (rF_expr_visit : z0f → Option (Int)) (a0 : z0f) (v1_0 : Int) : AS := ⟨[(1, .fn 170 []), (16, .sl 8 (List.map idA (a0.fArgs))), (17, aI ((((List.map idA (a0.fArgs)).length : Nat) : Int))), (18, aI (v1_0))], []⟩
theorem expr_visit_l1_o {n N : Nat} {rF_expr_visit : z0f → Option (Int)} {a0 : z0f} {k1_0_0 : Option (Int)} {R : Exit → AS → Prop} {K : List z16} {c : Code} {σ : AS} {v0 : Int} {r : Int} (hF : z9t n rF_expr_visit a0 k1_0_0 N v0 = some r) (hl : LeX E0 29 σ (zev rF_expr_visit a0 v0)) (round : ∀ m v, z9t n rF_expr_visit a0 k1_0_0 (m + 1) v = some r → AW E0 29 (z0v (fun σ' => ∃ v', z9t n rF_expr_visit a0 k1_0_0 m v' = some r ∧ LeX E0 29 σ' (zev rF_expr_visit a0 v')) (AW E0 29 R K)) [.code c] .normal (zev rF_expr_visit a0 v)) : z5v E0 29 (fun next σ' => AW E0 29 (z0v next (AW E0 29 R K)) [.code c] .normal σ') σ :=
 LoopA.o (S := zev rF_expr_visit a0) hF (fun _ => rfl) hl round
def zp6 (r : Int) : AV := aI (r)
theorem con_expr_visit {n : Nat} {a0 : z0f} {r : Int} (hF : zkk n a0 = some r) : Con E0 true 169 [.agg [aI (a0.fOp), .sl 8 (List.map idA (a0.fArgs)), aI (a0.fVar), aI (a0.fField), aI (a0.fKind), aI (a0.fValue.fKind), aI (a0.fValue.fNum), .str (a0.fValue.fText)], .fn 170 []] (zp6 r) := by
 induction n generalizing a0 r
 case zero => cases hF
 case succ n ih =>
 unfold zkk at hF
 refine Con.walk _ Tryz.func169 rfl (z06 Tryz.func169 rfl rfl) rfl (Or.inr rfl) ?_
 repeat' first
  | (refine AW.step ?_; conv => whnf)
  | (refine z0b.o hF (fun hF => ?_) (fun hF => ?_))
  | (refine z0b.t ?_)
  | (refine z0b.f ?_)
  | (refine z0p.o hF R_expr_node (fun a h => con_expr_node h) (fun a hF => ?_))
  | (refine IdxX.oD hF zcy (fun x hF => ?_))
  | (refine z0p.o hF zp6 (fun a h => ih h) (fun a hF => ?_))
  | (exact ⟨_, hF, LeX.of [] rfl ⟨⟨rfl, rfl⟩, ⟨rfl, rfl⟩, ⟨rfl, rfl⟩, ⟨rfl, rfl⟩, trivial⟩ trivial⟩)
  | (refine expr_visit_l1_o hF (LeX.of [] rfl ⟨⟨rfl, rfl⟩, ⟨rfl, rfl⟩, ⟨rfl, rfl⟩, ⟨rfl, rfl⟩, trivial⟩ trivial) (fun m v hF => ?_); unfold z9t at hF)
  | (refine And.intro ⟨by kernel_rfl, by kernel_rfl⟩ ?_)
  | (refine EqX.mk (by first | rfl | kernel_rfl) ?_)
  | (exact RetX.o hF (by repeat' first | exact Sub.nil _ | exact Sub.refl _ | refine Sub.agg ?_ | refine Sub.tup ?_ | refine Sub.fn ?_ | exact SubL.nil | refine SubL.cons ?_ ?_ | refine Sub.sl _ ?_ | exact SubE.nil | refine SubE.cons ?_ ?_))
def zkc (r : Int) : AV := aI (r)
theorem zl0 {n : Nat} {a0 : z0f} {r : Int} (hF : zeg n a0 = some r) : Con E0 true 125 [.agg [aI (a0.fOp), .sl 8 (List.map idA (a0.fArgs)), aI (a0.fVar), aI (a0.fField), aI (a0.fKind), aI (a0.fValue.fKind), aI (a0.fValue.fNum), .str (a0.fValue.fText)]] (zkc r) := by
 unfold zeg at hF
 refine Con.walk _ Tryz.func125 rfl (z06 Tryz.func125 rfl rfl) rfl (Or.inr rfl) ?_
 repeat' first
  | (refine AW.step ?_; conv => whnf)
  | (refine z0b.o hF (fun hF => ?_) (fun hF => ?_))
  | (refine z0b.t ?_)
  | (refine z0b.f ?_)
  | (refine z0p.o hF zrr (fun a h => con_expr_Size h) (fun a hF => ?_))
  | (refine z0p.o hF zp6 (fun a h => con_expr_visit h) (fun a hF => ?_))
  | (refine And.intro ⟨by kernel_rfl, by kernel_rfl⟩ ?_)
  | (refine EqX.mk (by first | rfl | kernel_rfl) ?_)
  | (exact RetX.o hF (by repeat' first | exact Sub.nil _ | exact Sub.refl _ | refine Sub.agg ?_ | refine Sub.tup ?_ | refine Sub.fn ?_ | exact SubL.nil | refine SubL.cons ?_ ?_ | refine Sub.sl _ ?_ | exact SubE.nil | refine SubE.cons ?_ ?_))
def zb7 (w1_0 : Bool) : AS := ⟨[(4, .bool (w1_0))], []⟩
theorem zgz {n : Nat} {R : Exit → AS → Prop} {K : List z16} {i : Nat} {os : Array Oper} {d : Bool} {C : Code} {σ : AS} {x : Option (Bool)} {r : Bool} (hF : jon (z2r n) x = some r) (h1 : x = some r → AW E0 12 (z0v (fun σ' => ∃ v', z2r n v' = some r ∧ LeX E0 12 σ' (zb7 v')) (AW E0 12 R (.code C :: K))) [.code (.region i os d)] .normal σ) (h2 : ∀ v, z2r n v = some r → AW E0 12 R (.code C :: K) .normal (zb7 v)) : AW E0 12 R (.code (.region i os d) :: .code C :: K) .normal σ :=
 AW.joinO1 (S := zb7) hF h1 h2
def zb0 (r : Bool) : AV := .bool (r)
theorem zcj {n : Nat} {a0 : Int} {a1 : Int} {r : Bool} (hF : z3m n a0 a1 = some r) : Con E0 true 123 [aI (a0), aI (a1)] (zb0 r) := by
 unfold z3m at hF
 refine Con.walk _ Tryz.func123 rfl (z06 Tryz.func123 rfl rfl) rfl (Or.inr rfl) ?_
 repeat' first
  | (refine zgz hF (fun hF => ?_) (fun v hF => ?_); rotate_left; unfold z2r at hF)
  | (refine AW.regO hF (fun hF => ?_))
  | (refine AW.stepU [1] ?_; conv => whnf)
  | (refine z0b.o hF (fun hF => ?_) (fun hF => ?_))
  | (refine z0b.t ?_)
  | (refine z0b.f ?_)
  | (refine zgz hF (fun hF => ?_) (fun v hF => ?_); rotate_left; unfold z2r at hF)
  | (exact ⟨_, hF, LeX.of [] rfl ⟨⟨rfl, rfl⟩, trivial⟩ trivial⟩)
  | (refine And.intro ⟨by kernel_rfl, by kernel_rfl⟩ ?_)
  | (refine EqX.mk (by first | rfl | kernel_rfl) ?_)
  | (exact RetX.o hF (by repeat' first | exact Sub.nil _ | exact Sub.refl _ | refine Sub.agg ?_ | refine Sub.tup ?_ | refine Sub.fn ?_ | exact SubL.nil | refine SubL.cons ?_ ?_ | refine Sub.sl _ ?_ | exact SubE.nil | refine SubE.cons ?_ ?_))
def zi1 (r : Bool) : AV := .bool (r)
end Go.Proofs.YtjpknpjjcddnnaaGreat
namespace Go.Proofs.YtjpknpjjcddnnaaGreat
open Go.RowKit
theorem znl {n : Nat} {a0 : z0l} {a1 : z0l} {r : Bool} (hF : zct n a0 a1 = some r) : Con E0 true 124 [.agg [aI (a0.fScope), aI (a0.fType), aI (a0.fVar), aI (a0.fCond.fOp), .sl 8 (List.map idA (a0.fCond.fArgs)), aI (a0.fCond.fVar), aI (a0.fCond.fField), aI (a0.fCond.fKind), aI (a0.fCond.fValue.fKind), aI (a0.fCond.fValue.fNum), .str (a0.fCond.fValue.fText)], .ref [aI (a1.fScope), aI (a1.fType), aI (a1.fVar), aI (a1.fCond.fOp), .sl 8 (List.map idA (a1.fCond.fArgs)), aI (a1.fCond.fVar), aI (a1.fCond.fField), aI (a1.fCond.fKind), aI (a1.fCond.fValue.fKind), aI (a1.fCond.fValue.fNum), .str (a1.fCond.fValue.fText)]] (zi1 r) := by
 unfold zct at hF
 refine Con.walk _ Tryz.func124 rfl (z06 Tryz.func124 rfl rfl) rfl (Or.inr rfl) ?_
 repeat' first
  | (refine AW.step ?_; conv => whnf)
  | (refine z0b.o hF (fun hF => ?_) (fun hF => ?_))
  | (refine z0b.t ?_)
  | (refine z0b.f ?_)
  | (refine And.intro ⟨by kernel_rfl, by kernel_rfl⟩ ?_)
  | (refine EqX.mk (by first | rfl | kernel_rfl) ?_)
  | (exact RetX.o hF (by repeat' first | exact Sub.nil _ | exact Sub.refl _ | refine Sub.agg ?_ | refine Sub.tup ?_ | refine Sub.fn ?_ | exact SubL.nil | refine SubL.cons ?_ ?_ | refine Sub.sl _ ?_ | exact SubE.nil | refine SubE.cons ?_ ?_))
def z8p (a1c0 : z0l) (a0 : (List z0l)) (v1_0 : Int) : AS := ⟨[(0, .sl 11 (List.map z0t (a0))), (1, .fn 124 [.ref [aI (a1c0.fScope), aI (a1c0.fType), aI (a1c0.fVar), aI (a1c0.fCond.fOp), .sl 8 (List.map idA (a1c0.fCond.fArgs)), aI (a1c0.fCond.fVar), aI (a1c0.fCond.fField), aI (a1c0.fCond.fKind), aI (a1c0.fCond.fValue.fKind), aI (a1c0.fCond.fValue.fNum), .str (a1c0.fCond.fValue.fText)]]), (7, aI ((((List.map z0t (a0)).length : Nat) : Int))), (8, aI (v1_0))], []⟩
theorem zo0 {n N : Nat} {a1c0 : z0l} {a0 : (List z0l)} {k1_0_0 : Option (Int)} {R : Exit → AS → Prop} {K : List z16} {c : Code} {σ : AS} {v0 : Int} {r : Int} (hF : z4k n a1c0 a0 k1_0_0 N v0 = some r) (hl : LeX E0 19 σ (z8p a1c0 a0 v0)) (round : ∀ m v, z4k n a1c0 a0 k1_0_0 (m + 1) v = some r → AW E0 19 (z0v (fun σ' => ∃ v', z4k n a1c0 a0 k1_0_0 m v' = some r ∧ LeX E0 19 σ' (z8p a1c0 a0 v')) (AW E0 19 R K)) [.code c] .normal (z8p a1c0 a0 v)) : z5v E0 19 (fun next σ' => AW E0 19 (z0v next (AW E0 19 R K)) [.code c] .normal σ') σ :=
 LoopA.o (S := z8p a1c0 a0) hF (fun _ => rfl) hl round
def zkb (r : Int) : AV := aI (r)
theorem zq7 {n : Nat} {a0 : (List z0l)} {a1c0 : z0l} {r : Int} (hF : zfc n a0 a1c0 = some r) : Con E0 true 54 [.sl 11 (List.map z0t (a0)), .fn 124 [.ref [aI (a1c0.fScope), aI (a1c0.fType), aI (a1c0.fVar), aI (a1c0.fCond.fOp), .sl 8 (List.map idA (a1c0.fCond.fArgs)), aI (a1c0.fCond.fVar), aI (a1c0.fCond.fField), aI (a1c0.fCond.fKind), aI (a1c0.fCond.fValue.fKind), aI (a1c0.fCond.fValue.fNum), .str (a1c0.fCond.fValue.fText)]]] (zkb r) := by
 unfold zfc at hF
 refine Con.walk _ Tryz.func54 rfl (z06 Tryz.func54 rfl rfl) rfl (Or.inr rfl) ?_
 repeat' first
  | (refine AW.step ?_; conv => whnf)
  | (refine z0b.o hF (fun hF => ?_) (fun hF => ?_))
  | (refine z0b.t ?_)
  | (refine z0b.f ?_)
  | (refine IdxX.o z0t hF (fun x hF => ?_))
  | (refine z0p.o hF zi1 (fun a h => znl h) (fun a hF => ?_))
  | (exact ⟨_, hF, LeX.of [] rfl ⟨⟨rfl, rfl⟩, ⟨rfl, rfl⟩, ⟨rfl, rfl⟩, ⟨rfl, rfl⟩, trivial⟩ trivial⟩)
  | (refine zo0 hF (LeX.of [] rfl ⟨⟨rfl, rfl⟩, ⟨rfl, rfl⟩, ⟨rfl, rfl⟩, ⟨rfl, rfl⟩, trivial⟩ trivial) (fun m v hF => ?_); unfold z4k at hF)
  | (refine And.intro ⟨by kernel_rfl, by kernel_rfl⟩ ?_)
  | (refine EqX.mk (by first | rfl | kernel_rfl) ?_)
  | (exact RetX.o hF (by repeat' first | exact Sub.nil _ | exact Sub.refl _ | refine Sub.agg ?_ | refine Sub.tup ?_ | refine Sub.fn ?_ | exact SubL.nil | refine SubL.cons ?_ ?_ | refine Sub.sl _ ?_ | exact SubE.nil | refine SubE.cons ?_ ?_))
def zh7 (r : Bool) : AV := .bool (r)
theorem zmo {n : Nat} {a0 : (List z0l)} {a1c0 : z0l} {r : Bool} (hF : zbj n a0 a1c0 = some r) : Con E0 true 20 [.sl 11 (List.map z0t (a0)), .fn 124 [.ref [aI (a1c0.fScope), aI (a1c0.fType), aI (a1c0.fVar), aI (a1c0.fCond.fOp), .sl 8 (List.map idA (a1c0.fCond.fArgs)), aI (a1c0.fCond.fVar), aI (a1c0.fCond.fField), aI (a1c0.fCond.fKind), aI (a1c0.fCond.fValue.fKind), aI (a1c0.fCond.fValue.fNum), .str (a1c0.fCond.fValue.fText)]]] (zh7 r) := by
 unfold zbj at hF
 refine Con.walk _ Tryz.func20 rfl (z06 Tryz.func20 rfl rfl) rfl (Or.inr rfl) ?_
 repeat' first
  | (refine AW.step ?_; conv => whnf)
  | (refine z0b.o hF (fun hF => ?_) (fun hF => ?_))
  | (refine z0b.t ?_)
  | (refine z0b.f ?_)
  | (refine z0p.o hF zkb (fun a h => zq7 h) (fun a hF => ?_))
  | (refine And.intro ⟨by kernel_rfl, by kernel_rfl⟩ ?_)
  | (refine EqX.mk (by first | rfl | kernel_rfl) ?_)
  | (exact RetX.o hF (by repeat' first | exact Sub.nil _ | exact Sub.refl _ | refine Sub.agg ?_ | refine Sub.tup ?_ | refine Sub.fn ?_ | exact SubL.nil | refine SubL.cons ?_ ?_ | refine Sub.sl _ ?_ | exact SubE.nil | refine SubE.cons ?_ ?_))
def zb8 (a1 : (List z0l)) (a0 : z05) (v1_0 : Int) (cv1_0 : Int → Option (Int)) (x41 : z0l) (w3_1 : Bool) : AS := ⟨[(1, .sl 11 (List.map z0t (a1))), (2, .ptr 2 0), (5, aI (v1_0)), (6, .ptr 6 0), (11, .sl 11 (List.map z0t (a1))), (12, aI ((((List.map z0t (a1)).length : Nat) : Int))), (13, aI (v1_0)), (18, .bool (w3_1))], [(2, .box 25 [aI (a0.fVars), aI (a0.fScopes), .sl 1 (List.map z0m (a0.fStates)), .sl 17 (List.map z0n (a0.fEdges))]), (6, .box 59 [aI (x41.fScope), aI (x41.fType), aI (x41.fVar), aI (x41.fCond.fOp), .sl 8 (List.map idA (x41.fCond.fArgs)), aI (x41.fCond.fVar), aI (x41.fCond.fField), aI (x41.fCond.fKind), aI (x41.fCond.fValue.fKind), aI (x41.fCond.fValue.fNum), .str (x41.fCond.fValue.fText)])]⟩
theorem zh0 {n : Nat} {a1 : (List z0l)} {a0 : z05} {v1_0 : Int} {cv1_0 : Int → Option (Int)} {x41 : z0l} {R : Exit → AS → Prop} {K : List z16} {i : Nat} {os : Array Oper} {d : Bool} {C : Code} {σ : AS} {x : Option (Int)} {r : Int} (hF : jon (z28 n a1 a0 v1_0 cv1_0 x41) x = some r) (h1 : x = some r → AW E0 52 (z0v (fun σ' => ∃ v', z28 n a1 a0 v1_0 cv1_0 x41 v' = some r ∧ LeX E0 52 σ' (zb8 a1 a0 v1_0 cv1_0 x41 v')) (AW E0 52 R (.code C :: K))) [.code (.region i os d)] .normal σ) (h2 : ∀ v, z28 n a1 a0 v1_0 cv1_0 x41 v = some r → AW E0 52 R (.code C :: K) .normal (zb8 a1 a0 v1_0 cv1_0 x41 v)) : AW E0 52 R (.code (.region i os d) :: .code C :: K) .normal σ :=
 AW.joinO1 (S := zb8 a1 a0 v1_0 cv1_0 x41) hF h1 h2
def z8s (a1 : (List z0l)) (a0 : z05) (v1_0 : Int) : AS := ⟨[(1, .sl 11 (List.map z0t (a1))), (2, .ptr 2 0), (11, .sl 11 (List.map z0t (a1))), (12, aI ((((List.map z0t (a1)).length : Nat) : Int))), (13, aI (v1_0))], [(2, .box 25 [aI (a0.fVars), aI (a0.fScopes), .sl 1 (List.map z0m (a0.fStates)), .sl 17 (List.map z0n (a0.fEdges))])]⟩
theorem zov {n N : Nat} {a1 : (List z0l)} {a0 : z05} {k1_0_0 : Option (Int)} {R : Exit → AS → Prop} {K : List z16} {c : Code} {σ : AS} {v0 : Int} {r : Int} (hF : z2s n a1 a0 k1_0_0 N v0 = some r) (hl : LeX E0 52 σ (z8s a1 a0 v0)) (round : ∀ m v, z2s n a1 a0 k1_0_0 (m + 1) v = some r → AW E0 52 (z0v (fun σ' => ∃ v', z2s n a1 a0 k1_0_0 m v' = some r ∧ LeX E0 52 σ' (z8s a1 a0 v')) (AW E0 52 R K)) [.code c] .normal (z8s a1 a0 v)) : z5v E0 52 (fun next σ' => AW E0 52 (z0v next (AW E0 52 R K)) [.code c] .normal σ') σ :=
 LoopA.o (S := z8s a1 a0) hF (fun _ => rfl) hl round
def zke (r : Int) : AV := aI (r)
theorem zq9 {n : Nat} {a0 : z05} {a1 : (List z0l)} {r : Int} (hF : zfh n a0 a1 = some r) : Con E0 true 100 [.agg [aI (a0.fVars), aI (a0.fScopes), .sl 1 (List.map z0m (a0.fStates)), .sl 17 (List.map z0n (a0.fEdges))], .sl 11 (List.map z0t (a1))] (zke r) := by
 unfold zfh at hF
 refine Con.walk _ Tryz.func100 rfl (z06 Tryz.func100 rfl rfl) rfl (Or.inr rfl) ?_
 repeat' first
  | (refine zh0 hF (fun hF => ?_) (fun v hF => ?_); rotate_left; unfold z28 at hF)
  | (refine AW.regO hF (fun hF => ?_))
  | (refine AW.stepU [6] ?_; conv => whnf)
  | (refine z0b.o hF (fun hF => ?_) (fun hF => ?_))
  | (refine z0b.t ?_)
  | (refine z0b.f ?_)
  | (refine IdxX.o z0t hF (fun x hF => ?_))
  | (refine SlsX.o z0t hF (fun l hF => ?_))
  | (refine z9v.o hF zh7 (fun a h => zmo h) (fun _ => Or.inr rfl) (fun a hF => ?_))
  | (refine z0p.o hF zkc (fun a h => zl0 h) (fun a hF => ?_))
  | (exact ⟨_, hF, LeX.of [] rfl ⟨⟨rfl, rfl⟩, ⟨rfl, rfl⟩, ⟨rfl, rfl⟩, ⟨rfl, rfl⟩, ⟨rfl, rfl⟩, trivial⟩ ⟨⟨rfl, rfl⟩, trivial⟩⟩)
  | (refine zh0 hF (fun hF => ?_) (fun v hF => ?_); rotate_left; unfold z28 at hF)
  | (refine z0p.o hF zb0 (fun a h => zcj h) (fun a hF => ?_))
  | (exact ⟨_, hF, LeX.of [] rfl ⟨⟨rfl, rfl⟩, ⟨rfl, rfl⟩, ⟨rfl, rfl⟩, ⟨rfl, rfl⟩, ⟨rfl, rfl⟩, ⟨rfl, rfl⟩, ⟨rfl, rfl⟩, ⟨rfl, rfl⟩, trivial⟩ ⟨⟨rfl, rfl⟩, ⟨rfl, rfl⟩, trivial⟩⟩)
  | (refine zov hF (LeX.of [] rfl ⟨⟨rfl, rfl⟩, ⟨rfl, rfl⟩, ⟨rfl, rfl⟩, ⟨rfl, rfl⟩, ⟨rfl, rfl⟩, trivial⟩ ⟨⟨rfl, rfl⟩, trivial⟩) (fun m v hF => ?_); unfold z2s at hF)
  | (refine And.intro ⟨by kernel_rfl, by kernel_rfl⟩ ?_)
  | (refine EqX.mk (by first | rfl | kernel_rfl) ?_)
  | (exact RetX.o hF (by repeat' first | exact Sub.nil _ | exact Sub.refl _ | refine Sub.agg ?_ | refine Sub.tup ?_ | refine Sub.fn ?_ | exact SubL.nil | refine SubL.cons ?_ ?_ | refine Sub.sl _ ?_ | exact SubE.nil | refine SubE.cons ?_ ?_))
def z87 (a0 : (List z0x)) (v1_0 : Int × (List Int)) : AS := ⟨[(3, .row 7016), (6, .sl 2 (List.map z0s (a0))), (7, aI ((((List.map z0s (a0)).length : Nat) : Int))), (8, aI (v1_0.1))], [(7016, .row 3 1 (List.map aI (v1_0.2)))]⟩
theorem znm {n N : Nat} {a0 : (List z0x)} {k1_0_0 : (List Int) → Option ((List Int))} {R : Exit → AS → Prop} {K : List z16} {c : Code} {σ : AS} {v0 : Int × (List Int)} {r : (List Int)} (hF : z4a n a0 k1_0_0 N v0 = some r) (hl : LeX E0 19 σ (z87 a0 v0)) (round : ∀ m v, z4a n a0 k1_0_0 (m + 1) v = some r → AW E0 19 (z0v (fun σ' => ∃ v', z4a n a0 k1_0_0 m v' = some r ∧ LeX E0 19 σ' (z87 a0 v')) (AW E0 19 R K)) [.code c] .normal (z87 a0 v)) : z5v E0 19 (fun next σ' => AW E0 19 (z0v next (AW E0 19 R K)) [.code c] .normal σ') σ :=
 LoopA.o (S := z87 a0) hF (fun _ => rfl) hl round
def zjk (r : (List Int)) : AV := .sl 1 (List.map aI (r))
theorem zoo {n : Nat} {a0 : (List z0x)} {r : (List Int)} (hF : zdu n a0 = some r) : Con E0 false 127 [.sl 2 (List.map z0s (a0))] (zjk r) := by
 unfold zdu at hF
 refine Con.walk _ Tryz.func127 rfl (z06 Tryz.func127 rfl rfl) rfl (Or.inl rfl) ?_
 repeat' first
  | (refine AW.step ?_; conv => whnf)
  | (refine z0b.o hF (fun hF => ?_) (fun hF => ?_))
  | (refine z0b.t ?_)
  | (refine z0b.f ?_)
  | (refine IdxX.o z0s hF (fun x hF => ?_))
  | (refine AppX.o aI hF (by first | exact SubR.refl _ | (repeat' first | exact SubR.nil | refine SubR.cons ?_ ?_ | exact SubL.nil | refine SubL.cons ?_ ?_ | exact Sub.refl _ | exact Sub.nil _)) (fun l hF => ?_))
  | (exact ⟨_, hF, LeX.of [(7016, 16)] rfl ⟨⟨rfl, rfl⟩, ⟨rfl, rfl⟩, ⟨rfl, rfl⟩, ⟨rfl, rfl⟩, trivial⟩ ⟨⟨rfl, rfl⟩, trivial⟩⟩)
  | (refine znm hF (LeX.trans (LeX.adopt 3 7016 3 1 rfl rfl) (LeX.of [] rfl ⟨⟨rfl, rfl⟩, ⟨rfl, rfl⟩, ⟨rfl, rfl⟩, ⟨rfl, rfl⟩, trivial⟩ ⟨⟨rfl, rfl⟩, trivial⟩)) (fun m v hF => ?_); unfold z4a at hF)
  | (refine And.intro ⟨by kernel_rfl, by kernel_rfl⟩ ?_)
  | (refine EqX.mk (by first | rfl | kernel_rfl) ?_)
  | (exact RetX.o hF (by repeat' first | exact Sub.nil _ | exact Sub.refl _ | refine Sub.agg ?_ | refine Sub.tup ?_ | refine Sub.fn ?_ | exact SubL.nil | refine SubL.cons ?_ ?_ | refine Sub.sl _ ?_ | exact SubE.nil | refine SubE.cons ?_ ?_))
def zbw (a1 : Int) (a0 : (List Int)) (v1_0 : Int) : AS := ⟨[(0, .sl 1 (List.map aI (a0))), (1, aI (a1)), (7, aI ((((List.map aI (a0)).length : Nat) : Int))), (8, aI (v1_0))], []⟩
theorem slices_Index_l1_o {n N : Nat} {a1 : Int} {a0 : (List Int)} {k1_0_0 : Option (Int)} {R : Exit → AS → Prop} {K : List z16} {c : Code} {σ : AS} {v0 : Int} {r : Int} (hF : z7t n a1 a0 k1_0_0 N v0 = some r) (hl : LeX E0 19 σ (zbw a1 a0 v0)) (round : ∀ m v, z7t n a1 a0 k1_0_0 (m + 1) v = some r → AW E0 19 (z0v (fun σ' => ∃ v', z7t n a1 a0 k1_0_0 m v' = some r ∧ LeX E0 19 σ' (zbw a1 a0 v')) (AW E0 19 R K)) [.code c] .normal (zbw a1 a0 v)) : z5v E0 19 (fun next σ' => AW E0 19 (z0v next (AW E0 19 R K)) [.code c] .normal σ') σ :=
 LoopA.o (S := zbw a1 a0) hF (fun _ => rfl) hl round
def zr5 (r : Int) : AV := aI (r)
theorem con_slices_Index {n : Nat} {a0 : (List Int)} {a1 : Int} {r : Int} (hF : zlb n a0 a1 = some r) : Con E0 true 174 [.sl 1 (List.map aI (a0)), aI (a1)] (zr5 r) := by
 unfold zlb at hF
 refine Con.walk _ Tryz.func174 rfl (z06 Tryz.func174 rfl rfl) rfl (Or.inr rfl) ?_
 repeat' first
  | (refine AW.step ?_; conv => whnf)
  | (refine z0b.o hF (fun hF => ?_) (fun hF => ?_))
  | (refine z0b.t ?_)
  | (refine z0b.f ?_)
  | (refine IdxX.o aI hF (fun x hF => ?_))
  | (exact ⟨_, hF, LeX.of [] rfl ⟨⟨rfl, rfl⟩, ⟨rfl, rfl⟩, ⟨rfl, rfl⟩, ⟨rfl, rfl⟩, trivial⟩ trivial⟩)
  | (refine slices_Index_l1_o hF (LeX.of [] rfl ⟨⟨rfl, rfl⟩, ⟨rfl, rfl⟩, ⟨rfl, rfl⟩, ⟨rfl, rfl⟩, trivial⟩ trivial) (fun m v hF => ?_); unfold z7t at hF)
  | (refine And.intro ⟨by kernel_rfl, by kernel_rfl⟩ ?_)
  | (refine EqX.mk (by first | rfl | kernel_rfl) ?_)
  | (exact RetX.o hF (by repeat' first | exact Sub.nil _ | exact Sub.refl _ | refine Sub.agg ?_ | refine Sub.tup ?_ | refine Sub.fn ?_ | exact SubL.nil | refine SubL.cons ?_ ?_ | refine Sub.sl _ ?_ | exact SubE.nil | refine SubE.cons ?_ ?_))
def z9m (r : Bool) : AV := .bool (r)
theorem za1 {n : Nat} {a0 : (List Int)} {a1 : Int} {r : Bool} (hF : z7u n a0 a1 = some r) : Con E0 true 133 [.sl 1 (List.map aI (a0)), aI (a1)] (z9m r) := by
 unfold z7u at hF
 refine Con.walk _ Tryz.func133 rfl (z06 Tryz.func133 rfl rfl) rfl (Or.inr rfl) ?_
 repeat' first
  | (refine AW.step ?_; conv => whnf)
  | (refine z0b.o hF (fun hF => ?_) (fun hF => ?_))
  | (refine z0b.t ?_)
  | (refine z0b.f ?_)
  | (refine z0p.o hF zr5 (fun a h => con_slices_Index h) (fun a hF => ?_))
  | (refine And.intro ⟨by kernel_rfl, by kernel_rfl⟩ ?_)
  | (refine EqX.mk (by first | rfl | kernel_rfl) ?_)
  | (exact RetX.o hF (by repeat' first | exact Sub.nil _ | exact Sub.refl _ | refine Sub.agg ?_ | refine Sub.tup ?_ | refine Sub.fn ?_ | exact SubL.nil | refine SubL.cons ?_ ?_ | refine Sub.sl _ ?_ | exact SubE.nil | refine SubE.cons ?_ ?_))
def z8q (a1 : (List (List Int))) (a0 : z05) (v1_0 : Int) (x41 : (List Int)) (v2_1 : Int) : AS := ⟨[(2, .ptr 2 0), (6, .sl 1 (List.map aI (x41))), (9, .sl 1 (List.map (fun q => AV.sl 1 (List.map aI q)) (a1))), (10, aI ((((List.map (fun q => AV.sl 1 (List.map aI q)) (a1)).length : Nat) : Int))), (11, aI (v1_0)), (15, .sl 1 (List.map aI (x41))), (16, aI ((((List.map aI (x41)).length : Nat) : Int))), (17, aI (v2_1))], [(2, .box 25 [aI (a0.fVars), aI (a0.fScopes), .sl 1 (List.map z0m (a0.fStates)), .sl 17 (List.map z0n (a0.fEdges))])]⟩
theorem zot {n N : Nat} {a1 : (List (List Int))} {a0 : z05} {v1_0 : Int} {x41 : (List Int)} {k2_1_0 : Option (Int)} {R : Exit → AS → Prop} {K : List z16} {c : Code} {σ : AS} {v0 : Int} {r : Int} (hF : z4m n a1 a0 v1_0 x41 k2_1_0 N v0 = some r) (hl : LeX E0 36 σ (z8q a1 a0 v1_0 x41 v0)) (round : ∀ m v, z4m n a1 a0 v1_0 x41 k2_1_0 (m + 1) v = some r → AW E0 36 (z0v (fun σ' => ∃ v', z4m n a1 a0 v1_0 x41 k2_1_0 m v' = some r ∧ LeX E0 36 σ' (z8q a1 a0 v1_0 x41 v')) (AW E0 36 R K)) [.code c] .normal (z8q a1 a0 v1_0 x41 v)) : z5v E0 36 (fun next σ' => AW E0 36 (z0v next (AW E0 36 R K)) [.code c] .normal σ') σ :=
 LoopA.o (S := z8q a1 a0 v1_0 x41) hF (fun _ => rfl) hl round
def z8r (a1 : (List (List Int))) (a0 : z05) (v1_0 : Int) : AS := ⟨[(2, .ptr 2 0), (9, .sl 1 (List.map (fun q => AV.sl 1 (List.map aI q)) (a1))), (10, aI ((((List.map (fun q => AV.sl 1 (List.map aI q)) (a1)).length : Nat) : Int))), (11, aI (v1_0))], [(2, .box 25 [aI (a0.fVars), aI (a0.fScopes), .sl 1 (List.map z0m (a0.fStates)), .sl 17 (List.map z0n (a0.fEdges))])]⟩
theorem zou {n N : Nat} {a1 : (List (List Int))} {a0 : z05} {k1_0_0 : Option (Int)} {R : Exit → AS → Prop} {K : List z16} {c : Code} {σ : AS} {v0 : Int} {r : Int} (hF : z4n n a1 a0 k1_0_0 N v0 = some r) (hl : LeX E0 36 σ (z8r a1 a0 v0)) (round : ∀ m v, z4n n a1 a0 k1_0_0 (m + 1) v = some r → AW E0 36 (z0v (fun σ' => ∃ v', z4n n a1 a0 k1_0_0 m v' = some r ∧ LeX E0 36 σ' (z8r a1 a0 v')) (AW E0 36 R K)) [.code c] .normal (z8r a1 a0 v)) : z5v E0 36 (fun next σ' => AW E0 36 (z0v next (AW E0 36 R K)) [.code c] .normal σ') σ :=
 LoopA.o (S := z8r a1 a0) hF (fun _ => rfl) hl round
def zkd (r : Int) : AV := aI (r)
theorem zq8 {n : Nat} {a0 : z05} {a1 : (List (List Int))} {r : Int} (hF : zfg n a0 a1 = some r) : Con E0 true 126 [.agg [aI (a0.fVars), aI (a0.fScopes), .sl 1 (List.map z0m (a0.fStates)), .sl 17 (List.map z0n (a0.fEdges))], .sl 1 (List.map (fun q => AV.sl 1 (List.map aI q)) (a1))] (zkd r) := by
 unfold zfg at hF
 refine Con.walk _ Tryz.func126 rfl (z06 Tryz.func126 rfl rfl) rfl (Or.inr rfl) ?_
 repeat' first
  | (refine AW.step ?_; conv => whnf)
  | (refine z0b.o hF (fun hF => ?_) (fun hF => ?_))
  | (refine z0b.t ?_)
  | (refine z0b.f ?_)
  | (refine IdxX.o (fun q => AV.sl 1 (List.map aI q)) hF (fun x hF => ?_))
  | (exact ⟨_, hF, LeX.of [] rfl ⟨⟨rfl, rfl⟩, ⟨rfl, rfl⟩, ⟨rfl, rfl⟩, ⟨rfl, rfl⟩, trivial⟩ ⟨⟨rfl, rfl⟩, trivial⟩⟩)
  | (refine IdxX.o aI hF (fun x hF => ?_))
  | (refine z0p.o hF zb0 (fun a h => zcj h) (fun a hF => ?_))
  | (refine SlsX.o aI hF (fun l hF => ?_))
  | (refine z0p.o hF z9m (fun a h => za1 h) (fun a hF => ?_))
  | (exact ⟨_, hF, LeX.of [] rfl ⟨⟨rfl, rfl⟩, ⟨rfl, rfl⟩, ⟨rfl, rfl⟩, ⟨rfl, rfl⟩, ⟨rfl, rfl⟩, ⟨rfl, rfl⟩, ⟨rfl, rfl⟩, ⟨rfl, rfl⟩, trivial⟩ ⟨⟨rfl, rfl⟩, trivial⟩⟩)
  | (refine zot hF (LeX.of [] rfl ⟨⟨rfl, rfl⟩, ⟨rfl, rfl⟩, ⟨rfl, rfl⟩, ⟨rfl, rfl⟩, ⟨rfl, rfl⟩, ⟨rfl, rfl⟩, ⟨rfl, rfl⟩, ⟨rfl, rfl⟩, trivial⟩ ⟨⟨rfl, rfl⟩, trivial⟩) (fun m v hF => ?_); unfold z4m at hF)
  | (refine zou hF (LeX.of [] rfl ⟨⟨rfl, rfl⟩, ⟨rfl, rfl⟩, ⟨rfl, rfl⟩, ⟨rfl, rfl⟩, trivial⟩ ⟨⟨rfl, rfl⟩, trivial⟩) (fun m v hF => ?_); unfold z4n at hF)
  | (refine And.intro ⟨by kernel_rfl, by kernel_rfl⟩ ?_)
  | (refine EqX.mk (by first | rfl | kernel_rfl) ?_)
  | (exact RetX.o hF (by repeat' first | exact Sub.nil _ | exact Sub.refl _ | refine Sub.agg ?_ | refine Sub.tup ?_ | refine Sub.fn ?_ | exact SubL.nil | refine SubL.cons ?_ ?_ | refine Sub.sl _ ?_ | exact SubE.nil | refine SubE.cons ?_ ?_))
def zb9 (w1_0 : Bool) : AS := ⟨[(2, .bool (w1_0))], []⟩
theorem zh1 {n : Nat} {R : Exit → AS → Prop} {K : List z16} {i : Nat} {os : Array Oper} {d : Bool} {C : Code} {σ : AS} {x : Option (Bool)} {r : Bool} (hF : jon (z2t n) x = some r) (h1 : x = some r → AW E0 11 (z0v (fun σ' => ∃ v', z2t n v' = some r ∧ LeX E0 11 σ' (zb9 v')) (AW E0 11 R (.code C :: K))) [.code (.region i os d)] .normal σ) (h2 : ∀ v, z2t n v = some r → AW E0 11 R (.code C :: K) .normal (zb9 v)) : AW E0 11 R (.code (.region i os d) :: .code C :: K) .normal σ :=
 AW.joinO1 (S := zb9) hF h1 h2
def zkf (r : Bool) : AV := .bool (r)
theorem zqa {n : Nat} {a0 : z0x} {r : Bool} (hF : zfi n a0 = some r) : Con E0 true 129 [.agg [aI (a0.fScope), aI (a0.fSpan)]] (zkf r) := by
 unfold zfi at hF
 refine Con.walk _ Tryz.func129 rfl (z06 Tryz.func129 rfl rfl) rfl (Or.inr rfl) ?_
 repeat' first
  | (refine zh1 hF (fun hF => ?_) (fun v hF => ?_); rotate_left; unfold z2t at hF)
  | (refine AW.regO hF (fun hF => ?_))
  | (refine AW.stepU [1] ?_; conv => whnf)
  | (refine z0b.o hF (fun hF => ?_) (fun hF => ?_))
  | (refine z0b.t ?_)
  | (refine z0b.f ?_)
  | (refine zh1 hF (fun hF => ?_) (fun v hF => ?_); rotate_left; unfold z2t at hF)
  | (exact ⟨_, hF, LeX.of [] rfl ⟨⟨rfl, rfl⟩, trivial⟩ trivial⟩)
  | (refine And.intro ⟨by kernel_rfl, by kernel_rfl⟩ ?_)
  | (refine EqX.mk (by first | rfl | kernel_rfl) ?_)
  | (exact RetX.o hF (by repeat' first | exact Sub.nil _ | exact Sub.refl _ | refine Sub.agg ?_ | refine Sub.tup ?_ | refine Sub.fn ?_ | exact SubL.nil | refine SubL.cons ?_ ?_ | refine Sub.sl _ ?_ | exact SubE.nil | refine SubE.cons ?_ ?_))
def z60 (a0 : (List z0x)) (v1_0 : Int) : AS := ⟨[(0, .sl 2 (List.map z0s (a0))), (1, .fn 129 []), (7, aI ((((List.map z0s (a0)).length : Nat) : Int))), (8, aI (v1_0))], []⟩
theorem zkn {n N : Nat} {a0 : (List z0x)} {k1_0_0 : Option (Int)} {R : Exit → AS → Prop} {K : List z16} {c : Code} {σ : AS} {v0 : Int} {r : Int} (hF : z3f n a0 k1_0_0 N v0 = some r) (hl : LeX E0 19 σ (z60 a0 v0)) (round : ∀ m v, z3f n a0 k1_0_0 (m + 1) v = some r → AW E0 19 (z0v (fun σ' => ∃ v', z3f n a0 k1_0_0 m v' = some r ∧ LeX E0 19 σ' (z60 a0 v')) (AW E0 19 R K)) [.code c] .normal (z60 a0 v)) : z5v E0 19 (fun next σ' => AW E0 19 (z0v next (AW E0 19 R K)) [.code c] .normal σ') σ :=
 LoopA.o (S := z60 a0) hF (fun _ => rfl) hl round
def zfx (r : Int) : AV := aI (r)
theorem zlp {n : Nat} {a0 : (List z0x)} {r : Int} (hF : zaw n a0 = some r) : Con E0 true 171 [.sl 2 (List.map z0s (a0)), .fn 129 []] (zfx r) := by
 unfold zaw at hF
 refine Con.walk _ Tryz.func171 rfl (z06 Tryz.func171 rfl rfl) rfl (Or.inr rfl) ?_
 repeat' first
  | (refine AW.step ?_; conv => whnf)
  | (refine z0b.o hF (fun hF => ?_) (fun hF => ?_))
  | (refine z0b.t ?_)
  | (refine z0b.f ?_)
  | (refine IdxX.o z0s hF (fun x hF => ?_))
  | (refine z0p.o hF zkf (fun a h => zqa h) (fun a hF => ?_))
  | (exact ⟨_, hF, LeX.of [] rfl ⟨⟨rfl, rfl⟩, ⟨rfl, rfl⟩, ⟨rfl, rfl⟩, ⟨rfl, rfl⟩, trivial⟩ trivial⟩)
  | (refine zkn hF (LeX.of [] rfl ⟨⟨rfl, rfl⟩, ⟨rfl, rfl⟩, ⟨rfl, rfl⟩, ⟨rfl, rfl⟩, trivial⟩ trivial) (fun m v hF => ?_); unfold z3f at hF)
  | (refine And.intro ⟨by kernel_rfl, by kernel_rfl⟩ ?_)
  | (refine EqX.mk (by first | rfl | kernel_rfl) ?_)
  | (exact RetX.o hF (by repeat' first | exact Sub.nil _ | exact Sub.refl _ | refine Sub.agg ?_ | refine Sub.tup ?_ | refine Sub.fn ?_ | exact SubL.nil | refine SubL.cons ?_ ?_ | refine Sub.sl _ ?_ | exact SubE.nil | refine SubE.cons ?_ ?_))
def zd2 (r : Bool) : AV := .bool (r)
theorem zis {n : Nat} {a0 : (List z0x)} {r : Bool} (hF : z99 n a0 = some r) : Con E0 true 128 [.sl 2 (List.map z0s (a0)), .fn 129 []] (zd2 r) := by
 unfold z99 at hF
 refine Con.walk _ Tryz.func128 rfl (z06 Tryz.func128 rfl rfl) rfl (Or.inr rfl) ?_
 repeat' first
  | (refine AW.step ?_; conv => whnf)
  | (refine z0b.o hF (fun hF => ?_) (fun hF => ?_))
  | (refine z0b.t ?_)
  | (refine z0b.f ?_)
  | (refine z0p.o hF zfx (fun a h => zlp h) (fun a hF => ?_))
  | (refine And.intro ⟨by kernel_rfl, by kernel_rfl⟩ ?_)
  | (refine EqX.mk (by first | rfl | kernel_rfl) ?_)
  | (exact RetX.o hF (by repeat' first | exact Sub.nil _ | exact Sub.refl _ | refine Sub.agg ?_ | refine Sub.tup ?_ | refine Sub.fn ?_ | exact SubL.nil | refine SubL.cons ?_ ?_ | refine Sub.sl _ ?_ | exact SubE.nil | refine SubE.cons ?_ ?_))
def za5 (a1 : z0i) (a0 : z05) (v1_1 : Int) : AS := ⟨[(3, .ptr 3 0), (4, .ptr 4 0), (63, .sl 8 (List.map idA (a1.fChecks))), (64, aI ((((List.map idA (a1.fChecks)).length : Nat) : Int))), (65, aI (v1_1))], [(3, .box 25 [aI (a0.fVars), aI (a0.fScopes), .sl 1 (List.map z0m (a0.fStates)), .sl 17 (List.map z0n (a0.fEdges))]), (4, .box 51 [aI (a1.fFrom), aI (a1.fTo), aI (a1.fVar), aI (a1.fType), aI (a1.fCond.fOp), .sl 8 (List.map idA (a1.fCond.fArgs)), aI (a1.fCond.fVar), aI (a1.fCond.fField), aI (a1.fCond.fKind), aI (a1.fCond.fValue.fKind), aI (a1.fCond.fValue.fNum), .str (a1.fCond.fValue.fText), .sl 1 (List.map aI (a1.fOpens)), .sl 1 (List.map aI (a1.fCloses)), .sl 8 (List.map idA (a1.fChecks)), .sl 2 (List.map z0s (a1.fLimits)), .sl 1 (List.map aI (a1.fInside))])]⟩
end Go.Proofs.YtjpknpjjcddnnaaGreat
