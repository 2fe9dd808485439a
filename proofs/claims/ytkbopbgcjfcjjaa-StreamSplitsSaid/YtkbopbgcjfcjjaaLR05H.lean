/- From a contract of the abstract walk to a law's row: whatever the arguments, it returns true, and they read as they did. What some functions compute, over plain values. Printed by a program of mine (gen_fun.lean). Layer 5: Split, plainly. Layer 5: the contract of StreamSplits. -/
import Derived.Test.YtkbopbgcjfcjjaaRows
import Derived.Test.YtkbopbgcjfcjjaaK07
import Derived.ProofKit
import Derived.Lib.SmallJoins
import Derived.Deep.Slices
import Derived.Carry
import Derived.Below
import Derived.Test.YtkbopbgcjfcjjaaK08
import Derived.Test.YtkbopbgcjfcjjaaK09
import Derived.Test.YtkbopbgcjfcjjaaK10
import Derived.Test.YtkbopbgcjfcjjaaK11
set_option linter.unusedVariables false
set_option linter.unusedSimpArgs false
set_option maxRecDepth 100000
set_option maxHeartbeats 8000000
namespace Go.Proofs.Ytkbopbgcjfcjjaa
open Go.ChangeShapes Go.WideShapes Go.ChangeAt Go.RowKit

theorem args_two {w : World} {S : Nat → Prop} {a b : AV} {x y : Value} (ha : Rep w S G0 a x) (hb : Rep w S G0 b y) : Args w S [a, b] #[x, y] :=
  ⟨rfl, fun i hi => by
    have hi' : i < 2 := hi
    rcases i with _ | _ | i
    · exact ha
    · exact hb
    · omega⟩

section
variable {H : Type} {enc : TypeId × Value → H}
end
end Go.Proofs.Ytkbopbgcjfcjjaa
namespace Go.Proofs.Ytkbopbgcjfcjjaa
open Go.RowKit
def F_tidegateref05_keys_l1 (n : Nat) (a1 : T_api_Value) (a0 : (List T_api_Value)) (k1_0_0 : Int → (List T_api_Value) → Option ((List T_api_Value))) : Nat → Int × (List T_api_Value) → Option ((List T_api_Value))
  | 0, _ => none
  | mv1_0 + 1, v1_0 =>
    cnd (decide (v1_0.1 < (((List.map e_api_Value (a0)).length : Nat) : Int)))
      (idx a0 v1_0.1 fun x52 =>
      bnd (F_tidegateref01_Compare n x52 a1) fun x53 =>
      cnd (decide (x53 < 0))
        (idx a0 v1_0.1 fun x54 =>
        app v1_0.2 [x54] 32 fun x55 =>
        F_tidegateref05_keys_l1 n a1 a0 k1_0_0 mv1_0 ((IntKind.wrap .i64 (v1_0.1 + 1)), x55))
      <| k1_0_0 v1_0.1 v1_0.2)
    <| k1_0_0 v1_0.1 v1_0.2
def F_tidegateref05_keys (n : Nat) (a0 : (List T_api_Value)) (a1 : T_api_Value) : Option ((List T_api_Value)) :=
  F_tidegateref05_keys_l1 n a1 a0
    (fun k1_0_0y0 k1_0_0y1 => cnd (decide (k1_0_0y0 = (((List.map e_api_Value (a0)).length : Nat) : Int)))
    (app k1_0_0y1 [a1] 32 fun x43 =>
    sls a0 k1_0_0y0 (((List.map e_api_Value (a0)).length : Nat) : Int) fun x44 =>
    app x43 x44 32 fun x45 =>
    some x45)
  <| idx a0 k1_0_0y0 fun x46 =>
  cnd (!(decide (x46.fKind = a1.fKind) && (decide (x46.fNum = a1.fNum) && ((x46.fText.toList == a1.fText.toList) && true))))
    (app k1_0_0y1 [a1] 32 fun x47 =>
    sls a0 k1_0_0y0 (((List.map e_api_Value (a0)).length : Nat) : Int) fun x48 =>
    app x47 x48 32 fun x49 =>
    some x49)
  <| sls a0 k1_0_0y0 (((List.map e_api_Value (a0)).length : Nat) : Int) fun x50 =>
  app k1_0_0y1 x50 32 fun x51 =>
  some x51) n (0, [])
def F_tidegateref05_Split_l3 (n : Nat) (a1 : (List Int)) (a0 : (List T_api_Event)) (k1_0_0y : (List T_api_Value)) (v2_1 : Int × (List (List T_api_Event))) (k3_2_0 : (List T_api_Event) → Option ((List T_api_Value) × (List (List T_api_Event)) × Int)) : Nat → Int × (List T_api_Event) → Option ((List T_api_Value) × (List (List T_api_Event)) × Int)
  | 0, _ => none
  | mv3_2 + 1, v3_2 =>
    cnd (decide (v3_2.1 < (((List.map e_api_Event (a0)).length : Nat) : Int)))
      (idx a0 v3_2.1 fun x126 =>
      bnd (F_tidegateref05_Key n x126 a1) fun x127 =>
      cnd (x127.2.1)
        (idx k1_0_0y v2_1.1 fun x128 =>
        cnd ((decide (x127.1.fKind = x128.fKind) && (decide (x127.1.fNum = x128.fNum) && ((x127.1.fText.toList == x128.fText.toList) && true))))
          (idx a0 v3_2.1 fun x129 =>
          app v3_2.2 [x129] 56 fun x130 =>
          F_tidegateref05_Split_l3 n a1 a0 k1_0_0y v2_1 k3_2_0 mv3_2 ((IntKind.wrap .i64 (v3_2.1 + 1)), x130))
        <| F_tidegateref05_Split_l3 n a1 a0 k1_0_0y v2_1 k3_2_0 mv3_2 ((IntKind.wrap .i64 (v3_2.1 + 1)), v3_2.2))
      <| F_tidegateref05_Split_l3 n a1 a0 k1_0_0y v2_1 k3_2_0 mv3_2 ((IntKind.wrap .i64 (v3_2.1 + 1)), v3_2.2))
    <| k3_2_0 v3_2.2
def F_tidegateref05_Split_l2 (n : Nat) (a1 : (List Int)) (a0 : (List T_api_Event)) (k1_0_0y : (List T_api_Value)) (k2_1_0 : (List (List T_api_Event)) → Option ((List T_api_Value) × (List (List T_api_Event)) × Int)) : Nat → Int × (List (List T_api_Event)) → Option ((List T_api_Value) × (List (List T_api_Event)) × Int)
  | 0, _ => none
  | mv2_1 + 1, v2_1 =>
    cnd (decide (v2_1.1 < (((List.map e_api_Value (k1_0_0y)).length : Nat) : Int)))
      (F_tidegateref05_Split_l3 n a1 a0 k1_0_0y v2_1
        (fun k3_2_0y => frz 7085 <| reg <| app v2_1.2 [k3_2_0y] 24 fun x125 =>
      F_tidegateref05_Split_l2 n a1 a0 k1_0_0y k2_1_0 mv2_1 ((IntKind.wrap .i64 (v2_1.1 + 1)), x125)) n (0, []))
    <| k2_1_0 v2_1.2
def F_tidegateref05_Split_l1 (n : Nat) (a1 : (List Int)) (a0 : (List T_api_Event)) (k1_0_0 : (List T_api_Value) → Option ((List T_api_Value) × (List (List T_api_Event)) × Int)) : Nat → (List T_api_Value) × Int → Option ((List T_api_Value) × (List (List T_api_Event)) × Int)
  | 0, _ => none
  | mv1_0 + 1, v1_0 =>
    cnd (decide (v1_0.2 < (((List.map e_api_Event (a0)).length : Nat) : Int)))
      (idx a0 v1_0.2 fun x131 =>
      bnd (F_tidegateref05_Key n x131 a1) fun x132 =>
      cnd (!decide (x132.2.2 = 0))
        (some ([], [], x132.2.2))
      <| cnd (x132.2.1)
        (bnd (F_tidegateref05_keys n v1_0.1 x132.1) fun x133 =>
        F_tidegateref05_Split_l1 n a1 a0 k1_0_0 mv1_0 (x133, (IntKind.wrap .i64 (v1_0.2 + 1))))
      <| F_tidegateref05_Split_l1 n a1 a0 k1_0_0 mv1_0 (v1_0.1, (IntKind.wrap .i64 (v1_0.2 + 1))))
    <| k1_0_0 v1_0.1
def F_tidegateref05_Split (n : Nat) (a0 : (List T_api_Event)) (a1 : (List Int)) : Option ((List T_api_Value) × (List (List T_api_Event)) × Int) :=
  bnd (F_tidegateref05_Check n a0) fun x1 =>
  cnd (!decide (x1 = 0))
    (some ([], [], x1))
  <| F_tidegateref05_Split_l1 n a1 a0
    (fun k1_0_0y => F_tidegateref05_Split_l2 n a1 a0 k1_0_0y
    (fun k2_1_0y => some (k1_0_0y, k2_1_0y, 0)) n (0, [])) n ([], 0)
def F_tidegateref05_SameAll_l1 (n : Nat) (a1 : (List (List T_api_Event))) (a0 : (List (List T_api_Event))) (k1_0_0 : Option (Bool)) : Nat → Int → Option (Bool)
  | 0, _ => none
  | mv1_0 + 1, v1_0 =>
    cnd (decide (v1_0 < (((List.map (fun q => AV.sl 5 (List.map e_api_Event q)) (a0)).length : Nat) : Int)))
      (idx a0 v1_0 fun x41 =>
      idx a1 v1_0 fun x42 =>
      bnd (F_tidegateref05_Same n x41 x42) fun x43 =>
      cnd (!(x43))
        (some false)
      <| F_tidegateref05_SameAll_l1 n a1 a0 k1_0_0 mv1_0 (IntKind.wrap .i64 (v1_0 + 1)))
    <| k1_0_0
def F_tidegateref05_SameAll (n : Nat) (a0 : (List (List T_api_Event))) (a1 : (List (List T_api_Event))) : Option (Bool) :=
  cnd (!decide ((((List.map (fun q => AV.sl 5 (List.map e_api_Event q)) (a0)).length : Nat) : Int) = (((List.map (fun q => AV.sl 5 (List.map e_api_Event q)) (a1)).length : Nat) : Int)))
    (some false)
  <| F_tidegateref05_SameAll_l1 n a1 a0
    (some true) n 0
def F_tidegatelaw05_StreamSplits (n : Nat) (a0 : (List T_api_Event)) (a1 : (List Int)) : Option (Bool) :=
  bnd (F_tidegateref05_Few n a0) fun x1 =>
  cnd (!(x1))
    (bnd (F_tidegatelaw05_awake n) fun x2 =>
    some x2)
  <| cnd (decide (40 < (((List.map aI (a1)).length : Nat) : Int)))
    (bnd (F_tidegatelaw05_awake n) fun x3 =>
    some x3)
  <| bnd (F_stream_Split n a0 a1) fun x4 =>
  bnd (F_tidegateref05_Split n a0 a1) fun x5 =>
  bnd (F_tidegateref01_Same n x4.1 x5.1) fun x6 =>
  cnd (x6)
    (bnd (F_tidegateref05_SameAll n x4.2.1 x5.2.1) fun x7 =>
    cnd (x7)
      (cnd (decide (x4.2.2 = x5.2.2))
        (bnd (F_tidegatelaw05_awake n) fun x8 =>
        some x8)
      <| some false)
    <| some false)
  <| some false
end Go.Proofs.Ytkbopbgcjfcjjaa
namespace Go.Proofs.Ytkbopbgcjfcjjaa
open Go.RowKit

section
variable {α β κ ν : Type}
end

theorem keysP_split (v : Va) : ∀ (l : List Va) (k : Nat), k ≤ l.length → (∀ x ∈ l.take k, vaCmp x v < 0) → keysP l v = l.take k ++ keysP (l.drop k) v
  | l, 0, _, _ => by simp
  | [], k + 1, h, _ => by simp at h
  | x :: r, k + 1, h, hx => by
    have h1 := hx x (by simp)
    rw [keysP, if_pos h1, keysP_split v r k (by simpa using h) (fun y hy => hx y (by simp [hy]))]
    rfl
theorem p_keys_l1 (n : Nat) (v : Va) (l : List Va) (K : Int → List Va → Option (List Va)) (hK : ∀ k, k ≤ l.length → (∀ x ∈ l.take k, vaCmp x v < 0) → (∀ h : k < l.length, ¬ vaCmp l[k] v < 0) → K (k : Int) (l.take k) = some (keysP l v)) : ∀ (m k : Nat), k ≤ l.length → l.length ≤ 1000000 → l.length < m + k → (∀ x ∈ l.take k, vaCmp x v < 0) →
    F_tidegateref05_keys_l1 n v l K m ((k : Int), l.take k) = some (keysP l v)
  | 0, k, h1, h2, h3, _ => by omega
  | m + 1, k, h1, h2, h3, hx => by
    unfold F_tidegateref05_keys_l1
    simp only [List.length_map, cnd_if]
    by_cases h : k < l.length
    · rw [if_pos (by omega), idx_nat h, wrapS k (by omega)]
      simp only [p_rcmp1, bnd_some, cnd_if]
      by_cases hc : vaCmp l[k] v < 0
      · rw [if_pos hc, idx_nat h, app_ok (by simp; omega) (by omega), ← List.take_succ_eq_append_getElem h]
        refine p_keys_l1 n v l K hK m (k + 1) (by omega) h2 (by omega) (fun x hx' => ?_)
        rw [List.take_succ_eq_append_getElem h] at hx'
        simp only [List.mem_append, List.mem_singleton] at hx'
        rcases hx' with hx' | rfl
        · exact hx x hx'
        · exact hc
      · rw [if_neg hc]; exact hK k h1 hx (fun _ => hc)
    · rw [if_neg (by omega)]; exact hK k h1 hx (fun h' => absurd h' h)
theorem p_keys (n : Nat) (l : List Va) (v : Va) (hn : l.length < n) (h2 : l.length ≤ 100000) : F_tidegateref05_keys n l v = some (keysP l v) := by
  unfold F_tidegateref05_keys
  have := p_keys_l1 n v l (fun k1_0_0y0 k1_0_0y1 => cnd (decide (k1_0_0y0 = (((List.map e_api_Value (l)).length : Nat) : Int)))
    (app k1_0_0y1 [v] 32 fun x43 => sls l k1_0_0y0 (((List.map e_api_Value (l)).length : Nat) : Int) fun x44 => app x43 x44 32 fun x45 => some x45)
    <| idx l k1_0_0y0 fun x46 => cnd (!(decide (x46.fKind = v.fKind) && (decide (x46.fNum = v.fNum) && ((x46.fText.toList == v.fText.toList) && true))))
      (app k1_0_0y1 [v] 32 fun x47 => sls l k1_0_0y0 (((List.map e_api_Value (l)).length : Nat) : Int) fun x48 => app x47 x48 32 fun x49 => some x49)
      <| sls l k1_0_0y0 (((List.map e_api_Value (l)).length : Nat) : Int) fun x50 => app k1_0_0y1 x50 32 fun x51 => some x51) (fun k hk hx hnx => ?_) n 0 (by omega) (by omega) (by omega) (by simp)
  · simpa using this
  · simp only [List.length_map, cnd_if, cnd_not, val_eq]
    rw [keysP_split v l k hk hx]
    by_cases h : k < l.length
    · rw [if_neg (by omega), idx_nat h]
      rw [drop_eq_cons l k h, keysP, if_neg (hnx h)]
      by_cases he : l[k] = v
      · rw [if_pos he, if_pos he, sls_ok hk (Nat.le_refl _), List.take_length, app_ok (by simp; omega) (by omega), drop_eq_cons l k h]
      · rw [if_neg he, if_neg he, app_ok (by simp; omega) (by omega), sls_ok hk (Nat.le_refl _), List.take_length, app_ok (by simp; omega) (by omega), drop_eq_cons l k h, List.append_assoc]
        rfl
    · rw [if_pos (by omega), app_ok (by simp; omega) (by omega), sls_ok hk (Nat.le_refl _), List.take_length, app_ok (by simp; omega) (by omega), List.drop_eq_nil_of_le (by omega)]
      simp [keysP]
theorem keysAll_drop (ks : List Int) {l : List Ev} {k : Nat} (h : k < l.length) (acc : List Va) : keysAll ks acc (l.drop k) = keysAll ks (if kOk ks l[k] = true then keysP acc (kVal ks l[k]) else acc) (l.drop (k + 1)) := by rw [drop_eq_cons l k h]; rfl
theorem p_rsplit_l1 (n : Nat) (ks : List Int) (l : List Ev) (hn : l.length < n) (K : List Va → Option (List Va × List (List Ev) × Int)) : ∀ (m k : Nat) (acc : List Va), k ≤ l.length → l.length ≤ 100000 → l.length < m + k → acc.length ≤ k →
    F_tidegateref05_Split_l1 n ks l K m (acc, (k : Int)) = if errF ks (l.drop k) = 0 then K (keysAll ks acc (l.drop k)) else some ([], [], errF ks (l.drop k))
  | 0, k, acc, h1, h2, h3, _ => by omega
  | m + 1, k, acc, h1, h2, h3, h4 => by
    unfold F_tidegateref05_Split_l1
    simp only [List.length_map, cnd_if]
    by_cases h : k < l.length
    · rw [if_pos (by omega), idx_nat h, wrapS k (by omega)]
      simp only [p_rkey, bnd_some, cnd_not, cnd_if, keyP_eq]
      rw [errF_drop ks h, keysAll_drop ks h]
      by_cases he : kErr ks l[k] = 0
      · simp only [if_pos he]
        by_cases hk : kOk ks l[k] = true
        · rw [hk, cnd_t, p_keys n acc _ (by omega) (by omega), bnd_some, if_pos rfl, p_rsplit_l1 n ks l hn K m (k + 1) _ (by omega) h2 (by omega) (by have := keysP_len (kVal ks l[k]) acc; omega)]
        · have hk' : kOk ks l[k] = false := by simpa using hk
          simp only [hk', cnd_f, Bool.false_eq_true, if_false]
          exact p_rsplit_l1 n ks l hn K m (k + 1) _ (by omega) h2 (by omega) (by omega)
      · simp only [if_neg he]
    · rw [if_neg (by omega), List.drop_eq_nil_of_le (by omega)]
      simp [errF, keysAll]
theorem p_rsplit_l3 (n : Nat) (ks : List Int) (l : List Ev) (all : List Va) (i : Nat) (hi : i < all.length) (o : List (List Ev)) (K : List Ev → Option (List Va × List (List Ev) × Int)) : ∀ (m k : Nat) (acc : List Ev), k ≤ l.length → l.length ≤ 100000 → l.length < m + k → acc.length ≤ k →
    F_tidegateref05_Split_l3 n ks l all ((i : Int), o) K m ((k : Int), acc) = K (acc ++ (l.drop k).filter (inK ks all[i]))
  | 0, k, acc, h1, h2, h3, _ => by omega
  | m + 1, k, acc, h1, h2, h3, h4 => by
    unfold F_tidegateref05_Split_l3
    simp only [List.length_map, cnd_if]
    by_cases h : k < l.length
    · rw [if_pos (by omega), idx_nat h, wrapS k (by omega)]
      simp only [p_rkey, bnd_some, keyP_eq, idx_nat hi, val_eq, cnd_if]
      rw [drop_eq_cons l k h, List.filter_cons]
      have ih1 := p_rsplit_l3 n ks l all i hi o K m (k + 1) (acc ++ [l[k]]) (by omega) h2 (by omega) (by simp; omega)
      have ih2 := p_rsplit_l3 n ks l all i hi o K m (k + 1) acc (by omega) h2 (by omega) (by omega)
      by_cases hk : kOk ks l[k] = true
      · rw [hk, cnd_t]
        by_cases hv : kVal ks l[k] = all[i]
        · rw [if_pos hv, idx_nat h, app_ok (by simp; omega) (by omega), ih1, if_pos (by simp [inK, hk, hv]), List.append_assoc]; rfl
        · rw [if_neg hv, ih2, if_neg (by simp [inK, hv])]
      · have hk' : kOk ks l[k] = false := by simpa using hk
        rw [hk', cnd_f, ih2, if_neg (by simp [inK, hk'])]
    · rw [if_neg (by omega), List.drop_eq_nil_of_le (by omega)]; simp
theorem p_rsplit_l2 (n : Nat) (ks : List Int) (l : List Ev) (all : List Va) (hn : l.length < n) (h2 : l.length ≤ 100000) (ha : all.length ≤ 100000) (K : List (List Ev) → Option (List Va × List (List Ev) × Int)) : ∀ (m k : Nat) (out : List (List Ev)), k ≤ all.length → all.length < m + k → out.length ≤ k →
    F_tidegateref05_Split_l2 n ks l all K m ((k : Int), out) = K (out ++ (all.drop k).map fun v => l.filter (inK ks v))
  | 0, k, out, h1, h3, _ => by omega
  | m + 1, k, out, h1, h3, h4 => by
    unfold F_tidegateref05_Split_l2
    simp only [List.length_map, cnd_if]
    by_cases h : k < all.length
    · rw [if_pos (by omega), wrapS k (by omega)]
      have h0 := p_rsplit_l3 n ks l all k h out (fun k3_2_0y => frz 7085 <| reg <| app out [k3_2_0y] 24 fun x125 => F_tidegateref05_Split_l2 n ks l all K m (((k + 1 : Nat) : Int), x125)) n 0 [] (by omega) h2 (by omega) (by simp)
      simp only [frz_eq, reg_eq, List.drop_zero, List.nil_append] at h0 ⊢
      refine h0.trans ?_
      rw [app_ok (by simp; omega) (by omega), p_rsplit_l2 n ks l all hn h2 ha K m (k + 1) _ (by omega) (by omega) (by simp; omega), drop_eq_cons all k h, List.map_cons, List.append_assoc]
      rfl
    · rw [if_neg (by omega), List.drop_eq_nil_of_le (by omega)]; simp
theorem p_rsplit (n : Nat) (ks : List Int) (l : List Ev) (hn : l.length < n) (h2 : l.length ≤ 100000) : F_tidegateref05_Split n l ks = some (splitS ks l) := by
  unfold F_tidegateref05_Split splitS
  simp only [p_rchk n l hn (by omega), bnd_some, cnd_not, cnd_if]
  by_cases h : strChk l = 0
  · rw [if_pos h, if_neg (by simp [h])]
    have h1 := p_rsplit_l1 n ks l hn (fun k1_0_0y => F_tidegateref05_Split_l2 n ks l k1_0_0y (fun k2_1_0y => some (k1_0_0y, k2_1_0y, 0)) n (0, [])) n 0 [] (by omega) h2 (by omega) (by simp)
    simp only [List.drop_zero] at h1
    have hl := (keysAll_props ks l [] .nil).2.2
    simp only [List.length_nil, Nat.zero_add] at hl
    have h3 := p_rsplit_l2 n ks l (keysAll ks [] l) hn h2 (by omega) (fun k2_1_0y => some (keysAll ks [] l, k2_1_0y, 0)) n 0 [] (by omega) (by omega) (by simp)
    simp only [List.drop_zero, List.nil_append] at h3
    refine h1.trans ?_
    by_cases he : errF ks l = 0
    · rw [if_pos he, if_pos he]; exact h3
    · rw [if_neg he, if_neg he]
  · rw [if_neg h, if_pos h]

theorem p_rsameAll_l1 (n : Nat) (b a : List (List Ev)) (hv : ∀ p ∈ a, (∀ x ∈ p, fewV n x) ∧ p.length < n ∧ p.length ≤ 1000000) (K : Option Bool) : ∀ (m k : Nat), k ≤ a.length → a.length = b.length → a.length ≤ 1000000 → a.length < m + k → F_tidegateref05_SameAll_l1 n b a K m (k : Int) = if a.drop k = b.drop k then K else some false
  | 0, k, h1, h2, h3, h4 => by omega
  | m + 1, k, h1, h2, h3, h4 => by
    unfold F_tidegateref05_SameAll_l1
    simp only [List.length_map, cnd_if]
    by_cases h : k < a.length
    · have hb : k < b.length := by omega
      rw [if_pos (by omega), idx_nat h, idx_nat hb, wrapS k (by omega)]
      obtain ⟨q1, q2, q3⟩ := hv _ (List.getElem_mem h)
      rw [p_rSame n _ _ q1 q2 q3, bnd_some, cnd_not, cnd_if, p_rsameAll_l1 n b a hv K m (k + 1) (by omega) h2 h3 (by omega), drop_eq_cons a k h, drop_eq_cons b k hb]
      by_cases he : a[k] = b[k]
      · rw [if_pos he, he]
        by_cases hd : a.drop (k + 1) = b.drop (k + 1)
        · rw [if_pos hd, if_pos (by rw [hd])]
        · rw [if_neg hd, if_neg (fun e => hd (List.cons.inj e).2)]
      · rw [if_neg he, if_neg (fun e => he (List.cons.inj e).1)]
    · rw [if_neg (by omega), List.drop_eq_nil_of_le (by omega), List.drop_eq_nil_of_le (by omega)]; simp
theorem p_rsameAll (n : Nat) (a b : List (List Ev)) (hv : ∀ p ∈ a, (∀ x ∈ p, fewV n x) ∧ p.length < n ∧ p.length ≤ 1000000) (hn : a.length < n) (h2 : a.length ≤ 1000000) : F_tidegateref05_SameAll n a b = some (decide (a = b)) := by
  unfold F_tidegateref05_SameAll
  simp only [List.length_map, cnd_not, cnd_if]
  by_cases h : a.length = b.length
  · rw [if_pos (by omega)]
    have := p_rsameAll_l1 n b a hv (some true) n 0 (by omega) h h2 (by omega)
    refine this.trans ?_
    simp only [List.drop_zero]
    by_cases he : a = b <;> simp [he]
  · rw [if_neg (by omega)]
    have : a ≠ b := fun e => h (by rw [e])
    simp [this]
theorem splitS_props {n : Nat} (ks : List Int) {l : List Ev} (hv : ∀ x ∈ l, fewV n x) : (splitS ks l).1.length ≤ l.length ∧ (splitS ks l).2.1.length ≤ l.length ∧ ∀ p ∈ (splitS ks l).2.1, (∀ x ∈ p, fewV n x) ∧ p.length ≤ l.length := by
  obtain ⟨q1, q2, q3⟩ := keysAll_props ks l [] .nil
  simp only [List.length_nil, Nat.zero_add] at q3
  unfold splitS
  split
  · exact ⟨by simp, by simp, fun p hp => by cases hp⟩
  · split
    · refine ⟨q3, by simpa using q3, fun p hp => ?_⟩
      obtain ⟨v, _, rfl⟩ := List.mem_map.1 hp
      exact ⟨fun x hx => hv x (List.mem_filter.1 hx).1, List.length_filter_le _ _⟩
    · exact ⟨by simp, by simp, fun p hp => by cases hp⟩
theorem law_splits05 (l : List Ev) (ks : List Int) : F_tidegatelaw05_StreamSplits 200 l ks = some true := by
  unfold F_tidegatelaw05_StreamSplits
  simp only [p_few 200 l (by omega), awake05 200 (by omega), bnd_some, List.length_map]
  cases h : fewE l with
  | false => simp only [Bool.not_false, cnd_t]
  | true =>
    obtain ⟨hl, hv⟩ := few_v (n := 200) (by omega) h
    simp only [Bool.not_true, cnd_f, cnd_if]
    by_cases hk : (40 : Int) < (ks.length : Int)
    · rw [if_pos hk]
    · rw [if_neg hk, p_split 200 ks l hv (by omega) (by omega), bnd_some, p_rsplit 200 ks l (by omega) (by omega), bnd_some]
      obtain ⟨r1, r2, r3⟩ := splitS_props (n := 200) ks hv
      rw [p_rsame1 200 _ _ (by omega) (by omega), bnd_some, p_rsameAll 200 _ _ (fun p hp => ⟨(r3 p hp).1, by have := (r3 p hp).2; omega, by have := (r3 p hp).2; omega⟩) (by omega) (by omega), bnd_some]
      simp [cnd_t]
end Go.Proofs.Ytkbopbgcjfcjjaa
namespace Go.Proofs.Ytkbopbgcjfcjjaa
open Go.RowKit
def S_tidegateref05_keys_l1 (a1 : T_api_Value) (a0 : (List T_api_Value)) (v1_0 : Int × (List T_api_Value)) : AS := ⟨[(0, .sl 3 (List.map e_api_Value (a0))), (3, .ptr 3 0), (5, .row 7026), (6, aI (v1_0.1))], [(3, .box 39 [aI (a1.fKind), aI (a1.fNum), .str (a1.fText)]), (7026, .row 39 3 (List.map e_api_Value (v1_0.2)))]⟩
theorem tidegateref05_keys_l1_o {n N : Nat} {a1 : T_api_Value} {a0 : (List T_api_Value)} {k1_0_0 : Int → (List T_api_Value) → Option ((List T_api_Value))} {R : Exit → AS → Prop} {K : List KItem} {c : Code} {σ : AS} {v0 : Int × (List T_api_Value)} {r : (List T_api_Value)} (hF : F_tidegateref05_keys_l1 n a1 a0 k1_0_0 N v0 = some r) (hl : LeX E0 50 σ (S_tidegateref05_keys_l1 a1 a0 v0)) (round : ∀ m v, F_tidegateref05_keys_l1 n a1 a0 k1_0_0 (m + 1) v = some r → AW E0 50 (thenA (fun σ' => ∃ v', F_tidegateref05_keys_l1 n a1 a0 k1_0_0 m v' = some r ∧ LeX E0 50 σ' (S_tidegateref05_keys_l1 a1 a0 v')) (AW E0 50 R K)) [.code c] .normal (S_tidegateref05_keys_l1 a1 a0 v)) : LoopX E0 50 (fun next σ' => AW E0 50 (thenA next (AW E0 50 R K)) [.code c] .normal σ') σ :=
  LoopA.o (S := S_tidegateref05_keys_l1 a1 a0) hF (fun _ => rfl) hl round
def R_tidegateref05_keys (r : (List T_api_Value)) : AV := .sl 3 (List.map e_api_Value (r))
theorem con_tidegateref05_keys {n : Nat} {a0 : (List T_api_Value)} {a1 : T_api_Value} {r : (List T_api_Value)} (hF : F_tidegateref05_keys n a0 a1 = some r) : Con E0 false 29 [.sl 3 (List.map e_api_Value (a0)), .agg [aI (a1.fKind), aI (a1.fNum), .str (a1.fText)]] (R_tidegateref05_keys r) := by
  unfold F_tidegateref05_keys at hF
  refine Con.walk _ Try.func29 rfl (enters_of Try.func29 rfl rfl) rfl (Or.inl rfl) ?_
  repeat' first
    | (refine AW.step ?_; conv => whnf)
    | (refine CondX.o hF (fun hF => ?_) (fun hF => ?_))
    | (refine CondX.t ?_)
    | (refine CondX.f ?_)
    | (refine AppX.o e_api_Value hF (by first | exact SubR.refl _ | (repeat' first | exact SubR.nil | refine SubR.cons ?_ ?_ | exact SubL.nil | refine SubL.cons ?_ ?_ | exact Sub.refl _ | exact Sub.nil _)) (fun l hF => ?_))
    | (refine SlsX.o e_api_Value hF (fun l hF => ?_))
    | (refine IdxX.o e_api_Value hF (fun x hF => ?_))
    | (refine CallX.o hF R_tidegateref01_Compare (fun a h => con_tidegateref01_Compare h) (fun a hF => ?_))
    | (exact ⟨_, hF, LeX.of [(7026, 26)] rfl ⟨⟨rfl, rfl⟩, ⟨rfl, rfl⟩, ⟨rfl, rfl⟩, ⟨rfl, rfl⟩, trivial⟩ ⟨⟨rfl, rfl⟩, ⟨rfl, rfl⟩, trivial⟩⟩)
    | (refine tidegateref05_keys_l1_o hF (LeX.trans (LeX.adopt 5 7026 39 3 rfl rfl) (LeX.of [] rfl ⟨⟨rfl, rfl⟩, ⟨rfl, rfl⟩, ⟨rfl, rfl⟩, ⟨rfl, rfl⟩, trivial⟩ ⟨⟨rfl, rfl⟩, ⟨rfl, rfl⟩, trivial⟩)) (fun m v hF => ?_); unfold F_tidegateref05_keys_l1 at hF)
    | (refine And.intro ⟨by kernel_rfl, by kernel_rfl⟩ ?_)
    | (refine EqX.mk (by first | rfl | kernel_rfl) ?_)
    | (exact RetX.o hF (by repeat' first | exact Sub.nil _ | exact Sub.refl _ | refine Sub.agg ?_ | refine Sub.tup ?_ | refine Sub.fn ?_ | exact SubL.nil | refine SubL.cons ?_ ?_ | refine Sub.sl _ ?_ | exact SubE.nil | refine SubE.cons ?_ ?_))

def S_tidegateref05_Split_l3 (a1 : (List Int)) (a0 : (List T_api_Event)) (k1_0_0y : (List T_api_Value)) (v2_1 : Int × (List (List T_api_Event))) (v3_2 : Int × (List T_api_Event)) : AS := ⟨[(0, .sl 5 (List.map e_api_Event (a0))), (1, .sl 1 (List.map aI (a1))), (8, .sl 3 (List.map e_api_Value (k1_0_0y))), (13, .row 7089), (14, aI (v2_1.1)), (15, .row 7085), (16, aI (v3_2.1))], [(7089, .row 22 1 (List.map (fun q => AV.sl 5 (List.map e_api_Event q)) (v2_1.2))), (7085, .row 41 5 (List.map e_api_Event (v3_2.2)))]⟩
theorem tidegateref05_Split_l3_o {n N : Nat} {a1 : (List Int)} {a0 : (List T_api_Event)} {k1_0_0y : (List T_api_Value)} {v2_1 : Int × (List (List T_api_Event))} {k3_2_0 : (List T_api_Event) → Option ((List T_api_Value) × (List (List T_api_Event)) × Int)} {R : Exit → AS → Prop} {K : List KItem} {c : Code} {σ : AS} {v0 : Int × (List T_api_Event)} {r : (List T_api_Value) × (List (List T_api_Event)) × Int} (hF : F_tidegateref05_Split_l3 n a1 a0 k1_0_0y v2_1 k3_2_0 N v0 = some r) (hl : LeX E0 92 σ (S_tidegateref05_Split_l3 a1 a0 k1_0_0y v2_1 v0)) (round : ∀ m v, F_tidegateref05_Split_l3 n a1 a0 k1_0_0y v2_1 k3_2_0 (m + 1) v = some r → AW E0 92 (thenA (fun σ' => ∃ v', F_tidegateref05_Split_l3 n a1 a0 k1_0_0y v2_1 k3_2_0 m v' = some r ∧ LeX E0 92 σ' (S_tidegateref05_Split_l3 a1 a0 k1_0_0y v2_1 v')) (AW E0 92 R K)) [.code c] .normal (S_tidegateref05_Split_l3 a1 a0 k1_0_0y v2_1 v)) : LoopX E0 92 (fun next σ' => AW E0 92 (thenA next (AW E0 92 R K)) [.code c] .normal σ') σ :=
  LoopA.o (S := S_tidegateref05_Split_l3 a1 a0 k1_0_0y v2_1) hF (fun _ => rfl) hl round
def S_tidegateref05_Split_l2 (a1 : (List Int)) (a0 : (List T_api_Event)) (k1_0_0y : (List T_api_Value)) (v2_1 : Int × (List (List T_api_Event))) : AS := ⟨[(0, .sl 5 (List.map e_api_Event (a0))), (1, .sl 1 (List.map aI (a1))), (8, .sl 3 (List.map e_api_Value (k1_0_0y))), (13, .row 7089), (14, aI (v2_1.1))], [(7089, .row 22 1 (List.map (fun q => AV.sl 5 (List.map e_api_Event q)) (v2_1.2)))]⟩
theorem tidegateref05_Split_l2_o {n N : Nat} {a1 : (List Int)} {a0 : (List T_api_Event)} {k1_0_0y : (List T_api_Value)} {k2_1_0 : (List (List T_api_Event)) → Option ((List T_api_Value) × (List (List T_api_Event)) × Int)} {R : Exit → AS → Prop} {K : List KItem} {c : Code} {σ : AS} {v0 : Int × (List (List T_api_Event))} {r : (List T_api_Value) × (List (List T_api_Event)) × Int} (hF : F_tidegateref05_Split_l2 n a1 a0 k1_0_0y k2_1_0 N v0 = some r) (hl : LeX E0 92 σ (S_tidegateref05_Split_l2 a1 a0 k1_0_0y v0)) (round : ∀ m v, F_tidegateref05_Split_l2 n a1 a0 k1_0_0y k2_1_0 (m + 1) v = some r → AW E0 92 (thenA (fun σ' => ∃ v', F_tidegateref05_Split_l2 n a1 a0 k1_0_0y k2_1_0 m v' = some r ∧ LeX E0 92 σ' (S_tidegateref05_Split_l2 a1 a0 k1_0_0y v')) (AW E0 92 R K)) [.code c] .normal (S_tidegateref05_Split_l2 a1 a0 k1_0_0y v)) : LoopX E0 92 (fun next σ' => AW E0 92 (thenA next (AW E0 92 R K)) [.code c] .normal σ') σ :=
  LoopA.o (S := S_tidegateref05_Split_l2 a1 a0 k1_0_0y) hF (fun _ => rfl) hl round
def S_tidegateref05_Split_l1 (a1 : (List Int)) (a0 : (List T_api_Event)) (v1_0 : (List T_api_Value) × Int) : AS := ⟨[(0, .sl 5 (List.map e_api_Event (a0))), (1, .sl 1 (List.map aI (a1))), (8, .sl 3 (List.map e_api_Value (v1_0.1))), (9, aI (v1_0.2))], []⟩
theorem tidegateref05_Split_l1_o {n N : Nat} {a1 : (List Int)} {a0 : (List T_api_Event)} {k1_0_0 : (List T_api_Value) → Option ((List T_api_Value) × (List (List T_api_Event)) × Int)} {R : Exit → AS → Prop} {K : List KItem} {c : Code} {σ : AS} {v0 : (List T_api_Value) × Int} {r : (List T_api_Value) × (List (List T_api_Event)) × Int} (hF : F_tidegateref05_Split_l1 n a1 a0 k1_0_0 N v0 = some r) (hl : LeX E0 92 σ (S_tidegateref05_Split_l1 a1 a0 v0)) (round : ∀ m v, F_tidegateref05_Split_l1 n a1 a0 k1_0_0 (m + 1) v = some r → AW E0 92 (thenA (fun σ' => ∃ v', F_tidegateref05_Split_l1 n a1 a0 k1_0_0 m v' = some r ∧ LeX E0 92 σ' (S_tidegateref05_Split_l1 a1 a0 v')) (AW E0 92 R K)) [.code c] .normal (S_tidegateref05_Split_l1 a1 a0 v)) : LoopX E0 92 (fun next σ' => AW E0 92 (thenA next (AW E0 92 R K)) [.code c] .normal σ') σ :=
  LoopA.o (S := S_tidegateref05_Split_l1 a1 a0) hF (fun _ => rfl) hl round
def R_tidegateref05_Split (r : (List T_api_Value) × (List (List T_api_Event)) × Int) : AV := .tup [.sl 3 (List.map e_api_Value (r.1)), .sl 1 (List.map (fun q => AV.sl 5 (List.map e_api_Event q)) (r.2.1)), aI (r.2.2)]
theorem con_tidegateref05_Split {n : Nat} {a0 : (List T_api_Event)} {a1 : (List Int)} {r : (List T_api_Value) × (List (List T_api_Event)) × Int} (hF : F_tidegateref05_Split n a0 a1 = some r) : Con E0 false 8 [.sl 5 (List.map e_api_Event (a0)), .sl 1 (List.map aI (a1))] (R_tidegateref05_Split r) := by
  unfold F_tidegateref05_Split at hF
  refine Con.walk _ Try.func8 rfl (enters_of Try.func8 rfl rfl) rfl (Or.inl rfl) ?_
  repeat' first
    | (refine AW.regO hF (fun hF => ?_))
    | (refine AW.frzO hF 7085 rfl (fun hF => ?_))
    | (refine AW.stepU [24] ?_; conv => whnf)
    | (refine CondX.o hF (fun hF => ?_) (fun hF => ?_))
    | (refine CondX.t ?_)
    | (refine CondX.f ?_)
    | (refine CallX.o hF R_tidegateref05_Check (fun a h => con_tidegateref05_Check h) (fun a hF => ?_))
    | (refine AppX.o (fun q => AV.sl 5 (List.map e_api_Event q)) hF (by first | exact SubR.refl _ | (repeat' first | exact SubR.nil | refine SubR.cons ?_ ?_ | exact SubL.nil | refine SubL.cons ?_ ?_ | exact Sub.refl _ | exact Sub.nil _)) (fun l hF => ?_))
    | (exact ⟨_, hF, LeX.of [(7089, 89)] rfl ⟨⟨rfl, rfl⟩, ⟨rfl, rfl⟩, ⟨rfl, rfl⟩, ⟨rfl, rfl⟩, ⟨rfl, rfl⟩, trivial⟩ ⟨⟨rfl, rfl⟩, trivial⟩⟩)
    | (refine IdxX.o e_api_Event hF (fun x hF => ?_))
    | (refine CallX.o hF R_tidegateref05_Key (fun a h => con_tidegateref05_Key h) (fun a hF => ?_))
    | (refine IdxX.o e_api_Value hF (fun x hF => ?_))
    | (refine AppX.o e_api_Event hF (by first | exact SubR.refl _ | (repeat' first | exact SubR.nil | refine SubR.cons ?_ ?_ | exact SubL.nil | refine SubL.cons ?_ ?_ | exact Sub.refl _ | exact Sub.nil _)) (fun l hF => ?_))
    | (exact ⟨_, hF, LeX.of [(7085, 85)] rfl ⟨⟨rfl, rfl⟩, ⟨rfl, rfl⟩, ⟨rfl, rfl⟩, ⟨rfl, rfl⟩, ⟨rfl, rfl⟩, ⟨rfl, rfl⟩, ⟨rfl, rfl⟩, trivial⟩ ⟨⟨rfl, rfl⟩, ⟨rfl, rfl⟩, trivial⟩⟩)
    | (exact ⟨_, hF, LeX.of [] rfl ⟨⟨rfl, rfl⟩, ⟨rfl, rfl⟩, ⟨rfl, rfl⟩, ⟨rfl, rfl⟩, ⟨rfl, rfl⟩, ⟨rfl, rfl⟩, ⟨rfl, rfl⟩, trivial⟩ ⟨⟨rfl, rfl⟩, ⟨rfl, rfl⟩, trivial⟩⟩)
    | (refine tidegateref05_Split_l3_o hF (LeX.trans (LeX.adopt 15 7085 41 5 rfl rfl) (LeX.of [] rfl ⟨⟨rfl, rfl⟩, ⟨rfl, rfl⟩, ⟨rfl, rfl⟩, ⟨rfl, rfl⟩, ⟨rfl, rfl⟩, ⟨rfl, rfl⟩, ⟨rfl, rfl⟩, trivial⟩ ⟨⟨rfl, rfl⟩, ⟨rfl, rfl⟩, trivial⟩)) (fun m v hF => ?_); unfold F_tidegateref05_Split_l3 at hF)
    | (refine tidegateref05_Split_l2_o hF (LeX.trans (LeX.adopt 13 7089 22 1 rfl rfl) (LeX.of [] rfl ⟨⟨rfl, rfl⟩, ⟨rfl, rfl⟩, ⟨rfl, rfl⟩, ⟨rfl, rfl⟩, ⟨rfl, rfl⟩, trivial⟩ ⟨⟨rfl, rfl⟩, trivial⟩)) (fun m v hF => ?_); unfold F_tidegateref05_Split_l2 at hF)
    | (refine CallX.o hF R_tidegateref05_keys (fun a h => con_tidegateref05_keys h) (fun a hF => ?_))
    | (exact ⟨_, hF, LeX.of [] rfl ⟨⟨rfl, rfl⟩, ⟨rfl, rfl⟩, ⟨rfl, rfl⟩, ⟨rfl, rfl⟩, trivial⟩ trivial⟩)
    | (refine tidegateref05_Split_l1_o hF (LeX.trans (LeX.put 8 _ (by repeat' first | exact Sub.nil _ | exact Sub.refl _ | refine Sub.agg ?_ | refine Sub.tup ?_ | refine Sub.fn ?_ | exact SubL.nil | refine SubL.cons ?_ ?_ | refine Sub.sl _ ?_ | exact SubE.nil | refine SubE.cons ?_ ?_)) (LeX.of [] rfl ⟨⟨rfl, rfl⟩, ⟨rfl, rfl⟩, ⟨rfl, rfl⟩, ⟨rfl, rfl⟩, trivial⟩ trivial)) (fun m v hF => ?_); unfold F_tidegateref05_Split_l1 at hF)
    | (refine And.intro ⟨by kernel_rfl, by kernel_rfl⟩ ?_)
    | (refine EqX.mk (by first | rfl | kernel_rfl) ?_)
    | (exact RetX.o hF (by repeat' first | exact Sub.nil _ | exact Sub.refl _ | refine Sub.agg ?_ | refine Sub.tup ?_ | refine Sub.fn ?_ | exact SubL.nil | refine SubL.cons ?_ ?_ | refine Sub.sl _ ?_ | exact SubE.nil | refine SubE.cons ?_ ?_))

def S_tidegateref05_SameAll_l1 (a1 : (List (List T_api_Event))) (a0 : (List (List T_api_Event))) (v1_0 : Int) : AS := ⟨[(0, .sl 1 (List.map (fun q => AV.sl 5 (List.map e_api_Event q)) (a0))), (1, .sl 1 (List.map (fun q => AV.sl 5 (List.map e_api_Event q)) (a1))), (5, aI (v1_0))], []⟩
theorem tidegateref05_SameAll_l1_o {n N : Nat} {a1 : (List (List T_api_Event))} {a0 : (List (List T_api_Event))} {k1_0_0 : Option (Bool)} {R : Exit → AS → Prop} {K : List KItem} {c : Code} {σ : AS} {v0 : Int} {r : Bool} (hF : F_tidegateref05_SameAll_l1 n a1 a0 k1_0_0 N v0 = some r) (hl : LeX E0 27 σ (S_tidegateref05_SameAll_l1 a1 a0 v0)) (round : ∀ m v, F_tidegateref05_SameAll_l1 n a1 a0 k1_0_0 (m + 1) v = some r → AW E0 27 (thenA (fun σ' => ∃ v', F_tidegateref05_SameAll_l1 n a1 a0 k1_0_0 m v' = some r ∧ LeX E0 27 σ' (S_tidegateref05_SameAll_l1 a1 a0 v')) (AW E0 27 R K)) [.code c] .normal (S_tidegateref05_SameAll_l1 a1 a0 v)) : LoopX E0 27 (fun next σ' => AW E0 27 (thenA next (AW E0 27 R K)) [.code c] .normal σ') σ :=
  LoopA.o (S := S_tidegateref05_SameAll_l1 a1 a0) hF (fun _ => rfl) hl round
def R_tidegateref05_SameAll (r : Bool) : AV := .bool (r)
theorem con_tidegateref05_SameAll {n : Nat} {a0 : (List (List T_api_Event))} {a1 : (List (List T_api_Event))} {r : Bool} (hF : F_tidegateref05_SameAll n a0 a1 = some r) : Con E0 true 10 [.sl 1 (List.map (fun q => AV.sl 5 (List.map e_api_Event q)) (a0)), .sl 1 (List.map (fun q => AV.sl 5 (List.map e_api_Event q)) (a1))] (R_tidegateref05_SameAll r) := by
  unfold F_tidegateref05_SameAll at hF
  refine Con.walk _ Try.func10 rfl (enters_of Try.func10 rfl rfl) rfl (Or.inr rfl) ?_
  repeat' first
    | (refine AW.step ?_; conv => whnf)
    | (refine CondX.o hF (fun hF => ?_) (fun hF => ?_))
    | (refine CondX.t ?_)
    | (refine CondX.f ?_)
    | (refine IdxX.o (fun q => AV.sl 5 (List.map e_api_Event q)) hF (fun x hF => ?_))
    | (refine CallX.o hF R_tidegateref05_Same (fun a h => con_tidegateref05_Same h) (fun a hF => ?_))
    | (exact ⟨_, hF, LeX.of [] rfl ⟨⟨rfl, rfl⟩, ⟨rfl, rfl⟩, ⟨rfl, rfl⟩, trivial⟩ trivial⟩)
    | (refine tidegateref05_SameAll_l1_o hF (LeX.of [] rfl ⟨⟨rfl, rfl⟩, ⟨rfl, rfl⟩, ⟨rfl, rfl⟩, trivial⟩ trivial) (fun m v hF => ?_); unfold F_tidegateref05_SameAll_l1 at hF)
    | (refine And.intro ⟨by kernel_rfl, by kernel_rfl⟩ ?_)
    | (refine EqX.mk (by first | rfl | kernel_rfl) ?_)
    | (exact RetX.o hF (by repeat' first | exact Sub.nil _ | exact Sub.refl _ | refine Sub.agg ?_ | refine Sub.tup ?_ | refine Sub.fn ?_ | exact SubL.nil | refine SubL.cons ?_ ?_ | refine Sub.sl _ ?_ | exact SubE.nil | refine SubE.cons ?_ ?_))

end Go.Proofs.Ytkbopbgcjfcjjaa
namespace Go.Proofs.Ytkbopbgcjfcjjaa
open Go.RowKit
def R_tidegatelaw05_StreamSplits (r : Bool) : AV := .bool (r)
theorem con_tidegatelaw05_StreamSplits {n : Nat} {a0 : (List T_api_Event)} {a1 : (List Int)} {r : Bool} (hF : F_tidegatelaw05_StreamSplits n a0 a1 = some r) : Con E0 true 3 [.sl 5 (List.map e_api_Event (a0)), .sl 1 (List.map aI (a1))] (R_tidegatelaw05_StreamSplits r) := by
  unfold F_tidegatelaw05_StreamSplits at hF
  refine Con.walk _ Try.func3 rfl (enters_of Try.func3 rfl rfl) rfl (Or.inr rfl) ?_
  repeat' first
    | (refine AW.step ?_; conv => whnf)
    | (refine CondX.o hF (fun hF => ?_) (fun hF => ?_))
    | (refine CondX.t ?_)
    | (refine CondX.f ?_)
    | (refine CallX.o hF R_tidegateref05_Few (fun a h => con_tidegateref05_Few h) (fun a hF => ?_))
    | (refine CallX.o hF R_tidegatelaw05_awake (fun a h => con_tidegatelaw05_awake h) (fun a hF => ?_))
    | (refine CallX.o hF R_stream_Split (fun a h => con_stream_Split h) (fun a hF => ?_))
    | (refine CallX.o hF R_tidegateref05_Split (fun a h => con_tidegateref05_Split h) (fun a hF => ?_))
    | (refine CallX.o hF R_tidegateref01_Same (fun a h => con_tidegateref01_Same h) (fun a hF => ?_))
    | (refine CallX.o hF R_tidegateref05_SameAll (fun a h => con_tidegateref05_SameAll h) (fun a hF => ?_))
    | (refine And.intro ⟨by kernel_rfl, by kernel_rfl⟩ ?_)
    | (refine EqX.mk (by first | rfl | kernel_rfl) ?_)
    | (exact RetX.o hF (by repeat' first | exact Sub.nil _ | exact Sub.refl _ | refine Sub.agg ?_ | refine Sub.tup ?_ | refine Sub.fn ?_ | exact SubL.nil | refine SubL.cons ?_ ?_ | refine Sub.sl _ ?_ | exact SubE.nil | refine SubE.cons ?_ ?_))

end Go.Proofs.Ytkbopbgcjfcjjaa
namespace Go.Proofs.Ytkbopbgcjfcjjaa
open Go.RowKit
theorem splits_con05 (l : List T_api_Event) (ks : List Int) : Con E0 true 3 [.sl 5 (l.map e_api_Event), .sl 1 (ks.map aI)] (.bool true) := con_tidegatelaw05_StreamSplits (law_splits05 l ks)
end Go.Proofs.Ytkbopbgcjfcjjaa
