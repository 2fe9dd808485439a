/- What some functions compute, over plain values. Printed by a program of mine (gen_fun.lean). Chapter 37, plain: adding a message, releasing, and what holds all along a run. Chapter 37, plain: Sorts and Conserves. Chapter 37: the contracts of the seven laws. -/
import Derived.Test.YtimkhfaddnanhaaGreatK08
import Derived.Test.YtimkhfaddnanhaaGreatK10
import Derived.Test.YtimkhfaddnanhaaGreatK12
import Derived.Test.YtimkhfaddnanhaaGreatK13
import Derived.Test.YtimkhfaddnanhaaGreatK16
set_option linter.unusedVariables false
set_option linter.unusedSimpArgs false
set_option maxRecDepth 100000
set_option maxHeartbeats 8000000
namespace Go.Proofs.YtimkhfaddnanhaaGreat
open Go.RowKit
def F_cmp_isNaN (n : Nat) (a0 : Int) : Option (Bool) :=
  some (!decide (a0 = a0))
def F_cmp_Less (n : Nat) (a0 : Int) (a1 : Int) : Option (Bool) :=
  bnd (F_cmp_isNaN n a0) fun x1 =>
  cnd (x1)
    (bnd (F_cmp_isNaN n a1) fun x2 =>
    cnd (!(x2))
      (some true)
    <| some (decide (a0 < a1)))
  <| some (decide (a0 < a1))
def F_slices_IsSorted_l1 (n : Nat) (a0 : (List Int)) (k1_0_0 : Option (Bool)) : Nat → Int → Option (Bool)
  | 0, _ => none
  | mv1_0 + 1, v1_0 =>
    cnd (decide (0 < v1_0))
      (idx a0 v1_0 fun x41 =>
      idx a0 (IntKind.wrap .i64 (v1_0 - 1)) fun x42 =>
      bnd (F_cmp_Less n x41 x42) fun x43 =>
      cnd (x43)
        (some false)
      <| F_slices_IsSorted_l1 n a0 k1_0_0 mv1_0 (IntKind.wrap .i64 (v1_0 - 1)))
    <| k1_0_0
def F_slices_IsSorted (n : Nat) (a0 : (List Int)) : Option (Bool) :=
  F_slices_IsSorted_l1 n a0
    (some true) n (IntKind.wrap .i64 ((((List.map aI (a0)).length : Nat) : Int) - 1))
def F_tidegatelaw37_ReorderSorts_l1 (n : Nat) (a1 : (List T_api_Message)) (a0 : Int) (x3 : (List T_api_Event) × (List Int) × Int) (k1_0_0 : (List T_api_Event) → (List Int) → Option (Bool)) : Nat → Int → Option (Bool)
  | 0, _ => none
  | mv1_0 + 1, v1_0 =>
    cnd (decide (v1_0 < (((List.map e_api_Event (x3.1)).length : Nat) : Int)))
      (idx x3.1 v1_0 fun x56 =>
      idx x3.2.1 (IntKind.wrap .i64 ((((List.map e_api_Message (a1)).length : Nat) : Int) - 1)) fun x57 =>
      cnd (decide (x57 < x56.fTime))
        (some false)
      <| F_tidegatelaw37_ReorderSorts_l1 n a1 a0 x3 k1_0_0 mv1_0 (IntKind.wrap .i64 (v1_0 + 1)))
    <| k1_0_0 x3.1 x3.2.1
def F_tidegatelaw37_ReorderSorts (n : Nat) (a0 : Int) (a1 : (List T_api_Message)) : Option (Bool) :=
  nzx ((4 : Int)) <| bnd (F_tidegateref37_Few n a1) fun x1 =>
  cnd (!(x1))
    (bnd (F_tidegatelaw37_awake n) fun x2 =>
    some x2)
  <| bnd (F_reorder_Run n (IntKind.wrap .i64 ((a0).tmod 4)) a1) fun x3 =>
  cnd (!decide (x3.2.2 = 0))
    (some false)
  <| cnd (!decide ((((List.map aI (x3.2.1)).length : Nat) : Int) = (((List.map e_api_Message (a1)).length : Nat) : Int)))
    (some false)
  <| bnd (F_stream_Check n x3.1) fun x4 =>
  cnd (!decide (x4 = 0))
    (some false)
  <| bnd (F_slices_IsSorted n x3.2.1) fun x5 =>
  cnd (!(x5))
    (some false)
  <| cnd (decide ((((List.map e_api_Message (a1)).length : Nat) : Int) = 0))
    (cnd (decide ((((List.map e_api_Event (x3.1)).length : Nat) : Int) = 0))
      (bnd (F_tidegatelaw37_awake n) fun x6 =>
      some x6)
    <| some false)
  <| F_tidegatelaw37_ReorderSorts_l1 n a1 a0 x3
    (fun k1_0_0y0 k1_0_0y1 => sls a1 0 (IntKind.wrap .i64 ((((List.map e_api_Message (a1)).length : Nat) : Int) - 1)) fun x49 =>
  bnd (F_reorder_Run n (IntKind.wrap .i64 ((a0).tmod 4)) x49) fun x50 =>
  cnd (decide (x50.2.2 = 0))
    (cnd (decide ((((List.map e_api_Event (x50.1)).length : Nat) : Int) ≤ (((List.map e_api_Event (k1_0_0y0)).length : Nat) : Int)))
      (sls k1_0_0y0 0 (((List.map e_api_Event (x50.1)).length : Nat) : Int) fun x51 =>
      bnd (F_tidegateref05_Same n x50.1 x51) fun x52 =>
      cnd (x52)
        (sls k1_0_0y1 0 (IntKind.wrap .i64 ((((List.map e_api_Message (a1)).length : Nat) : Int) - 1)) fun x53 =>
        bnd (F_slices_Equal_s106 n x50.2.1 x53) fun x54 =>
        cnd (x54)
          (bnd (F_tidegatelaw37_awake n) fun x55 =>
          some x55)
        <| some false)
      <| some false)
    <| some false)
  <| some false) n 0
end Go.Proofs.YtimkhfaddnanhaaGreat
namespace Go.Proofs.YtimkhfaddnanhaaGreat
open Go.RowKit
open S05

theorem relW_append : ∀ (a b : List T_api_Message) (l : List Trk) (w : List Ev), relW l w (a ++ b) = relW l w a ++ relW (finW l w a).1 (finW l w a).2 b
  | [], b, l, w => rfl
  | m :: a, b, l, w => by simp only [List.cons_append, relW, finW, List.append_assoc]; rw [relW_append a b]
theorem mksW_append : ∀ (a b : List T_api_Message) (l : List Trk) (w : List Ev), mksW l w (a ++ b) = mksW l w a ++ mksW (finW l w a).1 (finW l w a).2 b
  | [], b, l, w => rfl
  | m :: a, b, l, w => by simp only [List.cons_append, mksW, finW]; rw [mksW_append a b]
end Go.Proofs.YtimkhfaddnanhaaGreat
namespace Go.Proofs.YtimkhfaddnanhaaGreat
open Go.RowKit
open S05

theorem p_less (n : Nat) (a b : Int) : F_cmp_Less n a b = some (decide (a < b)) := by
  unfold F_cmp_Less F_cmp_isNaN
  simp only [bnd_some, decide_true, Bool.not_true, cnd_f]
theorem p_isSorted_l1 (n : Nat) (a : List Int) (hp : a.Pairwise (· ≤ ·)) (ha : a.length ≤ 1000000) : ∀ (m k : Nat), k < a.length → k < m → F_slices_IsSorted_l1 n a (some true) m (k : Int) = some true
  | 0, k, h1, h2 => by omega
  | m + 1, k, h1, h2 => by
    unfold F_slices_IsSorted_l1
    rw [cnd_if]
    by_cases h : 0 < k
    · have hle : a[k - 1] ≤ a[k] := List.pairwise_iff_getElem.1 hp (k - 1) k (by omega) h1 (by omega)
      rw [if_pos (by omega), idx_nat h1, wrap_pred' h (by omega), idx_nat (by omega : k - 1 < a.length), p_less, bnd_some, cnd_if, if_neg (by omega)]
      exact p_isSorted_l1 n a hp ha m (k - 1) (by omega) (by omega)
    · rw [if_neg (by omega)]
theorem p_isSorted (n : Nat) (a : List Int) (hp : a.Pairwise (· ≤ ·)) (ha : a.length ≤ 1000000) (hn : a.length < n) (h0 : 0 < n) : F_slices_IsSorted n a = some true := by
  unfold F_slices_IsSorted
  rw [List.length_map]
  by_cases h : a.length = 0
  · rw [h]
    obtain ⟨m, rfl⟩ : ∃ m, n = m + 1 := ⟨n - 1, by omega⟩
    unfold F_slices_IsSorted_l1
    rw [cnd_if, if_neg (by decide)]
  · rw [wrap_pred' (by omega) ha]
    exact p_isSorted_l1 n a hp ha n (a.length - 1) (by omega) (by omega)
theorem p_sorts_l1 (ms : List T_api_Message) (a0 : Int) (x : List Ev × List Int × Int) (hm : x.2.1.length = ms.length) (h0 : 0 < ms.length) (hl : x.1.length ≤ 1000) (hl2 : ms.length ≤ 1000) (K : List Ev → List Int → Option Bool) (hx : ∀ e ∈ x.1, e.fTime ≤ x.2.1[ms.length - 1]'(by omega)) : ∀ (m k : Nat), k ≤ x.1.length → x.1.length < m + k →
    F_tidegatelaw37_ReorderSorts_l1 100000 ms a0 x K m (k : Int) = K x.1 x.2.1
  | 0, k, h1, h2 => by omega
  | m + 1, k, h1, h2 => by
    unfold F_tidegatelaw37_ReorderSorts_l1
    simp only [List.length_map, cnd_if]
    by_cases h : k < x.1.length
    · have := hx _ (List.getElem_mem h)
      rw [if_pos (by omega), idx_nat h, wrap_pred' h0 (by omega), idx_nat (by omega : ms.length - 1 < x.2.1.length), if_neg (by omega), wrapS k (by omega)]
      exact p_sorts_l1 ms a0 x hm h0 hl hl2 K hx m (k + 1) (by omega) (by omega)
    · rw [if_neg (by omega)]
theorem law_sorts37 (a : Int) (h0 : 0 ≤ a) (h1 : a < 256) (ms : List T_api_Message) : F_tidegatelaw37_ReorderSorts 100000 a ms = some true := by
  unfold F_tidegatelaw37_ReorderSorts
  rw [nzx_ok (by omega), p_few37 _ ms (by omega), awake37]
  simp only [bnd_some, cnd_not]
  cases hf : few37 ms with
  | false => rw [cnd_f]
  | true =>
    simp only [cnd_t]
    obtain ⟨f1, f2⟩ := few37_out hf
    obtain ⟨w1, w2, w3⟩ := mod_wrap a 4 h0 h1 (by omega) (by omega)
    rw [w1]
    generalize a.tmod 4 = k at w2 w3 ⊢
    have hb := begin_ok37 (k := k) w2 (by omega)
    have hb2 : (beginT k).2 = 0 := by rw [hb]
    have e : ∀ ms : List T_api_Message, runP k ms = (relW (beginT k).1 [] ms, mksW (beginT k).1 [] ms, 0) := fun ms => if_neg (by rw [hb2]; simp)
    obtain ⟨o1, o2, o3⟩ := runP_out k ms (by omega) f2
    rw [e] at o1 o2 o3
    simp only at o1 o2 o3
    rw [p_run37 _ k ms (by omega) f2 (by omega), e, bnd_some]
    obtain ⟨i1, i2, i3, i4, i5, i6, i7, i8, i9, i10, _⟩ := Inv.run ms _ [] [] (inv_begin k hb2) (by simp; omega)
    simp only [List.nil_append] at i1
    have ist : Strm (relW (beginT k).1 [] ms) := i1.st.sub (List.sublist_append_left _ _)
    simp only [List.length_map, mksW_len, decide_true, cnd_t, S05.p_chk _ _ (show (relW (beginT k).1 [] ms).length < 100000 by omega) (by omega), ist.chk (by omega), bnd_some]
    rw [p_isSorted _ _ i5 (by rw [mksW_len]; omega) (by rw [mksW_len]; omega) (by omega), bnd_some, cnd_t, cnd_if]
    by_cases hz : (ms.length : Int) = 0
    · rw [if_pos hz]
      have : ms = [] := List.length_eq_zero_iff.1 (by omega)
      subst this
      simp [relW, cnd_t]
    · rw [if_neg hz]
      have hp : 0 < ms.length := by omega
      have hlm := mksW_len ms (beginT k).1 []
      have hlast : (mksW (beginT k).1 [] ms)[ms.length - 1]'(by omega) = leastOf (finW (beginT k).1 [] ms).1 := by
        apply i7
        rw [List.getLast?_eq_getElem?]
        simp only [hlm]
        exact List.getElem?_eq_getElem (by omega)
      have key : ∀ K : List Ev → List Int → Option Bool, F_tidegatelaw37_ReorderSorts_l1 100000 ms a (relW (beginT k).1 [] ms, mksW (beginT k).1 [] ms, 0) K 100000 0 = K (relW (beginT k).1 [] ms) (mksW (beginT k).1 [] ms) := fun K => by
        have := p_sorts_l1 ms a (relW (beginT k).1 [] ms, mksW (beginT k).1 [] ms, 0) hlm hp (by simp only; omega) (by omega) K (fun x hx => by
          simp only at hx ⊢
          rw [hlast]
          exact i1.soon x hx) 100000 0 (by omega) (by simp only; omega)
        simpa only [Int.natCast_zero] using this
      rw [key]
      rw [wrap_pred' hp (by omega)]
      have es : ∀ (β : Type) (K : List T_api_Message → Option β), sls ms 0 ((ms.length - 1 : Nat) : Int) K = K (ms.take (ms.length - 1)) := fun β K => by
        have := sls_ok (l := ms) (a := 0) (b := ms.length - 1) (by omega) (by omega) K
        simpa using this
      have hsplit : ms = ms.take (ms.length - 1) ++ ms.drop (ms.length - 1) := (List.take_append_drop _ _).symm
      have hR := relW_append (ms.take (ms.length - 1)) (ms.drop (ms.length - 1)) (beginT k).1 []
      have hM := mksW_append (ms.take (ms.length - 1)) (ms.drop (ms.length - 1)) (beginT k).1 []
      rw [← hsplit] at hR hM
      have htl : (ms.take (ms.length - 1)).length = ms.length - 1 := by simp
      have f2' : ∀ m ∈ ms.take (ms.length - 1), sv m.fEvent := fun m hm => f2 m (List.mem_of_mem_take hm)
      obtain ⟨p1, p2, p3⟩ := runP_out k (ms.take (ms.length - 1)) (by omega) f2'
      rw [e] at p1 p2 p3
      simp only at p1 p2 p3
      rw [es, p_run37 _ k _ (by omega) f2' (by omega), e, bnd_some]
      simp only [decide_true, cnd_t]
      have hle : (relW (beginT k).1 [] (ms.take (ms.length - 1))).length ≤ (relW (beginT k).1 [] ms).length := by rw [hR]; simp
      rw [cnd_if, if_pos (by omega)]
      have es2 := sls_ok (β := Bool) (l := relW (beginT k).1 [] ms) (a := 0) (b := (relW (beginT k).1 [] (ms.take (ms.length - 1))).length) (by omega) hle
      simp only [Int.natCast_zero, List.drop_zero] at es2
      rw [es2]
      have eR : (relW (beginT k).1 [] ms).take (relW (beginT k).1 [] (ms.take (ms.length - 1))).length = relW (beginT k).1 [] (ms.take (ms.length - 1)) := by
        rw [hR]; exact List.take_left
      rw [eR, Same_refl p1 (by omega), bnd_some, cnd_t]
      have es3 := sls_ok (β := Bool) (l := mksW (beginT k).1 [] ms) (a := 0) (b := ms.length - 1) (by omega) (by omega)
      simp only [Int.natCast_zero, List.drop_zero] at es3
      rw [es3]
      have eM : (mksW (beginT k).1 [] ms).take (ms.length - 1) = mksW (beginT k).1 [] (ms.take (ms.length - 1)) := by
        have h2 := mksW_len (ms.take (ms.length - 1)) (beginT k).1 []
        rw [htl] at h2
        rw [hM]
        conv => lhs; arg 1; rw [← h2]
        exact List.take_left
      rw [eM, p_eqI _ _ _ (by omega) (by omega)]
      simp only [decide_true, bnd_some, cnd_t]

end Go.Proofs.YtimkhfaddnanhaaGreat
namespace Go.Proofs.YtimkhfaddnanhaaGreat
open Go.RowKit
def R_cmp_isNaN (r : Bool) : AV := .bool (r)
theorem con_cmp_isNaN {n : Nat} {a0 : Int} {r : Bool} (hF : F_cmp_isNaN n a0 = some r) : Con E0 true 100 [aI (a0)] (R_cmp_isNaN r) := by
  unfold F_cmp_isNaN at hF
  refine Con.walk _ Tryz.func100 rfl (enters_of Tryz.func100 rfl rfl) rfl (Or.inr rfl) ?_
  repeat' first
    | (refine AW.step ?_; conv => whnf)
    | (refine CondX.o hF (fun hF => ?_) (fun hF => ?_))
    | (refine CondX.t ?_)
    | (refine CondX.f ?_)
    | (refine And.intro ⟨by kernel_rfl, by kernel_rfl⟩ ?_)
    | (refine EqX.mk (by first | rfl | kernel_rfl) ?_)
    | (exact RetX.o hF (by repeat' first | exact Sub.nil _ | exact Sub.refl _ | refine Sub.agg ?_ | refine Sub.tup ?_ | refine Sub.fn ?_ | exact SubL.nil | refine SubL.cons ?_ ?_ | refine Sub.sl _ ?_ | exact SubE.nil | refine SubE.cons ?_ ?_))

def R_cmp_Less (r : Bool) : AV := .bool (r)
theorem con_cmp_Less {n : Nat} {a0 : Int} {a1 : Int} {r : Bool} (hF : F_cmp_Less n a0 a1 = some r) : Con E0 true 71 [aI (a0), aI (a1)] (R_cmp_Less r) := by
  unfold F_cmp_Less at hF
  refine Con.walk _ Tryz.func71 rfl (enters_of Tryz.func71 rfl rfl) rfl (Or.inr rfl) ?_
  repeat' first
    | (refine AW.step ?_; conv => whnf)
    | (refine CondX.o hF (fun hF => ?_) (fun hF => ?_))
    | (refine CondX.t ?_)
    | (refine CondX.f ?_)
    | (refine CallX.o hF R_cmp_isNaN (fun a h => con_cmp_isNaN h) (fun a hF => ?_))
    | (refine And.intro ⟨by kernel_rfl, by kernel_rfl⟩ ?_)
    | (refine EqX.mk (by first | rfl | kernel_rfl) ?_)
    | (exact RetX.o hF (by repeat' first | exact Sub.nil _ | exact Sub.refl _ | refine Sub.agg ?_ | refine Sub.tup ?_ | refine Sub.fn ?_ | exact SubL.nil | refine SubL.cons ?_ ?_ | refine Sub.sl _ ?_ | exact SubE.nil | refine SubE.cons ?_ ?_))

def S_slices_IsSorted_l1 (a0 : (List Int)) (v1_0 : Int) : AS := ⟨[(0, .sl 1 (List.map aI (a0))), (3, aI (v1_0))], []⟩
theorem slices_IsSorted_l1_o {n N : Nat} {a0 : (List Int)} {k1_0_0 : Option (Bool)} {R : Exit → AS → Prop} {K : List KItem} {c : Code} {σ : AS} {v0 : Int} {r : Bool} (hF : F_slices_IsSorted_l1 n a0 k1_0_0 N v0 = some r) (hl : LeX E0 21 σ (S_slices_IsSorted_l1 a0 v0)) (round : ∀ m v, F_slices_IsSorted_l1 n a0 k1_0_0 (m + 1) v = some r → AW E0 21 (thenA (fun σ' => ∃ v', F_slices_IsSorted_l1 n a0 k1_0_0 m v' = some r ∧ LeX E0 21 σ' (S_slices_IsSorted_l1 a0 v')) (AW E0 21 R K)) [.code c] .normal (S_slices_IsSorted_l1 a0 v)) : LoopX E0 21 (fun next σ' => AW E0 21 (thenA next (AW E0 21 R K)) [.code c] .normal σ') σ :=
  LoopA.o (S := S_slices_IsSorted_l1 a0) hF (fun _ => rfl) hl round
def R_slices_IsSorted (r : Bool) : AV := .bool (r)
theorem con_slices_IsSorted {n : Nat} {a0 : (List Int)} {r : Bool} (hF : F_slices_IsSorted n a0 = some r) : Con E0 true 39 [.sl 1 (List.map aI (a0))] (R_slices_IsSorted r) := by
  unfold F_slices_IsSorted at hF
  refine Con.walk _ Tryz.func39 rfl (enters_of Tryz.func39 rfl rfl) rfl (Or.inr rfl) ?_
  repeat' first
    | (refine AW.step ?_; conv => whnf)
    | (refine CondX.o hF (fun hF => ?_) (fun hF => ?_))
    | (refine CondX.t ?_)
    | (refine CondX.f ?_)
    | (refine IdxX.o aI hF (fun x hF => ?_))
    | (refine CallX.o hF R_cmp_Less (fun a h => con_cmp_Less h) (fun a hF => ?_))
    | (exact ⟨_, hF, LeX.of [] rfl ⟨⟨rfl, rfl⟩, ⟨rfl, rfl⟩, trivial⟩ trivial⟩)
    | (refine slices_IsSorted_l1_o hF (LeX.of [] rfl ⟨⟨rfl, rfl⟩, ⟨rfl, rfl⟩, trivial⟩ trivial) (fun m v hF => ?_); unfold F_slices_IsSorted_l1 at hF)
    | (refine And.intro ⟨by kernel_rfl, by kernel_rfl⟩ ?_)
    | (refine EqX.mk (by first | rfl | kernel_rfl) ?_)
    | (exact RetX.o hF (by repeat' first | exact Sub.nil _ | exact Sub.refl _ | refine Sub.agg ?_ | refine Sub.tup ?_ | refine Sub.fn ?_ | exact SubL.nil | refine SubL.cons ?_ ?_ | refine Sub.sl _ ?_ | exact SubE.nil | refine SubE.cons ?_ ?_))

def S_tidegatelaw37_ReorderSorts_l1 (a1 : (List T_api_Message)) (a0 : Int) (x3 : (List T_api_Event) × (List Int) × Int) (v1_0 : Int) : AS := ⟨[(1, .sl 9 (List.map e_api_Message (a1))), (5, aI ((IntKind.wrap .i64 ((a0).tmod 4)))), (6, .sl 5 (List.map e_api_Event (x3.1))), (7, .sl 1 (List.map aI (x3.2.1))), (56, .sl 5 (List.map e_api_Event (x3.1))), (57, aI ((((List.map e_api_Event (x3.1)).length : Nat) : Int))), (58, aI (v1_0))], []⟩
theorem tidegatelaw37_ReorderSorts_l1_o {n N : Nat} {a1 : (List T_api_Message)} {a0 : Int} {x3 : (List T_api_Event) × (List Int) × Int} {k1_0_0 : (List T_api_Event) → (List Int) → Option (Bool)} {R : Exit → AS → Prop} {K : List KItem} {c : Code} {σ : AS} {v0 : Int} {r : Bool} (hF : F_tidegatelaw37_ReorderSorts_l1 n a1 a0 x3 k1_0_0 N v0 = some r) (hl : LeX E0 112 σ (S_tidegatelaw37_ReorderSorts_l1 a1 a0 x3 v0)) (round : ∀ m v, F_tidegatelaw37_ReorderSorts_l1 n a1 a0 x3 k1_0_0 (m + 1) v = some r → AW E0 112 (thenA (fun σ' => ∃ v', F_tidegatelaw37_ReorderSorts_l1 n a1 a0 x3 k1_0_0 m v' = some r ∧ LeX E0 112 σ' (S_tidegatelaw37_ReorderSorts_l1 a1 a0 x3 v')) (AW E0 112 R K)) [.code c] .normal (S_tidegatelaw37_ReorderSorts_l1 a1 a0 x3 v)) : LoopX E0 112 (fun next σ' => AW E0 112 (thenA next (AW E0 112 R K)) [.code c] .normal σ') σ :=
  LoopA.o (S := S_tidegatelaw37_ReorderSorts_l1 a1 a0 x3) hF (fun _ => rfl) hl round
def R_tidegatelaw37_ReorderSorts (r : Bool) : AV := .bool (r)
theorem con_tidegatelaw37_ReorderSorts {n : Nat} {a0 : Int} {a1 : (List T_api_Message)} {r : Bool} (hF : F_tidegatelaw37_ReorderSorts n a0 a1 = some r) : Con E0 true 9 [.int .u8 (a0), .sl 9 (List.map e_api_Message (a1))] (R_tidegatelaw37_ReorderSorts r) := by
  unfold F_tidegatelaw37_ReorderSorts at hF
  refine Con.walk _ Tryz.func9 rfl (enters_of Tryz.func9 rfl rfl) rfl (Or.inr rfl) ?_
  repeat' first
    | (refine AW.step ?_; conv => whnf)
    | (refine CondX.o hF (fun hF => ?_) (fun hF => ?_))
    | (refine CondX.t ?_)
    | (refine CondX.f ?_)
    | (refine NzX.o hF (fun hF => ?_))
    | (refine CallX.o hF R_tidegateref37_Few (fun a h => con_tidegateref37_Few h) (fun a hF => ?_))
    | (refine CallX.o hF R_tidegatelaw37_awake (fun a h => con_tidegatelaw37_awake h) (fun a hF => ?_))
    | (refine CallX.o hF R_reorder_Run (fun a h => con_reorder_Run h) (fun a hF => ?_))
    | (refine CallX.o hF R_stream_Check (fun a h => con_stream_Check h) (fun a hF => ?_))
    | (refine CallX.o hF R_slices_IsSorted (fun a h => con_slices_IsSorted h) (fun a hF => ?_))
    | (refine SlsX.o e_api_Message hF (fun l hF => ?_))
    | (refine SlsX.o e_api_Event hF (fun l hF => ?_))
    | (refine CallX.o hF R_tidegateref05_Same (fun a h => con_tidegateref05_Same h) (fun a hF => ?_))
    | (refine SlsX.o aI hF (fun l hF => ?_))
    | (refine CallX.o hF R_slices_Equal_s106 (fun a h => con_slices_Equal_s106 h) (fun a hF => ?_))
    | (refine IdxX.o e_api_Event hF (fun x hF => ?_))
    | (refine IdxX.o aI hF (fun x hF => ?_))
    | (exact ⟨_, hF, LeX.of [] rfl ⟨⟨rfl, rfl⟩, ⟨rfl, rfl⟩, ⟨rfl, rfl⟩, ⟨rfl, rfl⟩, ⟨rfl, rfl⟩, ⟨rfl, rfl⟩, ⟨rfl, rfl⟩, trivial⟩ trivial⟩)
    | (refine tidegatelaw37_ReorderSorts_l1_o hF (LeX.of [] rfl ⟨⟨rfl, rfl⟩, ⟨rfl, rfl⟩, ⟨rfl, rfl⟩, ⟨rfl, rfl⟩, ⟨rfl, rfl⟩, ⟨rfl, rfl⟩, ⟨rfl, rfl⟩, trivial⟩ trivial) (fun m v hF => ?_); unfold F_tidegatelaw37_ReorderSorts_l1 at hF)
    | (refine And.intro ⟨by kernel_rfl, by kernel_rfl⟩ ?_)
    | (refine EqX.mk (by first | rfl | kernel_rfl) ?_)
    | (exact RetX.o hF (by repeat' first | exact Sub.nil _ | exact Sub.refl _ | refine Sub.agg ?_ | refine Sub.tup ?_ | refine Sub.fn ?_ | exact SubL.nil | refine SubL.cons ?_ ?_ | refine Sub.sl _ ?_ | exact SubE.nil | refine SubE.cons ?_ ?_))

end Go.Proofs.YtimkhfaddnanhaaGreat
namespace Go.Proofs.YtimkhfaddnanhaaGreat
open Go.RowKit
theorem sorts_con37 (a : Nat) (h : a ≤ 255) (l : List T_api_Message) : Con E0 true 9 [.int .u8 a, .sl 9 (l.map e_api_Message)] (.bool true) := con_tidegatelaw37_ReorderSorts (law_sorts37 a (by omega) (by omega) l)
end Go.Proofs.YtimkhfaddnanhaaGreat
