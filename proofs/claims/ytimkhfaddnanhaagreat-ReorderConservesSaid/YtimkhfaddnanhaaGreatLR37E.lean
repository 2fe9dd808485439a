/- What some functions compute, over plain values. Printed by a program of mine (gen_fun.lean). Chapter 37, plain: Sorts and Conserves. Chapter 37: the contracts of the seven laws. -/
import Derived.Test.YtimkhfaddnanhaaGreatK08
import Derived.Test.YtimkhfaddnanhaaGreatK10
import Derived.Test.YtimkhfaddnanhaaGreatK13
import Derived.Test.YtimkhfaddnanhaaGreatK16
set_option linter.unusedVariables false
set_option linter.unusedSimpArgs false
set_option maxRecDepth 100000
set_option maxHeartbeats 8000000
namespace Go.Proofs.YtimkhfaddnanhaaGreat
open Go.RowKit
def F_tidegatelaw37_ReorderConserves_1 (n : Nat) (a0 : T_api_Event) (a1 : Int) : Option (Bool) :=
  some (decide (a1 < a0.fTime))
def F_slices_IndexFunc_l1 (n : Nat) (a1c0 : Int) (a0 : (List T_api_Event)) (k1_0_0 : Option (Int)) : Nat → Int → Option (Int)
  | 0, _ => none
  | mv1_0 + 1, v1_0 =>
    cnd (decide (v1_0 < (((List.map e_api_Event (a0)).length : Nat) : Int)))
      (idx a0 v1_0 fun x41 =>
      bnd (F_tidegatelaw37_ReorderConserves_1 n x41 a1c0) fun x42 =>
      cnd (x42)
        (some v1_0)
      <| F_slices_IndexFunc_l1 n a1c0 a0 k1_0_0 mv1_0 (IntKind.wrap .i64 (v1_0 + 1)))
    <| k1_0_0
def F_slices_IndexFunc (n : Nat) (a0 : (List T_api_Event)) (a1c0 : Int) : Option (Int) :=
  F_slices_IndexFunc_l1 n a1c0 a0
    (some (-1)) n 0
def F_slices_ContainsFunc (n : Nat) (a0 : (List T_api_Event)) (a1c0 : Int) : Option (Bool) :=
  bnd (F_slices_IndexFunc n a0 a1c0) fun x1 =>
  some (decide (0 ≤ x1))
def F_tidegatelaw37_ReorderConserves_2 (n : Nat) (a0 : T_api_Event) (a1 : Int) : Option (Bool) :=
  some (decide (a0.fTime ≤ a1))
def F_slices_IndexFunc_s119_l1 (n : Nat) (a1c0 : Int) (a0 : (List T_api_Event)) (k1_0_0 : Option (Int)) : Nat → Int → Option (Int)
  | 0, _ => none
  | mv1_0 + 1, v1_0 =>
    cnd (decide (v1_0 < (((List.map e_api_Event (a0)).length : Nat) : Int)))
      (idx a0 v1_0 fun x41 =>
      bnd (F_tidegatelaw37_ReorderConserves_2 n x41 a1c0) fun x42 =>
      cnd (x42)
        (some v1_0)
      <| F_slices_IndexFunc_s119_l1 n a1c0 a0 k1_0_0 mv1_0 (IntKind.wrap .i64 (v1_0 + 1)))
    <| k1_0_0
def F_slices_IndexFunc_s119 (n : Nat) (a0 : (List T_api_Event)) (a1c0 : Int) : Option (Int) :=
  F_slices_IndexFunc_s119_l1 n a1c0 a0
    (some (-1)) n 0
def F_slices_ContainsFunc_s119 (n : Nat) (a0 : (List T_api_Event)) (a1c0 : Int) : Option (Bool) :=
  bnd (F_slices_IndexFunc_s119 n a0 a1c0) fun x1 =>
  some (decide (0 ≤ x1))
def F_tidegatelaw37_ReorderConserves_l1 (n : Nat) (a1 : (List T_api_Message)) (k1_0_0 : Option (Bool)) : Nat → (List Trk) × (List T_api_Event) × Int → Option (Bool)
  | 0, _ => none
  | mv1_0 + 1, v1_0 =>
    cnd (decide (v1_0.2.2 < (((List.map e_api_Message (a1)).length : Nat) : Int)))
      (idx a1 v1_0.2.2 fun x46 =>
      bnd (F_watermark_Receive n v1_0.1 x46) fun x47 =>
      bnd (F_reorder_Add n v1_0.1 v1_0.2.1 x46) fun x48 =>
      cnd (!decide (x47.2.2 = x48.2.2))
        (some false)
      <| cnd (!decide (x48.2.2 = 0))
        (F_tidegatelaw37_ReorderConserves_l1 n a1 k1_0_0 mv1_0 (v1_0.1, v1_0.2.1, (IntKind.wrap .i64 (v1_0.2.2 + 1))))
      <| cnd (!(x47.2.1 == (decide ((((List.map e_api_Event (x48.2.1)).length : Nat) : Int) = (IntKind.wrap .i64 ((((List.map e_api_Event (v1_0.2.1)).length : Nat) : Int) + 1))))))
        (some false)
      <| cnd (!(x47.2.1))
        (bnd (F_tidegateref05_Same n x48.2.1 v1_0.2.1) fun x49 =>
        cnd (!(x49))
          (some false)
        <| cnd (x47.2.1)
          (bnd (F_tidegateref05_Has n x48.2.1 x46.fEvent) fun x50 =>
          cnd (!(x50))
            (some false)
          <| bnd (F_reorder_Release n x48.1 x48.2.1) fun x51 =>
          bnd (F_watermark_Global n x48.1) fun x52 =>
          cnd (!decide (x51.2.2 = 0))
            (some false)
          <| cnd (!decide (x52.2 = 0))
            (some false)
          <| bndR (F_clone n x51.1) fun x53 =>
          app x53 x51.2.1 56 fun x54 =>
          bnd (F_tidegateref05_Same n x54 x48.2.1) fun x55 =>
          cnd (!(x55))
            (some false)
          <| bnd (F_slices_ContainsFunc n x51.1 x52.1) fun x56 =>
          cnd (x56)
            (some false)
          <| bnd (F_slices_ContainsFunc_s119 n x51.2.1 x52.1) fun x57 =>
          cnd (x57)
            (some false)
          <| F_tidegatelaw37_ReorderConserves_l1 n a1 k1_0_0 mv1_0 (x48.1, x51.2.1, (IntKind.wrap .i64 (v1_0.2.2 + 1))))
        <| bnd (F_reorder_Release n x48.1 x48.2.1) fun x58 =>
        bnd (F_watermark_Global n x48.1) fun x59 =>
        cnd (!decide (x58.2.2 = 0))
          (some false)
        <| cnd (!decide (x59.2 = 0))
          (some false)
        <| bndR (F_clone n x58.1) fun x60 =>
        app x60 x58.2.1 56 fun x61 =>
        bnd (F_tidegateref05_Same n x61 x48.2.1) fun x62 =>
        cnd (!(x62))
          (some false)
        <| bnd (F_slices_ContainsFunc n x58.1 x59.1) fun x63 =>
        cnd (x63)
          (some false)
        <| bnd (F_slices_ContainsFunc_s119 n x58.2.1 x59.1) fun x64 =>
        cnd (x64)
          (some false)
        <| F_tidegatelaw37_ReorderConserves_l1 n a1 k1_0_0 mv1_0 (x48.1, x58.2.1, (IntKind.wrap .i64 (v1_0.2.2 + 1))))
      <| cnd (x47.2.1)
        (bnd (F_tidegateref05_Has n x48.2.1 x46.fEvent) fun x65 =>
        cnd (!(x65))
          (some false)
        <| bnd (F_reorder_Release n x48.1 x48.2.1) fun x66 =>
        bnd (F_watermark_Global n x48.1) fun x67 =>
        cnd (!decide (x66.2.2 = 0))
          (some false)
        <| cnd (!decide (x67.2 = 0))
          (some false)
        <| bndR (F_clone n x66.1) fun x68 =>
        app x68 x66.2.1 56 fun x69 =>
        bnd (F_tidegateref05_Same n x69 x48.2.1) fun x70 =>
        cnd (!(x70))
          (some false)
        <| bnd (F_slices_ContainsFunc n x66.1 x67.1) fun x71 =>
        cnd (x71)
          (some false)
        <| bnd (F_slices_ContainsFunc_s119 n x66.2.1 x67.1) fun x72 =>
        cnd (x72)
          (some false)
        <| F_tidegatelaw37_ReorderConserves_l1 n a1 k1_0_0 mv1_0 (x48.1, x66.2.1, (IntKind.wrap .i64 (v1_0.2.2 + 1))))
      <| bnd (F_reorder_Release n x48.1 x48.2.1) fun x73 =>
      bnd (F_watermark_Global n x48.1) fun x74 =>
      cnd (!decide (x73.2.2 = 0))
        (some false)
      <| cnd (!decide (x74.2 = 0))
        (some false)
      <| bndR (F_clone n x73.1) fun x75 =>
      app x75 x73.2.1 56 fun x76 =>
      bnd (F_tidegateref05_Same n x76 x48.2.1) fun x77 =>
      cnd (!(x77))
        (some false)
      <| bnd (F_slices_ContainsFunc n x73.1 x74.1) fun x78 =>
      cnd (x78)
        (some false)
      <| bnd (F_slices_ContainsFunc_s119 n x73.2.1 x74.1) fun x79 =>
      cnd (x79)
        (some false)
      <| F_tidegatelaw37_ReorderConserves_l1 n a1 k1_0_0 mv1_0 (x48.1, x73.2.1, (IntKind.wrap .i64 (v1_0.2.2 + 1))))
    <| k1_0_0
def F_tidegatelaw37_ReorderConserves (n : Nat) (a0 : Int) (a1 : (List T_api_Message)) : Option (Bool) :=
  nzx ((4 : Int)) <| bnd (F_reorder_Begin n (IntKind.wrap .i64 ((a0).tmod 4))) fun x1 =>
  bnd (F_tidegateref37_Few n a1) fun x2 =>
  cnd (!(x2))
    (cnd (decide (x1.2 = 0))
      (bnd (F_tidegatelaw37_awake n) fun x3 =>
      some x3)
    <| some false)
  <| cnd (!decide (x1.2 = 0))
    (cnd (decide (x1.2 = 0))
      (bnd (F_tidegatelaw37_awake n) fun x4 =>
      some x4)
    <| some false)
  <| F_tidegatelaw37_ReorderConserves_l1 n a1
    (bnd (F_tidegatelaw37_awake n) fun x45 =>
  some x45) n (x1.1, [], 0)
end Go.Proofs.YtimkhfaddnanhaaGreat
namespace Go.Proofs.YtimkhfaddnanhaaGreat
open Go.RowKit
open S05

theorem p_contL_l1 (n : Nat) (g : Int) (l : List Ev) (hx : ∀ x ∈ l, x.fTime ≤ g) (hl : l.length ≤ 1000000) : ∀ (m k : Nat), k ≤ l.length → l.length < m + k → F_slices_IndexFunc_l1 n g l (some (-1)) m (k : Int) = some (-1)
  | 0, k, h1, h2 => by omega
  | m + 1, k, h1, h2 => by
    unfold F_slices_IndexFunc_l1 F_tidegatelaw37_ReorderConserves_1
    simp only [List.length_map, cnd_if, bnd_some]
    by_cases h : k < l.length
    · have := hx _ (List.getElem_mem h)
      rw [if_pos (by omega), idx_nat h, if_neg (by omega), wrapS k (by omega)]
      exact p_contL_l1 n g l hx hl m (k + 1) (by omega) (by omega)
    · rw [if_neg (by omega)]
theorem p_contL (n : Nat) (g : Int) (l : List Ev) (hx : ∀ x ∈ l, x.fTime ≤ g) (hl : l.length ≤ 1000000) (hn : l.length < n) : F_slices_ContainsFunc n l g = some false := by
  unfold F_slices_ContainsFunc F_slices_IndexFunc
  have := p_contL_l1 n g l hx hl n 0 (by omega) (by omega)
  simp only [Int.natCast_zero] at this
  rw [this, bnd_some]; rfl
theorem p_contG_l1 (n : Nat) (g : Int) (l : List Ev) (hx : ∀ x ∈ l, g < x.fTime) (hl : l.length ≤ 1000000) : ∀ (m k : Nat), k ≤ l.length → l.length < m + k → F_slices_IndexFunc_s119_l1 n g l (some (-1)) m (k : Int) = some (-1)
  | 0, k, h1, h2 => by omega
  | m + 1, k, h1, h2 => by
    unfold F_slices_IndexFunc_s119_l1 F_tidegatelaw37_ReorderConserves_2
    simp only [List.length_map, cnd_if, bnd_some]
    by_cases h : k < l.length
    · have := hx _ (List.getElem_mem h)
      rw [if_pos (by omega), idx_nat h, if_neg (by omega), wrapS k (by omega)]
      exact p_contG_l1 n g l hx hl m (k + 1) (by omega) (by omega)
    · rw [if_neg (by omega)]
theorem p_contG (n : Nat) (g : Int) (l : List Ev) (hx : ∀ x ∈ l, g < x.fTime) (hl : l.length ≤ 1000000) (hn : l.length < n) : F_slices_ContainsFunc_s119 n l g = some false := by
  unfold F_slices_ContainsFunc_s119 F_slices_IndexFunc_s119
  have := p_contG_l1 n g l hx hl n 0 (by omega) (by omega)
  simp only [Int.natCast_zero] at this
  rw [this, bnd_some]; rfl
theorem p_cons_l1 (ms : List T_api_Message) (hms : ms.length ≤ 100) (hsv : ∀ m ∈ ms, sv m.fEvent) : ∀ (f k : Nat) (l : List Trk) (w R : List Ev), k ≤ ms.length → ms.length < f + k → Inv l w R → (∀ x ∈ w, sv x) → w.length ≤ k → F_tidegatelaw37_ReorderConserves_l1 100000 ms (some true) f (l, w, (k : Int)) = some true
  | 0, k, l, w, R, h1, h2, hi, hv, h3 => by omega
  | f + 1, k, l, w, R, h1, h2, hi, hv, h3 => by
    unfold F_tidegatelaw37_ReorderConserves_l1
    simp only [List.length_map]
    rw [cnd_if]
    by_cases h : k < ms.length
    · have hm := hsv _ (List.getElem_mem h)
      obtain ⟨s1, s2, s3⟩ := hi.step ms[k] (by omega)
      rw [if_pos (by omega), idx_nat h, p_Receive _ l _ (by omega), bnd_some, recv_eq hi.check, p_add37 _ l w _ hv hm (by omega) (by omega), bnd_some, s1]
      simp only [decide_true, Bool.not_true, cnd_f]
      rw [wrapS k (by omega), cnd_not, cnd_if]
      by_cases h0 : (stepT l ms[k]).2.2 = 0
      · obtain ⟨e1, e2⟩ := s2 h0
        obtain ⟨n1, n2, n3, n4, n5, n6⟩ := hi.next ms[k] (by omega)
        obtain ⟨q1, q2, q5, q3, q4⟩ := p_rel_next 100000 hi ms[k] hv hm (by omega) (by omega)
        have enx : nxt l w ms[k] = ((addS l w ms[k]).1, (addS l w ms[k]).2.1) := by rw [hi.nxtE _ (by omega), if_pos (by rw [s1]; exact h0)]
        have hnw := news_len l ms[k]
        have hlw : (addS l w ms[k]).2.1.length ≤ w.length + 1 := by rw [enx] at n5; simp only at n5; omega
        have hvw : ∀ x ∈ (addS l w ms[k]).2.1, sv x := by have := nxt_sv (l := l) (m := ms[k]) hv hm; rw [enx] at this; exact this
        have ih := p_cons_l1 ms hms hsv f (k + 1) _ _ _ (by omega) (by omega) n1 q3 (by omega)
        have hg : (finW l w []).1 = l := rfl
        have wok : wCheck (addS l w ms[k]).1 = 0 := by have := n1.check; rw [enx] at this; exact this
        rw [enx] at q2 q5 ih q4
        simp only at q2 q5 ih q4
        have hlate := n1.late
        have hsoon := n1.soon
        rw [enx] at hlate hsoon
        simp only at hlate hsoon
        have hor := out_rst ((addS l w ms[k]).1, (addS l w ms[k]).2.1)
        simp only at hor
        have tail : (bnd (F_reorder_Release 100000 (addS l w ms[k]).1 (addS l w ms[k]).2.1) fun x66 => bnd (F_watermark_Global 100000 (addS l w ms[k]).1) fun x67 => cnd (!decide (x66.2.2 = 0)) (some false) <| cnd (!decide (x67.2 = 0)) (some false) <| bndR (F_clone 100000 x66.1) fun x68 => app x68 x66.2.1 56 fun x69 =>
            bnd (F_tidegateref05_Same 100000 x69 (addS l w ms[k]).2.1) fun x70 => cnd (!(x70)) (some false) <| bnd (F_slices_ContainsFunc 100000 x66.1 x67.1) fun x71 => cnd (x71) (some false) <| bnd (F_slices_ContainsFunc_s119 100000 x66.2.1 x67.1) fun x72 => cnd (x72) (some false) <|
            F_tidegatelaw37_ReorderConserves_l1 100000 ms (some true) f ((addS l w ms[k]).1, x66.2.1, ((k + 1 : Nat) : Int))) = some true := by
          rw [p_Release37 _ _ _ hvw (by omega) (by omega), q5, bnd_some, p_global _ _ (by omega), q2, bnd_some]
          simp only [decide_true, Bool.not_true, cnd_f]
          unfold F_clone
          rw [if_pos (by omega), bndR_some, app_ok (by omega) (by omega), hor, Same_refl hvw (by omega), bnd_some, Bool.not_true, cnd_f,
            p_contL _ _ _ (fun x hx => hsoon x (by simp [hx])) (by omega) (by omega), bnd_some, cnd_f, p_contG _ _ _ hlate (by omega) (by omega), bnd_some, cnd_f]
          exact ih
        rw [if_pos h0]
        cases hf : (stepT l ms[k]).2.1 with
        | false =>
          rw [hf, if_neg (by simp)] at e2
          rw [e2] at tail ⊢
          have : ¬ ((w.length : Int) = IntKind.wrap .i64 ((w.length : Int) + 1)) := by rw [wrapS _ (by omega)]; omega
          rw [decide_eq_false this]
          simp only [beq_self_eq_true, Bool.not_true, Bool.not_false, cnd_f, cnd_t]
          rw [Same_refl hv (by omega), bnd_some, Bool.not_true, cnd_f]
          exact tail
        | true =>
          rw [hf, if_pos rfl] at e2
          have hlp : (addS l w ms[k]).2.1.length = w.length + 1 := by rw [e2, putR_length]
          have : (((addS l w ms[k]).2.1.length : Int) = IntKind.wrap .i64 ((w.length : Int) + 1)) := by rw [wrapS _ (by omega)]; omega
          rw [decide_eq_true this]
          simp only [beq_self_eq_true, Bool.not_true, cnd_f, cnd_t]
          rw [S05.p_has _ _ (fun x hx => (hvw x hx).few (by omega)) _ (by omega) (by omega), bnd_some, decide_eq_true (by rw [e2]; exact mem_putR.2 (Or.inl rfl)), Bool.not_true, cnd_f]
          exact tail
      · rw [if_neg h0]
        exact p_cons_l1 ms hms hsv f (k + 1) l w R (by omega) (by omega) hi hv (by omega)
    · rw [if_neg (by omega)]
theorem law_conserves37 (a : Int) (h0 : 0 ≤ a) (h1 : a < 256) (ms : List T_api_Message) : F_tidegatelaw37_ReorderConserves 100000 a ms = some true := by
  unfold F_tidegatelaw37_ReorderConserves F_reorder_Begin
  obtain ⟨w1, w2, w3⟩ := mod_wrap a 4 h0 h1 (by omega) (by omega)
  rw [nzx_ok (by omega), w1]
  generalize a.tmod 4 = k at w2 w3 ⊢
  have hb := begin_ok37 (k := k) w2 (by omega)
  rw [p_begin _ k (by omega), p_few37 _ ms (by omega), awake37, hb]
  simp only [bnd_some, cnd_not, decide_true, cnd_t]
  cases hf : few37 ms with
  | false => rw [cnd_f]
  | true =>
    rw [cnd_t]
    obtain ⟨f1, f2⟩ := few37_out hf
    have hi := inv_begin k (by rw [hb])
    rw [hb] at hi
    have := p_cons_l1 ms (by omega) f2 100000 0 _ [] [] (by omega) (by omega) hi (by simp) (by simp)
    simpa using this
end Go.Proofs.YtimkhfaddnanhaaGreat
namespace Go.Proofs.YtimkhfaddnanhaaGreat
open Go.RowKit
set_option maxHeartbeats 400000 in
theorem clone34_any (l : List (Cel 5)) (S : Nat → Prop) (v : Value) (w : World) (h : Sl w S 5 encC v l) (hl : l.length ≤ 1000000000) :
    Calls Tryz.prog 34 #[v] w (RetOwn 26 5 encC l w) := by
  have eok : EOk Tryz.prog 23 26 5 56 (encC (n := 5)) := eokC (sz := 5) tyOk23 rfl tyOk26 (by omega) rfl
  obtain ⟨A, c, rfl, hc, _⟩ := h.form
  have hq := fun (W : World) => Lib.run_eql_slice_nil W 23 26 A l.length c 0 0 Tryz.underlying23
  have H := hide h
  cases A with
  | none =>
    have h0 : l = [] := h.none_nil
    subst h0
    clear h H hl hc
    simp only [List.length_nil, Option.isNone_none] at hq ⊢
    go_enter Tryz.func34, Tryz.ntmps34
    go_wp2
    go_ret
    exact ⟨none, 0, rfl, Own.nil_, by go_grown⟩
  | some ad =>
    clear h
    go_enter Tryz.func34, Tryz.ntmps34
    go_wp2_with (at_builtin; refine wpList_append_sl rfl _ _ rfl eok rfl Own.made_ rfl (H.out.alloc _) (by simp; omega) (by omega) (by simp) ?_; intro A' c' w1 ho hg _)
    go_ret
    exact ⟨A', c', rfl, ho, (Own.made_ (sz := 5) (enc := encC (n := 5))).grown ((Below.refl _ _).alloc (Nat.le_refl _) _) (Nat.le_refl _) (by simp) hg⟩
theorem conT_clone34 {n : Nat} {a r : List T_api_Event} (hF : F_clone n a = some r) : ConT E0 34 [.sl 5 (List.map e_api_Event a)] 26 5 (List.map e_api_Event r) (.row 0) := clone_gen rfl (enters_of Tryz.func34 rfl rfl) clone34_any hF
def R_tidegatelaw37_ReorderConserves_1 (r : Bool) : AV := .bool (r)
theorem con_tidegatelaw37_ReorderConserves_1 {n : Nat} {a0 : T_api_Event} {a1 : Int} {r : Bool} (hF : F_tidegatelaw37_ReorderConserves_1 n a0 a1 = some r) : Con E0 true 36 [.agg [aI (a0.fSource), aI (a0.fSeq), aI (a0.fType), aI (a0.fTime), .sl 3 (List.map e_api_Value (a0.fValues))], .ref [aI (a1)]] (R_tidegatelaw37_ReorderConserves_1 r) := by
  unfold F_tidegatelaw37_ReorderConserves_1 at hF
  refine Con.walk _ Tryz.func36 rfl (enters_of Tryz.func36 rfl rfl) rfl (Or.inr rfl) ?_
  repeat' first
    | (refine AW.step ?_; conv => whnf)
    | (refine CondX.o hF (fun hF => ?_) (fun hF => ?_))
    | (refine CondX.t ?_)
    | (refine CondX.f ?_)
    | (refine And.intro ⟨by kernel_rfl, by kernel_rfl⟩ ?_)
    | (refine EqX.mk (by first | rfl | kernel_rfl) ?_)
    | (exact RetX.o hF (by repeat' first | exact Sub.nil _ | exact Sub.refl _ | refine Sub.agg ?_ | refine Sub.tup ?_ | refine Sub.fn ?_ | exact SubL.nil | refine SubL.cons ?_ ?_ | refine Sub.sl _ ?_ | exact SubE.nil | refine SubE.cons ?_ ?_))

def S_slices_IndexFunc_l1 (a1c0 : Int) (a0 : (List T_api_Event)) (v1_0 : Int) : AS := ⟨[(0, .sl 5 (List.map e_api_Event (a0))), (1, .fn 36 [.ref [aI (a1c0)]]), (7, aI ((((List.map e_api_Event (a0)).length : Nat) : Int))), (8, aI (v1_0))], []⟩
theorem slices_IndexFunc_l1_o {n N : Nat} {a1c0 : Int} {a0 : (List T_api_Event)} {k1_0_0 : Option (Int)} {R : Exit → AS → Prop} {K : List KItem} {c : Code} {σ : AS} {v0 : Int} {r : Int} (hF : F_slices_IndexFunc_l1 n a1c0 a0 k1_0_0 N v0 = some r) (hl : LeX E0 19 σ (S_slices_IndexFunc_l1 a1c0 a0 v0)) (round : ∀ m v, F_slices_IndexFunc_l1 n a1c0 a0 k1_0_0 (m + 1) v = some r → AW E0 19 (thenA (fun σ' => ∃ v', F_slices_IndexFunc_l1 n a1c0 a0 k1_0_0 m v' = some r ∧ LeX E0 19 σ' (S_slices_IndexFunc_l1 a1c0 a0 v')) (AW E0 19 R K)) [.code c] .normal (S_slices_IndexFunc_l1 a1c0 a0 v)) : LoopX E0 19 (fun next σ' => AW E0 19 (thenA next (AW E0 19 R K)) [.code c] .normal σ') σ :=
  LoopA.o (S := S_slices_IndexFunc_l1 a1c0 a0) hF (fun _ => rfl) hl round
def R_slices_IndexFunc (r : Int) : AV := aI (r)
theorem con_slices_IndexFunc {n : Nat} {a0 : (List T_api_Event)} {a1c0 : Int} {r : Int} (hF : F_slices_IndexFunc n a0 a1c0 = some r) : Con E0 true 67 [.sl 5 (List.map e_api_Event (a0)), .fn 36 [.ref [aI (a1c0)]]] (R_slices_IndexFunc r) := by
  unfold F_slices_IndexFunc at hF
  refine Con.walk _ Tryz.func67 rfl (enters_of Tryz.func67 rfl rfl) rfl (Or.inr rfl) ?_
  repeat' first
    | (refine AW.step ?_; conv => whnf)
    | (refine CondX.o hF (fun hF => ?_) (fun hF => ?_))
    | (refine CondX.t ?_)
    | (refine CondX.f ?_)
    | (refine IdxX.o e_api_Event hF (fun x hF => ?_))
    | (refine CallX.o hF R_tidegatelaw37_ReorderConserves_1 (fun a h => con_tidegatelaw37_ReorderConserves_1 h) (fun a hF => ?_))
    | (exact ⟨_, hF, LeX.of [] rfl ⟨⟨rfl, rfl⟩, ⟨rfl, rfl⟩, ⟨rfl, rfl⟩, ⟨rfl, rfl⟩, trivial⟩ trivial⟩)
    | (refine slices_IndexFunc_l1_o hF (LeX.of [] rfl ⟨⟨rfl, rfl⟩, ⟨rfl, rfl⟩, ⟨rfl, rfl⟩, ⟨rfl, rfl⟩, trivial⟩ trivial) (fun m v hF => ?_); unfold F_slices_IndexFunc_l1 at hF)
    | (refine And.intro ⟨by kernel_rfl, by kernel_rfl⟩ ?_)
    | (refine EqX.mk (by first | rfl | kernel_rfl) ?_)
    | (exact RetX.o hF (by repeat' first | exact Sub.nil _ | exact Sub.refl _ | refine Sub.agg ?_ | refine Sub.tup ?_ | refine Sub.fn ?_ | exact SubL.nil | refine SubL.cons ?_ ?_ | refine Sub.sl _ ?_ | exact SubE.nil | refine SubE.cons ?_ ?_))

def R_slices_ContainsFunc (r : Bool) : AV := .bool (r)
theorem con_slices_ContainsFunc {n : Nat} {a0 : (List T_api_Event)} {a1c0 : Int} {r : Bool} (hF : F_slices_ContainsFunc n a0 a1c0 = some r) : Con E0 true 35 [.sl 5 (List.map e_api_Event (a0)), .fn 36 [.ref [aI (a1c0)]]] (R_slices_ContainsFunc r) := by
  unfold F_slices_ContainsFunc at hF
  refine Con.walk _ Tryz.func35 rfl (enters_of Tryz.func35 rfl rfl) rfl (Or.inr rfl) ?_
  repeat' first
    | (refine AW.step ?_; conv => whnf)
    | (refine CondX.o hF (fun hF => ?_) (fun hF => ?_))
    | (refine CondX.t ?_)
    | (refine CondX.f ?_)
    | (refine CallX.o hF R_slices_IndexFunc (fun a h => con_slices_IndexFunc h) (fun a hF => ?_))
    | (refine And.intro ⟨by kernel_rfl, by kernel_rfl⟩ ?_)
    | (refine EqX.mk (by first | rfl | kernel_rfl) ?_)
    | (exact RetX.o hF (by repeat' first | exact Sub.nil _ | exact Sub.refl _ | refine Sub.agg ?_ | refine Sub.tup ?_ | refine Sub.fn ?_ | exact SubL.nil | refine SubL.cons ?_ ?_ | refine Sub.sl _ ?_ | exact SubE.nil | refine SubE.cons ?_ ?_))

def R_tidegatelaw37_ReorderConserves_2 (r : Bool) : AV := .bool (r)
theorem con_tidegatelaw37_ReorderConserves_2 {n : Nat} {a0 : T_api_Event} {a1 : Int} {r : Bool} (hF : F_tidegatelaw37_ReorderConserves_2 n a0 a1 = some r) : Con E0 true 37 [.agg [aI (a0.fSource), aI (a0.fSeq), aI (a0.fType), aI (a0.fTime), .sl 3 (List.map e_api_Value (a0.fValues))], .ref [aI (a1)]] (R_tidegatelaw37_ReorderConserves_2 r) := by
  unfold F_tidegatelaw37_ReorderConserves_2 at hF
  refine Con.walk _ Tryz.func37 rfl (enters_of Tryz.func37 rfl rfl) rfl (Or.inr rfl) ?_
  repeat' first
    | (refine AW.step ?_; conv => whnf)
    | (refine CondX.o hF (fun hF => ?_) (fun hF => ?_))
    | (refine CondX.t ?_)
    | (refine CondX.f ?_)
    | (refine And.intro ⟨by kernel_rfl, by kernel_rfl⟩ ?_)
    | (refine EqX.mk (by first | rfl | kernel_rfl) ?_)
    | (exact RetX.o hF (by repeat' first | exact Sub.nil _ | exact Sub.refl _ | refine Sub.agg ?_ | refine Sub.tup ?_ | refine Sub.fn ?_ | exact SubL.nil | refine SubL.cons ?_ ?_ | refine Sub.sl _ ?_ | exact SubE.nil | refine SubE.cons ?_ ?_))

def S_slices_IndexFunc_s119_l1 (a1c0 : Int) (a0 : (List T_api_Event)) (v1_0 : Int) : AS := ⟨[(0, .sl 5 (List.map e_api_Event (a0))), (1, .fn 37 [.ref [aI (a1c0)]]), (7, aI ((((List.map e_api_Event (a0)).length : Nat) : Int))), (8, aI (v1_0))], []⟩
theorem slices_IndexFunc_s119_l1_o {n N : Nat} {a1c0 : Int} {a0 : (List T_api_Event)} {k1_0_0 : Option (Int)} {R : Exit → AS → Prop} {K : List KItem} {c : Code} {σ : AS} {v0 : Int} {r : Int} (hF : F_slices_IndexFunc_s119_l1 n a1c0 a0 k1_0_0 N v0 = some r) (hl : LeX E0 19 σ (S_slices_IndexFunc_s119_l1 a1c0 a0 v0)) (round : ∀ m v, F_slices_IndexFunc_s119_l1 n a1c0 a0 k1_0_0 (m + 1) v = some r → AW E0 19 (thenA (fun σ' => ∃ v', F_slices_IndexFunc_s119_l1 n a1c0 a0 k1_0_0 m v' = some r ∧ LeX E0 19 σ' (S_slices_IndexFunc_s119_l1 a1c0 a0 v')) (AW E0 19 R K)) [.code c] .normal (S_slices_IndexFunc_s119_l1 a1c0 a0 v)) : LoopX E0 19 (fun next σ' => AW E0 19 (thenA next (AW E0 19 R K)) [.code c] .normal σ') σ :=
  LoopA.o (S := S_slices_IndexFunc_s119_l1 a1c0 a0) hF (fun _ => rfl) hl round
def R_slices_IndexFunc_s119 (r : Int) : AV := aI (r)
theorem con_slices_IndexFunc_s119 {n : Nat} {a0 : (List T_api_Event)} {a1c0 : Int} {r : Int} (hF : F_slices_IndexFunc_s119 n a0 a1c0 = some r) : Con E0 true 67 [.sl 5 (List.map e_api_Event (a0)), .fn 37 [.ref [aI (a1c0)]]] (R_slices_IndexFunc_s119 r) := by
  unfold F_slices_IndexFunc_s119 at hF
  refine Con.walk _ Tryz.func67 rfl (enters_of Tryz.func67 rfl rfl) rfl (Or.inr rfl) ?_
  repeat' first
    | (refine AW.step ?_; conv => whnf)
    | (refine CondX.o hF (fun hF => ?_) (fun hF => ?_))
    | (refine CondX.t ?_)
    | (refine CondX.f ?_)
    | (refine IdxX.o e_api_Event hF (fun x hF => ?_))
    | (refine CallX.o hF R_tidegatelaw37_ReorderConserves_2 (fun a h => con_tidegatelaw37_ReorderConserves_2 h) (fun a hF => ?_))
    | (exact ⟨_, hF, LeX.of [] rfl ⟨⟨rfl, rfl⟩, ⟨rfl, rfl⟩, ⟨rfl, rfl⟩, ⟨rfl, rfl⟩, trivial⟩ trivial⟩)
    | (refine slices_IndexFunc_s119_l1_o hF (LeX.of [] rfl ⟨⟨rfl, rfl⟩, ⟨rfl, rfl⟩, ⟨rfl, rfl⟩, ⟨rfl, rfl⟩, trivial⟩ trivial) (fun m v hF => ?_); unfold F_slices_IndexFunc_s119_l1 at hF)
    | (refine And.intro ⟨by kernel_rfl, by kernel_rfl⟩ ?_)
    | (refine EqX.mk (by first | rfl | kernel_rfl) ?_)
    | (exact RetX.o hF (by repeat' first | exact Sub.nil _ | exact Sub.refl _ | refine Sub.agg ?_ | refine Sub.tup ?_ | refine Sub.fn ?_ | exact SubL.nil | refine SubL.cons ?_ ?_ | refine Sub.sl _ ?_ | exact SubE.nil | refine SubE.cons ?_ ?_))

def R_slices_ContainsFunc_s119 (r : Bool) : AV := .bool (r)
theorem con_slices_ContainsFunc_s119 {n : Nat} {a0 : (List T_api_Event)} {a1c0 : Int} {r : Bool} (hF : F_slices_ContainsFunc_s119 n a0 a1c0 = some r) : Con E0 true 35 [.sl 5 (List.map e_api_Event (a0)), .fn 37 [.ref [aI (a1c0)]]] (R_slices_ContainsFunc_s119 r) := by
  unfold F_slices_ContainsFunc_s119 at hF
  refine Con.walk _ Tryz.func35 rfl (enters_of Tryz.func35 rfl rfl) rfl (Or.inr rfl) ?_
  repeat' first
    | (refine AW.step ?_; conv => whnf)
    | (refine CondX.o hF (fun hF => ?_) (fun hF => ?_))
    | (refine CondX.t ?_)
    | (refine CondX.f ?_)
    | (refine CallX.o hF R_slices_IndexFunc_s119 (fun a h => con_slices_IndexFunc_s119 h) (fun a hF => ?_))
    | (refine And.intro ⟨by kernel_rfl, by kernel_rfl⟩ ?_)
    | (refine EqX.mk (by first | rfl | kernel_rfl) ?_)
    | (exact RetX.o hF (by repeat' first | exact Sub.nil _ | exact Sub.refl _ | refine Sub.agg ?_ | refine Sub.tup ?_ | refine Sub.fn ?_ | exact SubL.nil | refine SubL.cons ?_ ?_ | refine Sub.sl _ ?_ | exact SubE.nil | refine SubE.cons ?_ ?_))

def S_tidegatelaw37_ReorderConserves_l1 (a1 : (List T_api_Message)) (v1_0 : (List Trk) × (List T_api_Event) × Int) : AS := ⟨[(5, .sl 4 (List.map aTrk (v1_0.1))), (7, .sl 5 (List.map e_api_Event (v1_0.2.1))), (40, .sl 9 (List.map e_api_Message (a1))), (41, aI ((((List.map e_api_Message (a1)).length : Nat) : Int))), (42, aI (v1_0.2.2))], []⟩
theorem tidegatelaw37_ReorderConserves_l1_o {n N : Nat} {a1 : (List T_api_Message)} {k1_0_0 : Option (Bool)} {R : Exit → AS → Prop} {K : List KItem} {c : Code} {σ : AS} {v0 : (List Trk) × (List T_api_Event) × Int} {r : Bool} (hF : F_tidegatelaw37_ReorderConserves_l1 n a1 k1_0_0 N v0 = some r) (hl : LeX E0 133 σ (S_tidegatelaw37_ReorderConserves_l1 a1 v0)) (round : ∀ m v, F_tidegatelaw37_ReorderConserves_l1 n a1 k1_0_0 (m + 1) v = some r → AW E0 133 (thenA (fun σ' => ∃ v', F_tidegatelaw37_ReorderConserves_l1 n a1 k1_0_0 m v' = some r ∧ LeX E0 133 σ' (S_tidegatelaw37_ReorderConserves_l1 a1 v')) (AW E0 133 R K)) [.code c] .normal (S_tidegatelaw37_ReorderConserves_l1 a1 v)) : LoopX E0 133 (fun next σ' => AW E0 133 (thenA next (AW E0 133 R K)) [.code c] .normal σ') σ :=
  LoopA.o (S := S_tidegatelaw37_ReorderConserves_l1 a1) hF (fun _ => rfl) hl round
def R_tidegatelaw37_ReorderConserves (r : Bool) : AV := .bool (r)
theorem con_tidegatelaw37_ReorderConserves {n : Nat} {a0 : Int} {a1 : (List T_api_Message)} {r : Bool} (hF : F_tidegatelaw37_ReorderConserves n a0 a1 = some r) : Con E0 true 8 [.int .u8 (a0), .sl 9 (List.map e_api_Message (a1))] (R_tidegatelaw37_ReorderConserves r) := by
  unfold F_tidegatelaw37_ReorderConserves at hF
  refine Con.walk _ Tryz.func8 rfl (enters_of Tryz.func8 rfl rfl) rfl (Or.inr rfl) ?_
  repeat' first
    | (refine AW.step ?_; conv => whnf)
    | (refine CondX.o hF (fun hF => ?_) (fun hF => ?_))
    | (refine CondX.t ?_)
    | (refine CondX.f ?_)
    | (refine NzX.o hF (fun hF => ?_))
    | (refine CallX.o hF R_reorder_Begin (fun a h => con_reorder_Begin h) (fun a hF => ?_))
    | (refine CallX.o hF R_tidegateref37_Few (fun a h => con_tidegateref37_Few h) (fun a hF => ?_))
    | (refine CallX.o hF R_tidegatelaw37_awake (fun a h => con_tidegatelaw37_awake h) (fun a hF => ?_))
    | (refine IdxX.o e_api_Message hF (fun x hF => ?_))
    | (refine CallX.o hF R_watermark_Receive (fun a h => con_watermark_Receive h) (fun a hF => ?_))
    | (refine CallX.o hF R_reorder_Add (fun a h => con_reorder_Add h) (fun a hF => ?_))
    | (exact ⟨_, hF, LeX.of [] rfl ⟨⟨rfl, rfl⟩, ⟨rfl, rfl⟩, ⟨rfl, rfl⟩, ⟨rfl, rfl⟩, ⟨rfl, rfl⟩, trivial⟩ trivial⟩)
    | (refine CallX.o hF R_tidegateref05_Same (fun a h => con_tidegateref05_Same h) (fun a hF => ?_))
    | (refine CallX.o hF R_tidegateref05_Has (fun a h => con_tidegateref05_Has h) (fun a hF => ?_))
    | (refine CallX.o hF R_reorder_Release (fun a h => con_reorder_Release h) (fun a hF => ?_))
    | (refine CallX.o hF R_watermark_Global (fun a h => con_watermark_Global h) (fun a hF => ?_))
    | (refine CallX.oR hF (fun r => r) e_api_Event (fun _ => AV.row 0) rfl (fun a h => conT_clone34 h) (fun a hF => ?_))
    | (refine CallX.oR hF (fun r => r) e_api_Event (fun _ => AV.row 0) rfl (fun a h => ConT.sub (by repeat' first | exact Sub.nil _ | exact Sub.refl _ | refine Sub.agg ?_ | refine Sub.tup ?_ | refine Sub.fn ?_ | exact SubL.nil | refine SubL.cons ?_ ?_ | refine Sub.sl _ ?_ | exact SubE.nil | refine SubE.cons ?_ ?_) (conT_clone34 h)) (fun a hF => ?_))
    | (refine AppX.o e_api_Event hF (by first | exact SubR.refl _ | (repeat' first | exact SubR.nil | refine SubR.cons ?_ ?_ | exact SubL.nil | refine SubL.cons ?_ ?_ | exact Sub.refl _ | exact Sub.nil _)) (fun l hF => ?_))
    | (refine CallC.o hF R_tidegateref05_Same (fun a h => con_tidegateref05_Same h) (fun _ => Or.inr rfl) (fun a hF => ?_))
    | (refine CallC.o hF R_slices_ContainsFunc (fun a h => con_slices_ContainsFunc h) (fun _ => Or.inr rfl) (fun a hF => ?_))
    | (refine CallC.o hF R_slices_ContainsFunc_s119 (fun a h => con_slices_ContainsFunc_s119 h) (fun _ => Or.inr rfl) (fun a hF => ?_))
    | (refine tidegatelaw37_ReorderConserves_l1_o hF (LeX.trans (LeX.put 7 _ (by repeat' first | exact Sub.nil _ | exact Sub.refl _ | refine Sub.agg ?_ | refine Sub.tup ?_ | refine Sub.fn ?_ | exact SubL.nil | refine SubL.cons ?_ ?_ | refine Sub.sl _ ?_ | exact SubE.nil | refine SubE.cons ?_ ?_)) (LeX.of [] rfl ⟨⟨rfl, rfl⟩, ⟨rfl, rfl⟩, ⟨rfl, rfl⟩, ⟨rfl, rfl⟩, ⟨rfl, rfl⟩, trivial⟩ trivial)) (fun m v hF => ?_); unfold F_tidegatelaw37_ReorderConserves_l1 at hF)
    | (refine And.intro ⟨by kernel_rfl, by kernel_rfl⟩ ?_)
    | (refine EqX.mk (by first | rfl | kernel_rfl) ?_)
    | (exact RetX.o hF (by repeat' first | exact Sub.nil _ | exact Sub.refl _ | refine Sub.agg ?_ | refine Sub.tup ?_ | refine Sub.fn ?_ | exact SubL.nil | refine SubL.cons ?_ ?_ | refine Sub.sl _ ?_ | exact SubE.nil | refine SubE.cons ?_ ?_))

end Go.Proofs.YtimkhfaddnanhaaGreat
namespace Go.Proofs.YtimkhfaddnanhaaGreat
open Go.RowKit
theorem conserves_con37 (a : Nat) (h : a ≤ 255) (l : List T_api_Message) : Con E0 true 8 [.int .u8 a, .sl 9 (l.map e_api_Message)] (.bool true) := con_tidegatelaw37_ReorderConserves (law_conserves37 a (by omega) (by omega) l)
end Go.Proofs.YtimkhfaddnanhaaGreat
