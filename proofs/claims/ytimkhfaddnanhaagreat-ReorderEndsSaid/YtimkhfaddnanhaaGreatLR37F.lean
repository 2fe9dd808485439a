/- What some functions compute, over plain values. Printed by a program of mine (gen_fun.lean). Chapter 37, plain: sources that keep their promises; Settles and Ends. Chapter 37: the contracts of the seven laws. -/
import Derived.Test.YtimkhfaddnanhaaGreatK08
import Derived.Test.YtimkhfaddnanhaaGreatK10
import Derived.Test.YtimkhfaddnanhaaGreatK13
import Derived.Test.YtimkhfaddnanhaaGreatK16
set_option linter.unusedVariables false
set_option linter.unusedSimpArgs false
set_option maxRecDepth 100000
set_option maxHeartbeats 8000000
namespace Go.Proofs.YtimkhfaddnanhaaGreat
open Go.RowKit
def F_tidegatelaw37_ReorderEnds_l3 (n : Nat) (a0 : Int) (v1_0 : (List T_api_Event) × Int × (List T_api_Message)) (k2_1_0y : Int) (k3_2_0 : Option (Bool)) : Nat → Int → Option (Bool)
  | 0, _ => none
  | mv3_2 + 1, v3_2 =>
    cnd (decide (v3_2 < (((List.map e_api_Event (v1_0.1)).length : Nat) : Int)))
      (idx v1_0.1 v3_2 fun x136 =>
      cnd (decide (x136.fSource = v1_0.2.1))
        (cnd (decide (k2_1_0y ≤ x136.fSeq))
          (bnd (F_tidegatelaw37_awake n) fun x137 =>
          some x137)
        <| F_tidegatelaw37_ReorderEnds_l3 n a0 v1_0 k2_1_0y k3_2_0 mv3_2 (IntKind.wrap .i64 (v3_2 + 1)))
      <| F_tidegatelaw37_ReorderEnds_l3 n a0 v1_0 k2_1_0y k3_2_0 mv3_2 (IntKind.wrap .i64 (v3_2 + 1)))
    <| k3_2_0
def F_tidegatelaw37_ReorderEnds_l2 (n : Nat) (a0 : Int) (v1_0 : (List T_api_Event) × Int × (List T_api_Message)) (k2_1_0 : Int → Option (Bool)) : Nat → Int × Int → Option (Bool)
  | 0, _ => none
  | mv2_1 + 1, v2_1 =>
    cnd (decide (v2_1.2 < (((List.map e_api_Event (v1_0.1)).length : Nat) : Int)))
      (idx v1_0.1 v2_1.2 fun x138 =>
      cnd (decide (x138.fSource = v1_0.2.1))
        (F_tidegatelaw37_ReorderEnds_l2 n a0 v1_0 k2_1_0 mv2_1 ((IntKind.wrap .i64 (v2_1.1 + 1)), (IntKind.wrap .i64 (v2_1.2 + 1))))
      <| F_tidegatelaw37_ReorderEnds_l2 n a0 v1_0 k2_1_0 mv2_1 (v2_1.1, (IntKind.wrap .i64 (v2_1.2 + 1))))
    <| k2_1_0 v2_1.1
def F_tidegatelaw37_ReorderEnds_l1 (n : Nat) (a0 : Int) (k1_0_0 : (List T_api_Event) → (List T_api_Message) → Option (Bool)) : Nat → (List T_api_Event) × Int × (List T_api_Message) → Option (Bool)
  | 0, _ => none
  | mv1_0 + 1, v1_0 =>
    cnd (decide (v1_0.2.1 < (IntKind.wrap .i64 ((IntKind.wrap .i64 ((a0).tmod 3)) + 1))))
      (F_tidegatelaw37_ReorderEnds_l2 n a0 v1_0
        (fun k2_1_0y => F_tidegatelaw37_ReorderEnds_l3 n a0 v1_0 k2_1_0y
        (app v1_0.2.2 ([⟨1, ⟨0, 0, 0, 0, []⟩, v1_0.2.1, k2_1_0y, 1099511627776⟩]) 88 fun x135 =>
      F_tidegatelaw37_ReorderEnds_l1 n a0 k1_0_0 mv1_0 (v1_0.1, (IntKind.wrap .i64 (v1_0.2.1 + 1)), x135)) n 0) n (0, 0))
    <| k1_0_0 v1_0.1 v1_0.2.2
def F_tidegatelaw37_ReorderEnds (n : Nat) (a0 : Int) (a1 : (List T_api_Message)) : Option (Bool) :=
  nzx ((3 : Int)) <| bnd (F_tidegateref37_Few n a1) fun x1 =>
  cnd (!(x1))
    (bnd (F_tidegatelaw37_awake n) fun x2 =>
    some x2)
  <| cnd (decide (30 < (((List.map e_api_Message (a1)).length : Nat) : Int)))
    (bnd (F_tidegatelaw37_awake n) fun x3 =>
    some x3)
  <| bnd (F_tidegatelaw37_honest n (IntKind.wrap .i64 ((IntKind.wrap .i64 ((a0).tmod 3)) + 1)) a1) fun x4 =>
  cnd (!(x4.2))
    (bnd (F_tidegatelaw37_awake n) fun x5 =>
    some x5)
  <| bndR (F_clone n a1) fun x6 =>
  F_tidegatelaw37_ReorderEnds_l1 n a0
    (fun k1_0_0y0 k1_0_0y1 => frz 7043 <| reg <| bnd (F_reorder_Run n (IntKind.wrap .i64 ((IntKind.wrap .i64 ((a0).tmod 3)) + 1)) k1_0_0y1) fun x49 =>
  bnd (F_reorder_Peak n (IntKind.wrap .i64 ((IntKind.wrap .i64 ((a0).tmod 3)) + 1)) k1_0_0y1) fun x50 =>
  cnd (decide (x49.2.2 = 0))
    (cnd (decide (x50.2 = 0))
      (cnd (decide ((((List.map aI (x49.2.1)).length : Nat) : Int) = (((List.map e_api_Message (k1_0_0y1)).length : Nat) : Int)))
        (idx x49.2.1 (IntKind.wrap .i64 ((((List.map aI (x49.2.1)).length : Nat) : Int) - 1)) fun x51 =>
        cnd (decide (x51 = 1099511627776))
          (bnd (F_tidegateref05_Same n x49.1 k1_0_0y0) fun x52 =>
          cnd (x52)
            (cnd (decide (x50.1 ≤ (((List.map e_api_Event (k1_0_0y0)).length : Nat) : Int)))
              (bnd (F_tidegatelaw37_awake n) fun x53 =>
              some x53)
            <| some false)
          <| some false)
        <| some false)
      <| some false)
    <| some false)
  <| some false) n (x4.1, 0, x6)
end Go.Proofs.YtimkhfaddnanhaaGreat
namespace Go.Proofs.YtimkhfaddnanhaaGreat
open Go.RowKit
open S05

def cntS (all : List Ev) (s : Int) : Nat := (all.filter fun x => decide (x.fSource = s)).length
def ptM (s : Int) (c : Nat) : T_api_Message := ⟨1, ⟨0, 0, 0, 0, []⟩, s, (c : Int), 1099511627776⟩
theorem cntS_le (all : List Ev) (s : Int) : cntS all s ≤ all.length := List.length_filter_le _ _
theorem p_ends_l2 (a0 : Int) (v : List Ev × Int × List T_api_Message) (K : Int → Option Bool) (hl : v.1.length ≤ 1000) : ∀ (f k c : Nat), k ≤ v.1.length → v.1.length < f + k → c ≤ k → F_tidegatelaw37_ReorderEnds_l2 100000 a0 v K f ((c : Int), (k : Int)) = K ((c + cntS (v.1.drop k) v.2.1 : Nat) : Int)
  | 0, k, c, h1, h2, h3 => by omega
  | f + 1, k, c, h1, h2, h3 => by
    unfold F_tidegatelaw37_ReorderEnds_l2
    simp only [List.length_map, cnd_if]
    by_cases h : k < v.1.length
    · rw [if_pos (by omega), idx_nat h, wrapS k (by omega), wrapS c (by omega), drop_cons v.1 k h]
      unfold cntS
      by_cases h4 : v.1[k].fSource = v.2.1
      · rw [if_pos h4, p_ends_l2 a0 v K hl f (k + 1) (c + 1) (by omega) (by omega) (by omega), List.filter_cons_of_pos (by simpa using h4), List.length_cons]
        unfold cntS
        congr 2; omega
      · rw [if_neg h4, p_ends_l2 a0 v K hl f (k + 1) c (by omega) (by omega) (by omega), List.filter_cons_of_neg (by simpa using h4)]
        rfl
    · rw [if_neg (by omega), List.drop_eq_nil_of_le (by omega)]; rfl
theorem p_ends_l3 (a0 : Int) (v : List Ev × Int × List T_api_Message) (c : Int) (K : Option Bool) (hl : v.1.length ≤ 1000) : ∀ (f k : Nat), k ≤ v.1.length → v.1.length < f + k → F_tidegatelaw37_ReorderEnds_l3 100000 a0 v c K f (k : Int) = if (v.1.drop k).all (fun x => !(decide (x.fSource = v.2.1) && decide (c ≤ x.fSeq))) then K else some true
  | 0, k, h1, h2 => by omega
  | f + 1, k, h1, h2 => by
    unfold F_tidegatelaw37_ReorderEnds_l3
    simp only [List.length_map, cnd_if, awake37, bnd_some]
    by_cases h : k < v.1.length
    · rw [if_pos (by omega), idx_nat h, wrapS k (by omega), drop_cons v.1 k h, List.all_cons, p_ends_l3 a0 v c K hl f (k + 1) (by omega) (by omega)]
      by_cases h4 : v.1[k].fSource = v.2.1
      · by_cases h5 : c ≤ v.1[k].fSeq <;> simp [h4, h5]
      · simp [h4]
    · rw [if_neg (by omega), List.drop_eq_nil_of_le (by omega)]; simp
def ptsM (all : List Ev) (k : Nat) : List T_api_Message := (List.range k).map fun (s : Nat) => ptM (s : Int) (cntS all (s : Int))
theorem p_ends_l1 (a0 : Int) (n : Nat) (ha : IntKind.wrap .i64 (IntKind.wrap .i64 (a0.tmod 3) + 1) = (n : Int)) (hn3 : n ≤ 3) (all : List Ev) (ms : List T_api_Message) (hl : all.length ≤ 1000) (hm : ms.length ≤ 1000) (K : List Ev → List T_api_Message → Option Bool)
    (hK : (∀ s : Nat, s < n → ∀ x ∈ all, x.fSource = (s : Int) → x.fSeq < (cntS all (s : Int) : Int)) → K all (ms ++ ptsM all n) = some true) : ∀ (f s : Nat), s ≤ n → n < f + s → (∀ i : Nat, i < s → ∀ x ∈ all, x.fSource = (i : Int) → x.fSeq < (cntS all (i : Int) : Int)) →
    F_tidegatelaw37_ReorderEnds_l1 100000 a0 K f (all, (s : Int), ms ++ ptsM all s) = some true
  | 0, s, h1, h2, h3 => by omega
  | f + 1, s, h1, h2, h3 => by
    unfold F_tidegatelaw37_ReorderEnds_l1
    rw [ha, cnd_if]
    by_cases h : s < n
    · rw [if_pos (by simp only; omega)]
      have e2 := fun K => p_ends_l2 a0 (all, (s : Int), ms ++ ptsM all s) K hl 100000 0 0 (by omega) (by simp only; omega) (by omega)
      simp only [Int.natCast_zero, List.drop_zero, Nat.zero_add] at e2
      rw [e2]
      have e3 := fun K => p_ends_l3 a0 (all, (s : Int), ms ++ ptsM all s) (cntS all (s : Int) : Int) K hl 100000 0 (by omega) (by simp only; omega)
      simp only [Int.natCast_zero, List.drop_zero] at e3
      rw [e3]
      split
      · rename_i hA
        have hlen : (ptsM all s).length = s := by simp [ptsM]
        rw [app_ok (by simp only [List.length_append, hlen, List.length_singleton]; omega) (by omega)]
        simp only
        rw [wrapS s (by omega)]
        have e4 : (ms ++ ptsM all s) ++ [(⟨1, ⟨0, 0, 0, 0, []⟩, (s : Int), (cntS all (s : Int) : Int), 1099511627776⟩ : T_api_Message)] = ms ++ ptsM all (s + 1) := by
          unfold ptsM
          rw [List.range_succ, List.map_append, List.append_assoc]; rfl
        rw [e4]
        refine p_ends_l1 a0 n ha hn3 all ms hl hm K hK f (s + 1) (by omega) (by omega) (fun i hi x hx hsx => ?_)
        by_cases his : i < s
        · exact h3 i his x hx hsx
        · have : i = s := by omega
          subst this
          have := List.all_eq_true.1 hA x hx
          simp only [hsx, decide_true, Bool.true_and, Bool.not_eq_true', decide_eq_false_iff_not] at this
          omega
      · rfl
    · have : s = n := by omega
      subst this
      rw [if_neg (by simp only; omega)]
      exact hK h3
theorem full_range (L : List Int) (hn : L.Nodup) (c : Nat) (hc : L.length = c) (hb : ∀ x ∈ L, 0 ≤ x ∧ x < (c : Int)) (x : Int) (h0 : 0 ≤ x) (h1 : x < (c : Int)) : x ∈ L := by
  apply Classical.byContradiction
  intro hx
  have hnd : (x :: L).Nodup := List.nodup_cons.2 ⟨hx, hn⟩
  have := hnd.length_le_of_subset (l₂ := (List.range c).map (fun (i : Nat) => (i : Int))) (fun y hy => by
    have hy' : 0 ≤ y ∧ y < (c : Int) := by
      rcases List.mem_cons.1 hy with rfl | hy
      · exact ⟨h0, h1⟩
      · exact hb y hy
    exact List.mem_map.2 ⟨y.toNat, List.mem_range.2 (by omega), by omega⟩)
  simp only [List.length_cons, List.length_map, List.length_range] at this
  omega
theorem ends_hon {k : Nat} (hk : k ≤ 3) {ms : List T_api_Message} (hl : ms.length ≤ 30) (hH : Hon k (· ∈ ms)) (hd : DistI (evsOf ms)) (hc : ∀ s : Nat, s < k → ∀ x ∈ srt (evsOf ms), x.fSource = (s : Int) → x.fSeq < (cntS (srt (evsOf ms)) (s : Int) : Int)) :
    Hon k (· ∈ ms ++ ptsM (srt (evsOf ms)) k) ∧ evsOf (ms ++ ptsM (srt (evsOf ms)) k) = evsOf ms := by
  have hle := evsOf_len ms
  have hsl := (srt_nodup hd).length_le_of_subset (fun x hx => (srt_mem hd x).1 hx)
  have hp : ∀ m ∈ ptsM (srt (evsOf ms)) k, ∃ s : Nat, s < k ∧ m = ptM (s : Int) (cntS (srt (evsOf ms)) (s : Int)) := fun m hm => by
    obtain ⟨s, h1, h2⟩ := List.mem_map.1 hm
    exact ⟨s, List.mem_range.1 h1, h2.symm⟩
  have hpc : ∀ s : Nat, s < k → msgCheck (ptM (s : Int) (cntS (srt (evsOf ms)) (s : Int))) = 0 := fun s hs => by
    have hcl := cntS_le (srt (evsOf ms)) (s : Int)
    have r1 : rng (s : Int) 7 = true := (rng_iff _ _).2 (by omega)
    have r2 : ptValid ⟨(cntS (srt (evsOf ms)) (s : Int) : Int), 1099511627776⟩ = true := (ptValid_iff _).2 ⟨by simp only; omega, by simp only; omega, by simp only; omega, by simp only; omega⟩
    unfold msgCheck ptM
    simp [r1, r2]
  have hsrc : ∀ s c, srcOf (ptM s c) = s := fun s c => if_neg (by simp [ptM])
  have hk1 : ∀ s c, (ptM s c).fKind = 1 := fun s c => rfl
  refine ⟨⟨fun m hm => ?_, fun m hm => ?_, fun a b ha hb hs h0 h1 hcn => ?_⟩, ?_⟩
  · rcases List.mem_append.1 hm with hm | hm
    · exact hH.ok m hm
    · obtain ⟨s, h1, rfl⟩ := hp m hm
      exact hpc s h1
  · rcases List.mem_append.1 hm with hm | hm
    · exact hH.src m hm
    · obtain ⟨s, h1, rfl⟩ := hp m hm
      rw [hsrc]; omega
  · have ha' : a ∈ ms := by
      rcases List.mem_append.1 ha with ha | ha
      · exact ha
      · obtain ⟨s, _, rfl⟩ := hp a ha
        rw [hk1] at h0; exact absurd h0 (by decide)
    rcases List.mem_append.1 hb with hb | hb
    · exact hH.fit a b ha' hb hs h0 h1 hcn
    · obtain ⟨s, h2, rfl⟩ := hp b hb
      rw [hsrc] at hs
      have hsa : a.fEvent.fSource = (s : Int) := by unfold srcOf at hs; rwa [if_pos h0] at hs
      have := hc s h2 a.fEvent ((srt_mem hd _).2 (evsOf_mem.2 ⟨a, ha', h0, rfl⟩)) hsa
      have h3 : (cntS (srt (evsOf ms)) (s : Int) : Int) ≤ a.fEvent.fSeq := hcn.1
      omega
  · unfold evsOf
    rw [List.filter_append, List.map_append]
    have : (ptsM (srt (evsOf ms)) k).filter (fun m => decide (m.fKind = 0)) = [] := List.filter_eq_nil_iff.2 fun m hm => by
      obtain ⟨s, _, rfl⟩ := hp m hm
      rw [hk1]; decide
    unfold evsOf at this
    rw [this]
    simp
theorem ends_marks {k : Nat} (hk0 : 1 ≤ k) (hk : k ≤ 3) {ms : List T_api_Message} (hl : ms.length ≤ 30) (hH : Hon k (· ∈ ms)) (hd : DistI (evsOf ms)) (hc : ∀ s : Nat, s < k → ∀ x ∈ srt (evsOf ms), x.fSource = (s : Int) → x.fSeq < (cntS (srt (evsOf ms)) (s : Int) : Int))
    {l : List Trk} (hg : Got k l (ms ++ ptsM (srt (evsOf ms)) k)) : leastOf l = 1099511627776 := by
  have key : ∀ i (hi : i < l.length), l[i].mark = 1099511627776 := fun i hi => by
    have hik : i < k := by have := hg.len; omega
    have hf := hg.fwd i hi
    have hok := hg.ok _ (List.getElem_mem hi)
    have hpt : PtsM (ms ++ ptsM (srt (evsOf ms)) k) (i : Int) ⟨(cntS (srt (evsOf ms)) (i : Int) : Int), 1099511627776⟩ := ⟨ptM (i : Int) (cntS (srt (evsOf ms)) (i : Int)), List.mem_append.2 (Or.inr (List.mem_map.2 ⟨i, List.mem_range.2 hik, rfl⟩)), if_neg (by simp [ptM]), rfl, rfl⟩
    obtain ⟨q1, q2, q3, q4⟩ := (sqCheck_zero _).1 hok.sq
    have hcnt : (cntS (srt (evsOf ms)) (i : Int) : Int) ≤ l[i].next := by
      apply Classical.byContradiction
      intro hlt
      have hmem := full_range (((srt (evsOf ms)).filter fun x => decide (x.fSource = (i : Int))).map (·.fSeq)) ?_ (cntS (srt (evsOf ms)) (i : Int)) (by rw [List.length_map]; rfl) (fun x hx => ?_) l[i].next (by omega) (by omega)
      · obtain ⟨x, hx, hx2⟩ := List.mem_map.1 hmem
        simp only [List.mem_filter, decide_eq_true_eq] at hx
        obtain ⟨m, hm, h0, h1⟩ := evsOf_mem.1 ((srt_mem hd x).1 hx.1)
        have hn : Num l[i] l[i].next := (hf.num _).2 (Or.inr ⟨m, List.mem_append.2 (Or.inl hm), by unfold srcOf; rw [if_pos h0, h1]; exact hx.2, h0, by rw [h1]; exact hx2.symm⟩)
        rcases hn with hn | hn
        · omega
        · have := (List.pairwise_cons.1 q4).1 _ hn; omega
      · have hst := srt_nodup hd
        have hds := hd.srt
        rw [List.Nodup, List.pairwise_map]
        refine (hst.filter _).imp_of_mem fun {x y} hx hy hne heq => ?_
        simp only [List.mem_filter, decide_eq_true_eq] at hx hy
        exact hne (hds x hx.1 y hy.1 (idt_eq.2 ⟨hx.2.trans hy.2.symm, heq⟩))
      · obtain ⟨y, hy, rfl⟩ := List.mem_map.1 hx
        simp only [List.mem_filter, decide_eq_true_eq] at hy
        obtain ⟨m, hm, h0, h1⟩ := evsOf_mem.1 ((srt_mem hd y).1 hy.1)
        obtain ⟨_, _, _, k4, _⟩ := msg_ok m (hH.ok m hm)
        have := k4 h0
        rw [h1] at this
        exact ⟨this.1, hc i hik y hy.1 hy.2⟩
    have hF := (hf.forb l[i].next 1099511627776 (Int.le_refl _)).2 (Or.inr ⟨_, hpt, hcnt, Int.le_refl _⟩)
    have hm := hok.mark
    rcases hF with hF | ⟨p, hp, hp2, _⟩
    · omega
    · have := (List.pairwise_cons.1 hok.asc).1 p hp
      have h4 : l[i].next < p.seq := this.1
      omega
  obtain ⟨_, _, f3⟩ := foldl_min l 1099511627776
  unfold leastOf
  rcases f3 with f3 | ⟨t, ht, f3⟩
  · exact f3
  · obtain ⟨i, hi, rfl⟩ := List.getElem_of_mem ht
    rw [f3, key i hi]
theorem law_ends37 (a : Int) (h0 : 0 ≤ a) (h1 : a < 256) (ms : List T_api_Message) : F_tidegatelaw37_ReorderEnds 100000 a ms = some true := by
  unfold F_tidegatelaw37_ReorderEnds
  rw [nzx_ok (by omega), p_few37 _ ms (by omega), awake37]
  obtain ⟨k, k1, k2, k3⟩ := mod3 a h0 h1
  rw [k3]
  simp only [bnd_some, cnd_not]
  cases hf : few37 ms with
  | false => rw [cnd_f]
  | true =>
    rw [cnd_t, cnd_if, List.length_map]
    obtain ⟨f1, f2⟩ := few37_out hf
    by_cases h30 : (30 : Int) < (ms.length : Int)
    · rw [if_pos h30]
    rw [if_neg h30, p_hon37 _ ms f1 f2, bnd_some]
    by_cases hS : (sortS (evsOf ms)).2 = 0
    · rw [if_pos hS]
      obtain ⟨s1, s2⟩ := sortS_ok37 hS
      cases hB : honB (k : Int) ms with
      | false => rw [cnd_f]
      | true =>
        have hH := honB_hon k ms hB
        have hle := evsOf_len ms
        have hsl := (srt_nodup s2).length_le_of_subset (fun x hx => (srt_mem s2 x).1 hx)
        simp only [cnd_t]
        unfold F_clone
        rw [if_pos (by omega), bndR_some, s1]
        have := p_ends_l1 a k k3 k2 (srt (evsOf ms)) ms (by omega) (by omega)
        have := fun K hK => this K hK 100000 0 (by omega) (by omega) (fun i hi => absurd hi (by omega))
        simp only [Int.natCast_zero, show ptsM (srt (evsOf ms)) 0 = [] from rfl, List.append_nil] at this
        refine this _ (fun hc => ?_)
        obtain ⟨H2, e2⟩ := ends_hon k2 (by omega) hH s2 hc
        have hlp : (ptsM (srt (evsOf ms)) k).length = k := by simp [ptsM]
        have hlm : (ms ++ ptsM (srt (evsOf ms)) k).length = ms.length + k := by rw [List.length_append, hlp]
        have f2' : ∀ m ∈ ms ++ ptsM (srt (evsOf ms)) k, sv m.fEvent := fun m hm => by
          rcases List.mem_append.1 hm with hm | hm
          · exact f2 m hm
          · obtain ⟨s, _, rfl⟩ := List.mem_map.1 hm
            unfold sv ptM; simp
        have d2 : DistI (evsOf (ms ++ ptsM (srt (evsOf ms)) k)) := by rw [e2]; exact s2
        obtain ⟨g1, i1, r1, q1, l1, pk⟩ := hon_run (by omega) H2 d2 (ms ++ ptsM (srt (evsOf ms)) k) (fun m => Iff.rfl) (by omega)
        have hmk := ends_marks k1 k2 (by omega) hH s2 hc g1
        rw [e2] at r1 q1 pk
        generalize hms : ms ++ ptsM (srt (evsOf ms)) k = mo at *
        have hb : beginT (k : Int) = (List.replicate k t0, 0) := begin_ok37 (k := (k : Int)) (by omega) (by omega)
        have e : runP (k : Int) mo = (relW (List.replicate k t0) [] mo, mksW (List.replicate k t0) [] mo, 0) := by unfold runP; rw [hb, if_neg (by simp)]
        have e' : peakP (k : Int) mo = (pkW (List.replicate k t0) [] 0 mo, 0) := by unfold peakP; rw [hb, if_neg (by simp)]
        rw [frz_eq, reg_eq, p_run37 _ _ mo (by omega) f2' (by omega), bnd_some, p_peak37 _ _ mo (by omega) f2' (by omega), bnd_some, e, e']
        have n1 := mksW_len mo (List.replicate k t0) []
        simp only [List.length_map, n1, decide_true, cnd_t]
        have hlast : (mksW (List.replicate k t0) [] mo)[mo.length - 1]'(by omega) = 1099511627776 := by
          rw [← hmk]
          apply l1
          rw [List.getLast?_eq_getElem?]
          simp only [n1]
          exact List.getElem?_eq_getElem (by omega)
        rw [wrap_pred' (by omega) (by omega), idx_nat (by omega : mo.length - 1 < (mksW (List.replicate k t0) [] mo).length), hlast]
        have hw : (finW (List.replicate k t0) [] mo).2 = [] := by
          cases hw : (finW (List.replicate k t0) [] mo).2 with
          | nil => rfl
          | cons x r =>
            have h3 := i1.late x (by rw [hw]; simp)
            have h4 := i1.st.pl x (by rw [hw]; simp)
            unfold placedB at h4
            simp only [Bool.and_eq_true, decide_eq_true_eq] at h4
            rw [hmk] at h3
            omega
        rw [hw, List.append_nil] at r1
        rw [r1]
        obtain ⟨o1, o2, o3⟩ := runP_out (k : Int) mo (by omega) f2'
        rw [e, r1] at o1
        simp only at o1
        rw [Same_refl o1 (by omega), bnd_some, cnd_t, cnd_if, if_pos rfl, cnd_if, if_pos pk]
    · rw [if_neg hS]
      simp only [cnd_f]
end Go.Proofs.YtimkhfaddnanhaaGreat
namespace Go.Proofs.YtimkhfaddnanhaaGreat
open Go.RowKit
def S_tidegatelaw37_ReorderEnds_l3 (a0 : Int) (v1_0 : (List T_api_Event) × Int × (List T_api_Message)) (k2_1_0y : Int) (v3_2 : Int) : AS := ⟨[(5, aI ((IntKind.wrap .i64 ((IntKind.wrap .i64 ((a0).tmod 3)) + 1)))), (6, .sl 5 (List.map e_api_Event (v1_0.1))), (8, .row 7043), (9, aI (v1_0.2.1)), (10, aI (k2_1_0y)), (44, aI ((IntKind.wrap .i64 ((IntKind.wrap .i64 ((a0).tmod 3)) + 1)))), (45, aI (v1_0.2.1)), (61, .sl 5 (List.map e_api_Event (v1_0.1))), (62, aI ((((List.map e_api_Event (v1_0.1)).length : Nat) : Int))), (63, aI (v3_2))], [(7043, .row 28 9 (List.map e_api_Message (v1_0.2.2)))]⟩
theorem tidegatelaw37_ReorderEnds_l3_o {n N : Nat} {a0 : Int} {v1_0 : (List T_api_Event) × Int × (List T_api_Message)} {k2_1_0y : Int} {k3_2_0 : Option (Bool)} {R : Exit → AS → Prop} {K : List KItem} {c : Code} {σ : AS} {v0 : Int} {r : Bool} (hF : F_tidegatelaw37_ReorderEnds_l3 n a0 v1_0 k2_1_0y k3_2_0 N v0 = some r) (hl : LeX E0 135 σ (S_tidegatelaw37_ReorderEnds_l3 a0 v1_0 k2_1_0y v0)) (round : ∀ m v, F_tidegatelaw37_ReorderEnds_l3 n a0 v1_0 k2_1_0y k3_2_0 (m + 1) v = some r → AW E0 135 (thenA (fun σ' => ∃ v', F_tidegatelaw37_ReorderEnds_l3 n a0 v1_0 k2_1_0y k3_2_0 m v' = some r ∧ LeX E0 135 σ' (S_tidegatelaw37_ReorderEnds_l3 a0 v1_0 k2_1_0y v')) (AW E0 135 R K)) [.code c] .normal (S_tidegatelaw37_ReorderEnds_l3 a0 v1_0 k2_1_0y v)) : LoopX E0 135 (fun next σ' => AW E0 135 (thenA next (AW E0 135 R K)) [.code c] .normal σ') σ :=
  LoopA.o (S := S_tidegatelaw37_ReorderEnds_l3 a0 v1_0 k2_1_0y) hF (fun _ => rfl) hl round
def S_tidegatelaw37_ReorderEnds_l2 (a0 : Int) (v1_0 : (List T_api_Event) × Int × (List T_api_Message)) (v2_1 : Int × Int) : AS := ⟨[(5, aI ((IntKind.wrap .i64 ((IntKind.wrap .i64 ((a0).tmod 3)) + 1)))), (6, .sl 5 (List.map e_api_Event (v1_0.1))), (8, .row 7043), (9, aI (v1_0.2.1)), (10, aI (v2_1.1)), (44, aI ((IntKind.wrap .i64 ((IntKind.wrap .i64 ((a0).tmod 3)) + 1)))), (45, aI (v1_0.2.1)), (48, .sl 5 (List.map e_api_Event (v1_0.1))), (49, aI ((((List.map e_api_Event (v1_0.1)).length : Nat) : Int))), (50, aI (v2_1.2))], [(7043, .row 28 9 (List.map e_api_Message (v1_0.2.2)))]⟩
theorem tidegatelaw37_ReorderEnds_l2_o {n N : Nat} {a0 : Int} {v1_0 : (List T_api_Event) × Int × (List T_api_Message)} {k2_1_0 : Int → Option (Bool)} {R : Exit → AS → Prop} {K : List KItem} {c : Code} {σ : AS} {v0 : Int × Int} {r : Bool} (hF : F_tidegatelaw37_ReorderEnds_l2 n a0 v1_0 k2_1_0 N v0 = some r) (hl : LeX E0 135 σ (S_tidegatelaw37_ReorderEnds_l2 a0 v1_0 v0)) (round : ∀ m v, F_tidegatelaw37_ReorderEnds_l2 n a0 v1_0 k2_1_0 (m + 1) v = some r → AW E0 135 (thenA (fun σ' => ∃ v', F_tidegatelaw37_ReorderEnds_l2 n a0 v1_0 k2_1_0 m v' = some r ∧ LeX E0 135 σ' (S_tidegatelaw37_ReorderEnds_l2 a0 v1_0 v')) (AW E0 135 R K)) [.code c] .normal (S_tidegatelaw37_ReorderEnds_l2 a0 v1_0 v)) : LoopX E0 135 (fun next σ' => AW E0 135 (thenA next (AW E0 135 R K)) [.code c] .normal σ') σ :=
  LoopA.o (S := S_tidegatelaw37_ReorderEnds_l2 a0 v1_0) hF (fun _ => rfl) hl round
def S_tidegatelaw37_ReorderEnds_l1 (a0 : Int) (v1_0 : (List T_api_Event) × Int × (List T_api_Message)) : AS := ⟨[(5, aI ((IntKind.wrap .i64 ((IntKind.wrap .i64 ((a0).tmod 3)) + 1)))), (6, .sl 5 (List.map e_api_Event (v1_0.1))), (8, .row 7043), (44, aI ((IntKind.wrap .i64 ((IntKind.wrap .i64 ((a0).tmod 3)) + 1)))), (45, aI (v1_0.2.1))], [(7043, .row 28 9 (List.map e_api_Message (v1_0.2.2)))]⟩
theorem tidegatelaw37_ReorderEnds_l1_o {n N : Nat} {a0 : Int} {k1_0_0 : (List T_api_Event) → (List T_api_Message) → Option (Bool)} {R : Exit → AS → Prop} {K : List KItem} {c : Code} {σ : AS} {v0 : (List T_api_Event) × Int × (List T_api_Message)} {r : Bool} (hF : F_tidegatelaw37_ReorderEnds_l1 n a0 k1_0_0 N v0 = some r) (hl : LeX E0 135 σ (S_tidegatelaw37_ReorderEnds_l1 a0 v0)) (round : ∀ m v, F_tidegatelaw37_ReorderEnds_l1 n a0 k1_0_0 (m + 1) v = some r → AW E0 135 (thenA (fun σ' => ∃ v', F_tidegatelaw37_ReorderEnds_l1 n a0 k1_0_0 m v' = some r ∧ LeX E0 135 σ' (S_tidegatelaw37_ReorderEnds_l1 a0 v')) (AW E0 135 R K)) [.code c] .normal (S_tidegatelaw37_ReorderEnds_l1 a0 v)) : LoopX E0 135 (fun next σ' => AW E0 135 (thenA next (AW E0 135 R K)) [.code c] .normal σ') σ :=
  LoopA.o (S := S_tidegatelaw37_ReorderEnds_l1 a0) hF (fun _ => rfl) hl round
def R_tidegatelaw37_ReorderEnds (r : Bool) : AV := .bool (r)
theorem con_tidegatelaw37_ReorderEnds {n : Nat} {a0 : Int} {a1 : (List T_api_Message)} {r : Bool} (hF : F_tidegatelaw37_ReorderEnds n a0 a1 = some r) : Con E0 true 6 [.int .u8 (a0), .sl 9 (List.map e_api_Message (a1))] (R_tidegatelaw37_ReorderEnds r) := by
  unfold F_tidegatelaw37_ReorderEnds at hF
  refine Con.walk _ Tryz.func6 rfl (enters_of Tryz.func6 rfl rfl) rfl (Or.inr rfl) ?_
  repeat' first
    | (refine AW.regO hF (fun hF => ?_))
    | (refine AW.frzO hF 7043 rfl (fun hF => ?_))
    | (refine AW.stepU [26] ?_; conv => whnf)
    | (refine CondX.o hF (fun hF => ?_) (fun hF => ?_))
    | (refine CondX.t ?_)
    | (refine CondX.f ?_)
    | (refine NzX.o hF (fun hF => ?_))
    | (refine CallX.o hF R_tidegateref37_Few (fun a h => con_tidegateref37_Few h) (fun a hF => ?_))
    | (refine CallX.o hF R_tidegatelaw37_awake (fun a h => con_tidegatelaw37_awake h) (fun a hF => ?_))
    | (refine CallX.o hF R_tidegatelaw37_honest (fun a h => con_tidegatelaw37_honest h) (fun a hF => ?_))
    | (refine CallX.oR hF (fun r => r) e_api_Message (fun _ => AV.row 0) rfl (fun a h => conT_clone26 h) (fun a hF => ?_))
    | (refine CallX.oR hF (fun r => r) e_api_Message (fun _ => AV.row 0) rfl (fun a h => ConT.sub (by repeat' first | exact Sub.nil _ | exact Sub.refl _ | refine Sub.agg ?_ | refine Sub.tup ?_ | refine Sub.fn ?_ | exact SubL.nil | refine SubL.cons ?_ ?_ | refine Sub.sl _ ?_ | exact SubE.nil | refine SubE.cons ?_ ?_) (conT_clone26 h)) (fun a hF => ?_))
    | (refine CallX.o hF R_reorder_Run (fun a h => con_reorder_Run h) (fun a hF => ?_))
    | (refine CallX.o hF R_reorder_Peak (fun a h => con_reorder_Peak h) (fun a hF => ?_))
    | (refine IdxX.o aI hF (fun x hF => ?_))
    | (refine CallX.o hF R_tidegateref05_Same (fun a h => con_tidegateref05_Same h) (fun a hF => ?_))
    | (refine AppX.o e_api_Message hF (by first | exact SubR.refl _ | (repeat' first | exact SubR.nil | refine SubR.cons ?_ ?_ | exact SubL.nil | refine SubL.cons ?_ ?_ | exact Sub.refl _ | exact Sub.nil _)) (fun l hF => ?_))
    | (exact ⟨_, hF, LeX.of [(7043, 84)] rfl ⟨⟨rfl, rfl⟩, ⟨rfl, rfl⟩, ⟨rfl, rfl⟩, ⟨rfl, rfl⟩, ⟨rfl, rfl⟩, trivial⟩ ⟨⟨rfl, rfl⟩, trivial⟩⟩)
    | (refine IdxX.o e_api_Event hF (fun x hF => ?_))
    | (exact ⟨_, hF, LeX.of [] rfl ⟨⟨rfl, rfl⟩, ⟨rfl, rfl⟩, ⟨rfl, rfl⟩, ⟨rfl, rfl⟩, ⟨rfl, rfl⟩, ⟨rfl, rfl⟩, ⟨rfl, rfl⟩, ⟨rfl, rfl⟩, ⟨rfl, rfl⟩, ⟨rfl, rfl⟩, trivial⟩ ⟨⟨rfl, rfl⟩, trivial⟩⟩)
    | (refine tidegatelaw37_ReorderEnds_l3_o hF (LeX.of [] rfl ⟨⟨rfl, rfl⟩, ⟨rfl, rfl⟩, ⟨rfl, rfl⟩, ⟨rfl, rfl⟩, ⟨rfl, rfl⟩, ⟨rfl, rfl⟩, ⟨rfl, rfl⟩, ⟨rfl, rfl⟩, ⟨rfl, rfl⟩, ⟨rfl, rfl⟩, trivial⟩ ⟨⟨rfl, rfl⟩, trivial⟩) (fun m v hF => ?_); unfold F_tidegatelaw37_ReorderEnds_l3 at hF)
    | (refine tidegatelaw37_ReorderEnds_l2_o hF (LeX.of [] rfl ⟨⟨rfl, rfl⟩, ⟨rfl, rfl⟩, ⟨rfl, rfl⟩, ⟨rfl, rfl⟩, ⟨rfl, rfl⟩, ⟨rfl, rfl⟩, ⟨rfl, rfl⟩, ⟨rfl, rfl⟩, ⟨rfl, rfl⟩, ⟨rfl, rfl⟩, trivial⟩ ⟨⟨rfl, rfl⟩, trivial⟩) (fun m v hF => ?_); unfold F_tidegatelaw37_ReorderEnds_l2 at hF)
    | (refine tidegatelaw37_ReorderEnds_l1_o hF (LeX.of [(7043, 43)] rfl ⟨⟨rfl, rfl⟩, ⟨rfl, rfl⟩, ⟨rfl, rfl⟩, ⟨rfl, rfl⟩, ⟨rfl, rfl⟩, trivial⟩ ⟨⟨rfl, rfl⟩, trivial⟩) (fun m v hF => ?_); unfold F_tidegatelaw37_ReorderEnds_l1 at hF)
    | (refine And.intro ⟨by kernel_rfl, by kernel_rfl⟩ ?_)
    | (refine EqX.mk (by first | rfl | kernel_rfl) ?_)
    | (exact RetX.o hF (by repeat' first | exact Sub.nil _ | exact Sub.refl _ | refine Sub.agg ?_ | refine Sub.tup ?_ | refine Sub.fn ?_ | exact SubL.nil | refine SubL.cons ?_ ?_ | refine Sub.sl _ ?_ | exact SubE.nil | refine SubE.cons ?_ ?_))

end Go.Proofs.YtimkhfaddnanhaaGreat
namespace Go.Proofs.YtimkhfaddnanhaaGreat
open Go.RowKit
theorem ends_con37 (a : Nat) (h : a ≤ 255) (l : List T_api_Message) : Con E0 true 6 [.int .u8 a, .sl 9 (l.map e_api_Message)] (.bool true) := con_tidegatelaw37_ReorderEnds (law_ends37 a (by omega) (by omega) l)
end Go.Proofs.YtimkhfaddnanhaaGreat
