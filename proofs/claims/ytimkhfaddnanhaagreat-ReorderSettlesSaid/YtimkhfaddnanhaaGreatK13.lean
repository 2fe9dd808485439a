/- Chapter 37, plain: what Add, Release, Run and Peak (both) compute. Chapter 37, plain: the examples; Adds, Releases, Runs. Chapter 37, plain: Sorts and Conserves. Chapter 37, plain: sources that keep their promises; Settles and Ends. The abstract walk: functions walked for contracts that say what becomes of memory that is given. The abstract walk: a range over a function: the statement, its rounds, and the function that holds it. The abstract walk: the rounds of a range over a function. Forms of terms: calls of closures with boxes, yields, ranges over functions. Contracts of the library, out of the shelf of the kit, at this program (written by the kit's lay-plain). Layer 37: slices.Reverse at messages. -/
import Derived.Test.YtimkhfaddnanhaaGreatK12
import Derived.Test.YtimkhfaddnanhaaGreatK07
import Derived.Shelf.SlicesQ.Reverse
import Derived.Test.YtimkhfaddnanhaaGreatProg
import Derived.Test.YtimkhfaddnanhaaGreatK10
set_option linter.unusedVariables false
set_option linter.unusedSimpArgs false
namespace Go.Proofs.YtimkhfaddnanhaaGreat
open Go.RowKit
open S05

def sv (e : Ev) : Prop := e.fValues.length ≤ 12
theorem sv.few {e : Ev} (h : sv e) {n : Nat} (hn : 1000 ≤ n) : fewV n e := ⟨by unfold sv at h; omega, by unfold sv at h; omega⟩
theorem p_copied37_l1 (n : Nat) (l : List Ev) (hv : ∀ x ∈ l, x.fValues.length ≤ 1000000) (K : List Ev → Option (List Ev)) : ∀ (m k : Nat), k ≤ l.length → l.length ≤ 1000000 → l.length < m + k → F_reorder_copied_l1 n l K m ((k : Int), l.take k) = K l
  | 0, k, h1, h2, h3 => by omega
  | m + 1, k, h1, h2, h3 => by
    unfold F_reorder_copied_l1
    simp only [List.length_map, cnd_if]
    by_cases h : k < l.length
    · have hk := hv _ (List.getElem_mem h)
      rw [if_pos (by omega), idx_nat h, wrapS k (by omega)]
      unfold F_clone
      rw [if_pos (by omega), bnd_some, app_ok (by simp; omega) (by omega)]
      have e : (⟨l[k].fSource, l[k].fSeq, l[k].fType, l[k].fTime, l[k].fValues⟩ : Ev) = l[k] := rfl
      rw [e, ← List.take_succ_eq_append_getElem h]
      exact p_copied37_l1 n l hv K m (k + 1) (by omega) h2 (by omega)
    · rw [if_neg (by omega), List.take_of_length_le (by omega)]
theorem p_copied37 (n : Nat) (l : List Ev) (hv : ∀ x ∈ l, sv x) (hl : l.length ≤ 100000) (hn : l.length < n) : F_reorder_copied n l = some l := by
  unfold F_reorder_copied
  have := p_copied37_l1 n l (fun x hx => by have := hv x hx; unfold sv at this; omega) (fun y => some y) n 0 (by omega) (by omega) (by omega)
  simpa using this
theorem recv_eq {l : List Trk} (h : wCheck l = 0) (m : T_api_Message) : recvAll l m = stepT l m := if_neg (by simpa using h)
theorem p_add37 (n : Nat) (l : List Trk) (w : List Ev) (m : T_api_Message) (hv : ∀ x ∈ w, sv x) (hm : sv m.fEvent) (hl : w.length ≤ 500) (hn : 1000 ≤ n) : F_reorder_Add n l w m = some (addS l w m) := by
  unfold F_reorder_Add F_reorder_check addS
  rw [p_check n l (by omega), bnd_some]
  simp only [cnd_not, cnd_if]
  by_cases h : wCheck l = 0
  · rw [if_pos h, if_neg (by simpa using h), S05.p_chk n w (by omega) (by omega)]
    simp only [bnd_some]
    by_cases h2 : strChk w = 0
    · rw [if_pos h2, if_neg (by simpa using h2), p_Receive n l m hn, bnd_some, recv_eq h]
      by_cases h3 : (stepT l m).2.2 = 0
      · rw [if_pos h3, if_neg (by simpa using h3), p_copied37 n w hv (by omega) (by omega), S05.p_insert n w m.fEvent (fun x hx => by
          rcases List.mem_append.1 hx with hx | hx
          · exact (hv x hx).few hn
          · rw [List.mem_singleton.1 hx]; exact hm.few hn) (by omega) (by omega) (by omega)]
        simp only [bnd_some, cnd_if, cnd_b]
        cases h4 : (stepT l m).2.1 with
        | false => simp
        | true =>
          by_cases h5 : (insS w m.fEvent).2 = 0 <;> simp [h5]
      · rw [if_neg h3, if_pos h3]
    · rw [if_neg h2, if_pos h2]
  · rw [if_neg h]; simp only [bnd_some]; rw [if_neg h, if_pos h]
theorem p_radd37 (n : Nat) (l : List Trk) (w : List Ev) (m : T_api_Message) (hv : ∀ x ∈ w, sv x) (hm : sv m.fEvent) (hl : w.length ≤ 500) (hn : 1000 ≤ n) : F_tidegateref37_Add n l w m = some (addS l w m) := by
  unfold F_tidegateref37_Add addS
  rw [p_rcheck n l (by omega), bnd_some]
  simp only [cnd_not, cnd_if]
  by_cases h : wCheck l = 0
  · rw [if_pos h, if_neg (by simpa using h), S05.p_rchk n w (by omega) (by omega)]
    simp only [bnd_some]
    by_cases h2 : strChk w = 0
    · rw [if_pos h2, if_neg (by simpa using h2), p_rReceive n l m hn, bnd_some, recv_eq h]
      by_cases h3 : (stepT l m).2.2 = 0
      · rw [if_pos h3, if_neg (by simpa using h3), S05.p_rinsert n w m.fEvent (fun x hx => by
          rcases List.mem_append.1 hx with hx | hx
          · exact (hv x hx).few hn
          · rw [List.mem_singleton.1 hx]; exact hm.few hn) (by omega) (by omega)]
        simp only [bnd_some, cnd_if, cnd_b]
        cases h4 : (stepT l m).2.1 with
        | false => simp
        | true =>
          by_cases h5 : (insS w m.fEvent).2 = 0 <;> simp [h5]
      · rw [if_neg h3, if_pos h3]
    · rw [if_neg h2, if_pos h2]
  · rw [if_neg h, if_pos h]

theorem p_release_l1 (n : Nat) (w : List Ev) (x : Int × Int) (K : Int → Int → Option (List Ev × List Ev × Int)) : ∀ (m k : Nat), k ≤ w.length → w.length ≤ 1000000 → w.length < m + k → F_reorder_release_l1 n w x K m (k : Int) = K x.1 ((k + ((w.drop k).takeWhile (early x.1)).length : Nat) : Int)
  | 0, k, h1, h2, h3 => by omega
  | m + 1, k, h1, h2, h3 => by
    unfold F_reorder_release_l1
    simp only [List.length_map, cnd_if]
    by_cases h : k < w.length
    · rw [if_pos (by omega), idx_nat h, wrapS k (by omega), drop_eq_cons w k h, List.takeWhile_cons]
      by_cases h4 : w[k].fTime ≤ x.1
      · have e : early x.1 w[k] = true := by simpa [early] using h4
        rw [if_pos h4, e, if_pos rfl, p_release_l1 n w x K m (k + 1) (by omega) h2 (by omega), List.length_cons]
        congr 2; omega
      · have e : early x.1 w[k] = false := by simpa [early] using h4
        rw [if_neg h4, e]; simp
    · rw [if_neg (by omega), List.drop_eq_nil_of_le (by omega)]; simp
theorem p_rrelease_l1 (n : Nat) (w : List Ev) (x : Int × Int) (K : Int → Option (List Ev × List Ev × Int)) : ∀ (m k : Nat), k ≤ w.length → w.length ≤ 1000000 → w.length < m + k → F_tidegateref37_Release_l1 n w x K m (k : Int) = K ((k + ((w.drop k).takeWhile (early x.1)).length : Nat) : Int)
  | 0, k, h1, h2, h3 => by omega
  | m + 1, k, h1, h2, h3 => by
    unfold F_tidegateref37_Release_l1
    simp only [List.length_map, cnd_if]
    by_cases h : k < w.length
    · rw [if_pos (by omega), idx_nat h, wrapS k (by omega), drop_eq_cons w k h, List.takeWhile_cons]
      by_cases h4 : w[k].fTime ≤ x.1
      · have e : early x.1 w[k] = true := by simpa [early] using h4
        rw [if_pos h4, e, if_pos rfl, p_rrelease_l1 n w x K m (k + 1) (by omega) h2 (by omega), List.length_cons]
        congr 2; omega
      · have e : early x.1 w[k] = false := by simpa [early] using h4
        rw [if_neg h4, e]; simp
    · rw [if_neg (by omega), List.drop_eq_nil_of_le (by omega)]; simp
theorem tw_take {α : Type} (p : α → Bool) (w : List α) : w.take (w.takeWhile p).length = w.takeWhile p ∧ w.drop (w.takeWhile p).length = w.dropWhile p ∧ (w.takeWhile p).length ≤ w.length := by
  have h : w.takeWhile p ++ w.dropWhile p = w := List.takeWhile_append_dropWhile
  refine ⟨?_, ?_, (List.takeWhile_sublist _).length_le⟩
  · conv => lhs; arg 2; rw [← h]
    exact List.take_left
  · conv => lhs; arg 2; rw [← h]
    exact List.drop_left
theorem p_release37 (n : Nat) (l : List Trk) (w : List Ev) (hv : ∀ x ∈ w, sv x) (hl : w.length ≤ 500) (hn : 1000 ≤ n) : F_reorder_release n l w = some (w.takeWhile (early (wGlobal l).1), w.dropWhile (early (wGlobal l).1), (wGlobal l).1) := by
  unfold F_reorder_release
  rw [p_global n l (by omega), bnd_some]
  have := p_release_l1 n w (wGlobal l) (fun k1_0_0y0 k1_0_0y1 => sls w 0 k1_0_0y1 fun x44 => bnd (F_reorder_copied n x44) fun x45 => sls w k1_0_0y1 (((List.map e_api_Event w).length : Nat) : Int) fun x46 => bnd (F_reorder_copied n x46) fun x47 => some (x45, x47, k1_0_0y0)) n 0 (by omega) (by omega) (by omega)
  simp only [Int.natCast_zero, List.drop_zero, Nat.zero_add] at this
  rw [this]
  obtain ⟨t1, t2, t3⟩ := tw_take (early (wGlobal l).1) w
  have e1 := sls_ok (β := List Ev × List Ev × Int) (l := w) (a := 0) (b := (w.takeWhile (early (wGlobal l).1)).length) (by omega) t3
  simp only [Int.natCast_zero, List.drop_zero] at e1
  rw [e1, t1, p_copied37 n _ (fun x hx => hv x ((List.takeWhile_sublist _).subset hx)) (by omega) (by omega), bnd_some, List.length_map, sls_ok t3 (Nat.le_refl _), List.take_length, t2]
  have hd := (List.dropWhile_sublist (early (wGlobal l).1) (l := w)).length_le
  rw [p_copied37 n _ (fun x hx => hv x ((List.dropWhile_sublist _).subset hx)) (by omega) (by omega), bnd_some]
theorem glob_eq {l : List Trk} (h : wCheck l = 0) : wGlobal l = (leastOf l, 0) := by unfold wGlobal; rw [if_neg (by simpa using h)]
theorem p_Release37 (n : Nat) (l : List Trk) (w : List Ev) (hv : ∀ x ∈ w, sv x) (hl : w.length ≤ 500) (hn : 1000 ≤ n) : F_reorder_Release n l w = some (relS l w) := by
  unfold F_reorder_Release F_reorder_check relS
  rw [p_check n l (by omega), bnd_some]
  simp only [cnd_not, cnd_if]
  by_cases h : wCheck l = 0
  · rw [if_pos h, if_neg (by simpa using h), S05.p_chk n w (by omega) (by omega)]
    simp only [bnd_some]
    by_cases h2 : strChk w = 0
    · rw [if_pos h2, if_neg (by simpa using h2), p_release37 n l w hv hl hn, bnd_some, glob_eq h]
    · rw [if_neg h2, if_pos h2]
  · rw [if_neg h]; simp only [bnd_some]; rw [if_neg h, if_pos h]
theorem p_rRelease37 (n : Nat) (l : List Trk) (w : List Ev) (hl : w.length ≤ 500) (hn : 1000 ≤ n) : F_tidegateref37_Release n l w = some (relS l w) := by
  unfold F_tidegateref37_Release relS
  rw [p_rglobal n l (by omega), bnd_some]
  simp only [cnd_not, cnd_if]
  by_cases h : wCheck l = 0
  · rw [glob_eq h]
    simp only [if_true, if_pos h]
    rw [if_neg (show ¬ wCheck l ≠ 0 by simpa using h), S05.p_rchk n w (by omega) (by omega), bnd_some]
    by_cases h2 : strChk w = 0
    · rw [if_pos h2, if_neg (by simpa using h2)]
      have := p_rrelease_l1 n w (leastOf l, 0) (fun k1_0_0y => sls w 0 k1_0_0y fun x44 => sls w k1_0_0y (((List.map e_api_Event w).length : Nat) : Int) fun x45 => some (x44, x45, 0)) n 0 (by omega) (by omega) (by omega)
      simp only [Int.natCast_zero, List.drop_zero, Nat.zero_add] at this
      rw [this]
      obtain ⟨t1, t2, t3⟩ := tw_take (early (leastOf l)) w
      have e1 := sls_ok (β := List Ev × List Ev × Int) (l := w) (a := 0) (b := (w.takeWhile (early (leastOf l))).length) (by omega) t3
      simp only [Int.natCast_zero, List.drop_zero] at e1
      rw [e1, t1, List.length_map, sls_ok t3 (Nat.le_refl _), List.take_length, t2]
    · rw [if_neg h2, if_pos h2]
  · have e : (wGlobal l).2 = wCheck l := by unfold wGlobal; rw [if_pos h]
    rw [e, if_neg h, if_pos h]

theorem Inv.check {l : List Trk} {w R : List Ev} (h : Inv l w R) : wCheck l = 0 := (wCheck_zero l).2 ⟨h.len, h.ok⟩
theorem nxt_sv {l : List Trk} {w : List Ev} {m : T_api_Message} (hv : ∀ x ∈ w, sv x) (hm : sv m.fEvent) : ∀ x ∈ (nxt l w m).2, sv x := fun x hx => by
  unfold nxt at hx
  split at hx
  · simp only at hx
    split at hx
    · rcases mem_putR.1 hx with rfl | hx
      · exact hm
      · exact hv x hx
    · exact hv x hx
  · exact hv x hx
theorem p_attempt (n : Nat) {l : List Trk} {w R : List Ev} (h : Inv l w R) (m : T_api_Message) (hv : ∀ x ∈ w, sv x) (hm : sv m.fEvent) (hl : w.length ≤ 500) (hn : 1000 ≤ n) : F_reorder_steps_1_1_s97 n m l w = some (nxt l w m) := by
  unfold F_reorder_steps_1_1_s97
  rw [p_add37 n l w m hv hm hl hn, bnd_some, cnd_if, h.nxtE m (by omega)]
  split <;> rfl
theorem p_rel_next (n : Nat) {l : List Trk} {w R : List Ev} (h : Inv l w R) (m : T_api_Message) (hv : ∀ x ∈ w, sv x) (hm : sv m.fEvent) (hl : w.length ≤ 400) (hn : 1000 ≤ n) :
    F_reorder_release n (nxt l w m).1 (nxt l w m).2 = some (outS (nxt l w m), rstS (nxt l w m), leastOf (nxt l w m).1) ∧ wGlobal (nxt l w m).1 = (leastOf (nxt l w m).1, 0) ∧ relS (nxt l w m).1 (nxt l w m).2 = (outS (nxt l w m), rstS (nxt l w m), 0) ∧
    (∀ x ∈ rstS (nxt l w m), sv x) ∧ (outS (nxt l w m)).length + (rstS (nxt l w m)).length ≤ w.length + 1 := by
  obtain ⟨n1, _, _, _, n5, _⟩ := h.next m (by omega)
  have hnw := news_len l m
  have hg := glob_eq n1.check
  have hs := nxt_sv (l := l) hv hm
  have hor := congrArg List.length (out_rst (nxt l w m))
  rw [List.length_append] at hor
  have hst : Strm (nxt l w m).2 := by
    rw [← out_rst]
    have := n1.st
    rw [List.append_assoc] at this
    exact this.sub (List.sublist_append_right _ _)
  refine ⟨by rw [p_release37 n _ _ hs (by omega) hn, hg]; rfl, hg, ?_, fun x hx => hs x ((List.dropWhile_sublist _).subset hx), by omega⟩
  unfold relS
  rw [if_neg (by rw [n1.check]; simp), if_neg (by rw [hst.chk (by omega)]; simp)]
  rfl
theorem p_run37_l1 (n : Nat) (hn : 1000 ≤ n) (ms : List T_api_Message) (hms : ms.length ≤ 100) (hsv : ∀ m ∈ ms, sv m.fEvent) (K : List Trk → List Ev → List Int → Option (List Ev × List Int × List Trk × List T_api_Message)) : ∀ (f k : Nat) (l : List Trk) (w R out : List Ev) (mk : List Int), k ≤ ms.length → ms.length < f + k → Inv l w R → (∀ x ∈ w, sv x) → w.length + out.length ≤ k → mk.length ≤ k →
    F_reorder_steps_1_s101_l1 n ms K f ((k : Int), l, w, out, mk) = K (finW l w (ms.drop k)).1 (out ++ relW l w (ms.drop k)) (mk ++ mksW l w (ms.drop k))
  | 0, k, l, w, R, out, mk, h1, h2, hi, hv, h3, h4 => by omega
  | f + 1, k, l, w, R, out, mk, h1, h2, hi, hv, h3, h4 => by
    unfold F_reorder_steps_1_s101_l1
    simp only [List.length_map, cnd_if]
    by_cases h : k < ms.length
    · have hm := hsv _ (List.getElem_mem h)
      obtain ⟨q1, q2, _, q3, q4⟩ := p_rel_next n hi ms[k] hv hm (by omega) hn
      obtain ⟨n1, _⟩ := hi.next ms[k] (by omega)
      rw [if_pos (by omega), idx_nat h, wrapS k (by omega), p_attempt n hi ms[k] hv hm (by omega) hn, bnd_some, q1, bnd_some]
      unfold F_reorder_Run_b6
      rw [app_ok (by simp; omega) (by omega), app_ok (by simp; omega) (by omega), bnd_some]
      rw [p_run37_l1 n hn ms hms hsv K f (k + 1) _ _ _ _ _ (by omega) (by omega) n1 q3 (by simp; omega) (by simp; omega), drop_cons ms k h, relW_cons, mksW_cons]
      simp only [List.append_assoc, finW]
      rfl
    · rw [if_neg (by omega), List.drop_eq_nil_of_le (by omega)]; simp [finW, relW, mksW]
theorem p_peak37_l1 (n : Nat) (hn : 1000 ≤ n) (ms : List T_api_Message) (hms : ms.length ≤ 100) (hsv : ∀ m ∈ ms, sv m.fEvent) (K : Int → List Trk → Option (Int × List Trk × List T_api_Message)) : ∀ (f k : Nat) (l : List Trk) (w R : List Ev) (p : Int), k ≤ ms.length → ms.length < f + k → Inv l w R → (∀ x ∈ w, sv x) → w.length ≤ k →
    F_reorder_steps_1_l1 n ms K f ((k : Int), p, l, w) = K (pkW l w p (ms.drop k)) (finW l w (ms.drop k)).1
  | 0, k, l, w, R, p, h1, h2, hi, hv, h3 => by omega
  | f + 1, k, l, w, R, p, h1, h2, hi, hv, h3 => by
    unfold F_reorder_steps_1_l1
    simp only [List.length_map, cnd_if]
    by_cases h : k < ms.length
    · have hm := hsv _ (List.getElem_mem h)
      obtain ⟨q1, q2, _, q3, q4⟩ := p_rel_next n hi ms[k] hv hm (by omega) hn
      obtain ⟨n1, _⟩ := hi.next ms[k] (by omega)
      rw [if_pos (by omega), idx_nat h, wrapS k (by omega), p_attempt n hi ms[k] hv hm (by omega) hn, bnd_some, q1, bnd_some]
      unfold F_reorder_Peak_b5
      rw [bnd_some, p_peak37_l1 n hn ms hms hsv K f (k + 1) _ _ _ _ (by omega) (by omega) n1 q3 (by omega), drop_cons ms k h]
      rfl
    · rw [if_neg (by omega), List.drop_eq_nil_of_le (by omega)]; rfl
def runP (k : Int) (ms : List T_api_Message) : List Ev × List Int × Int :=
  if (beginT k).2 ≠ 0 then ([], [], (beginT k).2) else (relW (beginT k).1 [] ms, mksW (beginT k).1 [] ms, 0)
def peakP (k : Int) (ms : List T_api_Message) : Int × Int :=
  if (beginT k).2 ≠ 0 then (0, (beginT k).2) else (pkW (beginT k).1 [] 0 ms, 0)
theorem inv_begin (k : Int) (h : (beginT k).2 = 0) : Inv (beginT k).1 [] [] := by
  obtain ⟨h1, h2⟩ := begin_all k h
  exact ⟨h1, h2, ⟨by simp, .nil⟩, by simp, by simp, by simp⟩
theorem p_begin37 (n : Nat) (k : Int) (ms : List T_api_Message) (hms : ms.length ≤ 100) (hn : 1000 ≤ n) : F_reorder_begin n k ms = some (beginT k) := by
  unfold F_reorder_begin F_reorder_Begin
  rw [p_begin n k (by omega)]
  simp only [bnd_some, cnd_if, List.length_map]
  rw [if_neg (show ¬ (4096 : Int) < (ms.length : Int) by omega)]
  split <;> rfl
theorem p_run37 (n : Nat) (k : Int) (ms : List T_api_Message) (hms : ms.length ≤ 100) (hsv : ∀ m ∈ ms, sv m.fEvent) (hn : 1000 ≤ n) : F_reorder_Run n k ms = some (runP k ms) := by
  unfold F_reorder_Run runP
  rw [p_begin37 n k ms hms hn, bnd_some]
  simp only [cnd_not, cnd_if]
  by_cases h : (beginT k).2 = 0
  · rw [if_pos h, if_neg (by simpa using h)]
    unfold F_reorder_steps F_reorder_steps_1_s101
    rw [bnd_some]
    have := p_run37_l1 n hn ms hms hsv (fun k1_0_0y0 k1_0_0y1 k1_0_0y2 => some (k1_0_0y1, k1_0_0y2, k1_0_0y0, ms)) n 0 (beginT k).1 [] [] [] [] (by omega) (by omega) (inv_begin k h) (by simp) (by simp) (by simp)
    simp only [Int.natCast_zero, List.drop_zero, List.nil_append] at this
    rw [this, bnd_some]
  · rw [if_neg h, if_pos h]
theorem p_peak37 (n : Nat) (k : Int) (ms : List T_api_Message) (hms : ms.length ≤ 100) (hsv : ∀ m ∈ ms, sv m.fEvent) (hn : 1000 ≤ n) : F_reorder_Peak n k ms = some (peakP k ms) := by
  unfold F_reorder_Peak peakP
  rw [p_begin37 n k ms hms hn, bnd_some]
  simp only [cnd_not, cnd_if]
  by_cases h : (beginT k).2 = 0
  · rw [if_pos h, if_neg (by simpa using h)]
    unfold F_reorder_steps F_reorder_steps_1
    rw [bnd_some]
    have := p_peak37_l1 n hn ms hms hsv (fun k1_0_0y0 k1_0_0y1 => some (k1_0_0y0, k1_0_0y1, ms)) n 0 (beginT k).1 [] [] 0 (by omega) (by omega) (inv_begin k h) (by simp) (by simp)
    simp only [Int.natCast_zero, List.drop_zero] at this
    rw [this, bnd_some]
  · rw [if_neg h, if_pos h]
def few37 (l : List T_api_Message) : Bool := (l.take 60).all (fun m => decide (m.fEvent.fValues.length ≤ 12)) && decide (l.length ≤ 40)
theorem p_few37_l1 (n : Nat) (l : List T_api_Message) : ∀ (m k : Nat), k ≤ l.length → k ≤ 60 → 60 < m + k → F_tidegateref37_Few_l1 n l (some (decide ((l.length : Int) ≤ 40))) m (k : Int) = some (((l.take 60).drop k).all (fun m => decide (m.fEvent.fValues.length ≤ 12)) && decide (l.length ≤ 40))
  | 0, k, h1, h2, h3 => by omega
  | m + 1, k, h1, h2, h3 => by
    unfold F_tidegateref37_Few_l1
    simp only [List.length_map, cnd_if]
    by_cases h : k < l.length
    · rw [if_pos (by omega)]
      by_cases h12 : k < 60
      · have hk : k < (l.take 60).length := by simp; omega
        have e : (l.take 60)[k] = l[k] := by simp
        rw [if_pos (by omega), idx_nat h, wrapS k (by omega), p_few37_l1 n l m (k + 1) (by omega) (by omega) (by omega), drop_cons _ k hk, e, List.all_cons]
        by_cases h5 : l[k].fEvent.fValues.length ≤ 12
        · rw [if_neg (by omega)]; simp [h5]
        · rw [if_pos (by omega)]; simp [h5]
      · rw [if_neg (by omega), List.drop_eq_nil_of_le (by simp; omega)]
        simp; omega
    · rw [if_neg (by omega), List.drop_eq_nil_of_le (by simp; omega)]
      simp; omega
theorem p_few37 (n : Nat) (l : List T_api_Message) (hn : 100 ≤ n) : F_tidegateref37_Few n l = some (few37 l) := by
  unfold F_tidegateref37_Few few37
  simp only [List.length_map]
  have := p_few37_l1 n l n 0 (by omega) (by omega) (by omega)
  simpa using this
theorem few37_out {l : List T_api_Message} (h : few37 l = true) : l.length ≤ 40 ∧ ∀ m ∈ l, sv m.fEvent := by
  unfold few37 at h
  simp only [Bool.and_eq_true, decide_eq_true_eq, List.all_eq_true] at h
  refine ⟨h.2, fun m hm => h.1 m ?_⟩
  rw [List.take_of_length_le (by omega)]
  exact hm
theorem p_eqI_l1 (n : Nat) (a b : List Int) (hab : a.length = b.length) (ha : a.length ≤ 1000000) : ∀ (m k : Nat), k ≤ a.length → a.length < m + k → F_slices_Equal_s106_l1 n b a (some true) m (k : Int) = some (decide (a.drop k = b.drop k))
  | 0, k, h1, h3 => by omega
  | m + 1, k, h1, h3 => by
    unfold F_slices_Equal_s106_l1
    simp only [List.length_map, cnd_if, cnd_not]
    by_cases h : k < a.length
    · have hb : k < b.length := by omega
      rw [if_pos (by omega), idx_nat h, idx_nat hb, wrapS k (by omega), p_eqI_l1 n a b hab ha m (k + 1) (by omega) (by omega), drop_eq a b k h hb]
      by_cases h2 : a[k] = b[k] <;> simp [h2]
    · rw [if_neg (by omega), List.drop_eq_nil_of_le (by omega), List.drop_eq_nil_of_le (by omega)]; simp
theorem p_eqI (n : Nat) (a b : List Int) (ha : a.length ≤ 1000000) (hn : a.length < n) : F_slices_Equal_s106 n a b = some (decide (a = b)) := by
  unfold F_slices_Equal_s106
  simp only [List.length_map, cnd_if, cnd_not]
  by_cases h : a.length = b.length
  · rw [if_pos (by omega)]
    have := p_eqI_l1 n a b h ha n 0 (by omega) (by omega)
    simpa using this
  · rw [if_neg (by omega)]
    have : a ≠ b := fun e => h (by rw [e])
    simp [this]
end Go.Proofs.YtimkhfaddnanhaaGreat
namespace Go.Proofs.YtimkhfaddnanhaaGreat
open Go.RowKit
open S05

def evE (s t : Int) : T_api_Message := ⟨0, ⟨0, s, 0, t, []⟩, 0, 0, 0⟩
def ptE (s t : Int) : T_api_Message := ⟨1, ⟨0, 0, 0, 0, []⟩, 0, s, t⟩
theorem ex37a : runP 1 [evE 1 7, evE 0 4, ptE 2 5] = ([⟨0, 0, 0, 4, []⟩], [-1, -1, 5], 0) := by decide +kernel
theorem ex37b : runP 1 [ptE 2 5, evE 1 7, evE 0 4] = ([⟨0, 0, 0, 4, []⟩], [-1, -1, 5], 0) := by decide +kernel
theorem ex37c : peakP 1 [evE 1 7, evE 0 4, ptE 2 5] = (2, 0) := by decide +kernel
theorem ex37d : runP 2 [evE 1 7, evE 0 4, ptE 2 5] = ([], [-1, -1, -1], 0) := by decide +kernel
theorem p_Same37 {a : List Ev} (hv : ∀ x ∈ a, sv x) (hl : a.length ≤ 500) (b : List Ev) : F_tidegateref05_Same 100000 a b = some (decide (a = b)) := S05.p_rSame _ a b (fun x hx => (hv x hx).few (by omega)) (by omega) (by omega)
theorem awake37 : F_tidegatelaw37_awake 100000 = some true := by
  unfold F_tidegatelaw37_awake F_tidegatelaw37_event F_tidegatelaw37_point
  simp only [bnd_some]
  have s3 : ∀ (a b c : T_api_Message), sv a.fEvent → sv b.fEvent → sv c.fEvent → ∀ m ∈ [a, b, c], sv m.fEvent := fun a b c ha hb hc m hm => by
    simp only [List.mem_cons, List.not_mem_nil, or_false] at hm
    rcases hm with rfl | rfl | rfl <;> assumption
  have z : ∀ s t, sv (evE s t).fEvent := fun s t => by unfold sv evE; simp
  have z2 : ∀ s t, sv (ptE s t).fEvent := fun s t => by unfold sv ptE; simp
  have r1 := p_run37 100000 1 [evE 1 7, evE 0 4, ptE 2 5] (by simp) (s3 _ _ _ (z _ _) (z _ _) (z2 _ _)) (by omega)
  have r2 := p_run37 100000 1 [ptE 2 5, evE 1 7, evE 0 4] (by simp) (s3 _ _ _ (z2 _ _) (z _ _) (z _ _)) (by omega)
  have r3 := p_peak37 100000 1 [evE 1 7, evE 0 4, ptE 2 5] (by simp) (s3 _ _ _ (z _ _) (z _ _) (z2 _ _)) (by omega)
  have r4 := p_run37 100000 2 [evE 1 7, evE 0 4, ptE 2 5] (by simp) (s3 _ _ _ (z _ _) (z _ _) (z2 _ _)) (by omega)
  rw [ex37a] at r1
  rw [ex37b] at r2
  rw [ex37c] at r3
  rw [ex37d] at r4
  unfold evE ptE at r1 r2 r3 r4
  rw [r1, bnd_some, r2, bnd_some, r3, bnd_some, r4, bnd_some]
  simp only [cnd_not, cnd_if, if_true, List.map_nil, List.length_nil]
  have hs : F_tidegateref05_Same 100000 [(⟨0, 0, 0, 4, []⟩ : Ev)] [⟨0, 0, 0, 4, []⟩] = some true := by
    rw [p_Same37 (fun x hx => by rw [List.mem_singleton.1 hx]; unfold sv; simp) (by simp)]; simp
  have he : F_slices_Equal_s106 100000 [-1, -1, 5] [-1, -1, 5] = some true := by rw [p_eqI _ _ _ (by simp) (by simp)]; simp
  rw [if_pos (by decide)]
  simp only [hs, he, bnd_some, cnd_t]

theorem Same_refl {a : List Ev} (hv : ∀ x ∈ a, sv x) (hl : a.length ≤ 500) : F_tidegateref05_Same 100000 a a = some true := by rw [p_Same37 hv hl]; simp
theorem run_out (k : Int) (h : (beginT k).2 = 0) (ms : List T_api_Message) (hms : ms.length ≤ 100) :
    Inv (finW (beginT k).1 [] ms).1 (finW (beginT k).1 [] ms).2 (relW (beginT k).1 [] ms) ∧ (∀ e ∈ relW (beginT k).1 [] ms ++ (finW (beginT k).1 [] ms).2, ∃ m ∈ ms, e = m.fEvent) ∧ (relW (beginT k).1 [] ms).length ≤ ms.length := by
  obtain ⟨i1, _, _, _, _, _, _, i8, i9, i10, _⟩ := Inv.run ms _ [] [] (inv_begin k h) (by simp; omega)
  have nw : ∀ (ms : List T_api_Message) (l : List Trk), ∀ e ∈ newsW l ms, ∃ m ∈ ms, e = m.fEvent := fun ms => by
    induction ms with
    | nil => intro l e he; simp [newsW] at he
    | cons m r ih =>
      intro l e he
      unfold newsW at he
      rcases List.mem_append.1 he with he | he
      · unfold news at he
        split at he
        · exact ⟨m, by simp, List.mem_singleton.1 he⟩
        · simp at he
      · obtain ⟨m', h1, h2⟩ := ih _ e he
        exact ⟨m', by simp [h1], h2⟩
  refine ⟨by simpa using i1, fun e he => ?_, ?_⟩
  · rcases (i8 e).1 he with h | h
    · simp at h
    · exact nw ms _ e h
  · simp only [List.length_nil] at i9; omega
theorem runP_out (k : Int) (ms : List T_api_Message) (hms : ms.length ≤ 100) (hsv : ∀ m ∈ ms, sv m.fEvent) : (∀ x ∈ (runP k ms).1, sv x) ∧ (runP k ms).1.length ≤ 100 ∧ (runP k ms).2.1.length ≤ 100 := by
  unfold runP
  by_cases h : (beginT k).2 = 0
  · rw [if_neg (by simpa using h)]
    obtain ⟨_, r2, r3⟩ := run_out k h ms hms
    refine ⟨fun x hx => ?_, by simp only; omega, by rw [mksW_len]; exact hms⟩
    obtain ⟨m, h1, h2⟩ := r2 x (by simp only at hx; simp [hx])
    rw [h2]; exact hsv m h1
  · rw [if_pos h]; simp
end Go.Proofs.YtimkhfaddnanhaaGreat
namespace Go.Proofs.YtimkhfaddnanhaaGreat
open Go.RowKit
open S05

theorem wrap_pred' {k : Nat} (h0 : 0 < k) (h : k ≤ 1000000) : IntKind.wrap .i64 ((k : Int) - 1) = ((k - 1 : Nat) : Int) := by rw [wrap_in _ (by omega)]; omega
theorem mod_wrap (a b : Int) (h : 0 ≤ a) (h2 : a < 256) (hb : 0 < b) (hb2 : b ≤ 256) : IntKind.wrap .i64 (a.tmod b) = a.tmod b ∧ 0 ≤ a.tmod b ∧ a.tmod b < b := by
  have h1 := Int.tmod_nonneg b h
  have h3 := Int.tmod_lt_of_pos a hb
  exact ⟨wrap_in _ (by omega), h1, h3⟩
theorem begin_ok37 {k : Int} (h0 : 0 ≤ k) (h8 : k ≤ 8) : beginT k = (List.replicate k.toNat t0, 0) := by unfold beginT; rw [if_neg (by omega)]
end Go.Proofs.YtimkhfaddnanhaaGreat
namespace Go.Proofs.YtimkhfaddnanhaaGreat
open Go.RowKit
open S05

def evsOf (ms : List T_api_Message) : List Ev := (ms.filter fun m => decide (m.fKind = 0)).map (·.fEvent)
theorem evsOf_mem {ms : List T_api_Message} {e : Ev} : e ∈ evsOf ms ↔ ∃ m ∈ ms, m.fKind = 0 ∧ m.fEvent = e := by
  unfold evsOf
  simp only [List.mem_map, List.mem_filter, decide_eq_true_eq]
  exact ⟨fun ⟨m, ⟨a, b⟩, c⟩ => ⟨m, a, b, c⟩, fun ⟨m, a, b, c⟩ => ⟨m, ⟨a, b⟩, c⟩⟩
theorem evsOf_len (ms : List T_api_Message) : (evsOf ms).length ≤ ms.length := by unfold evsOf; rw [List.length_map]; exact List.length_filter_le _ _
theorem evsOf_cons (m : T_api_Message) (ms : List T_api_Message) : evsOf (m :: ms) = (if m.fKind = 0 then [m.fEvent] else []) ++ evsOf ms := by
  unfold evsOf
  by_cases h : m.fKind = 0 <;> simp [h]
theorem p_hon37_l1 (n : Nat) (ms : List T_api_Message) (a0 : Int) (K : List Ev → Option (List Ev × Bool)) (hl : ms.length ≤ 1000) : ∀ (f k : Nat) (acc : List Ev), k ≤ ms.length → ms.length < f + k → acc.length ≤ k → F_tidegatelaw37_honest_l1 n ms a0 K f ((k : Int), acc) = K (acc ++ evsOf (ms.drop k))
  | 0, k, acc, h1, h2, h3 => by omega
  | f + 1, k, acc, h1, h2, h3 => by
    unfold F_tidegatelaw37_honest_l1
    simp only [List.length_map, cnd_if]
    by_cases h : k < ms.length
    · rw [if_pos (by omega), idx_nat h, wrapS k (by omega), drop_cons ms k h, evsOf_cons]
      by_cases h0 : ms[k].fKind = 0
      · rw [if_pos h0, if_pos h0, app_ok (by simp; omega) (by omega), p_hon37_l1 n ms a0 K hl f (k + 1) _ (by omega) (by omega) (by simp; omega), List.append_assoc]
      · rw [if_neg h0, if_neg h0, p_hon37_l1 n ms a0 K hl f (k + 1) _ (by omega) (by omega) (by omega), List.nil_append]
    · rw [if_neg (by omega), List.drop_eq_nil_of_le (by omega)]; simp [evsOf]
theorem p_hon37 (k : Int) (ms : List T_api_Message) (hl : ms.length ≤ 40) (hsv : ∀ m ∈ ms, sv m.fEvent) : F_tidegatelaw37_honest 100000 k ms = some (if (sortS (evsOf ms)).2 = 0 then ((sortS (evsOf ms)).1, honB k ms) else ((sortS (evsOf ms)).1, false)) := by
  unfold F_tidegatelaw37_honest
  have := p_hon37_l1 100000 ms k (fun k1_0_0y => frz 7024 <| reg <| bnd (F_tidegateref05_Sort 100000 k1_0_0y) fun x42 => cnd (decide (x42.2 = 0)) (bnd (F_tidegateref36_Honest 100000 k ms) fun x43 => some (x42.1, x43)) <| some (x42.1, false)) (by omega) 100000 0 [] (by omega) (by omega) (by simp)
  simp only [Int.natCast_zero, List.drop_zero, List.nil_append] at this
  have hle := evsOf_len ms
  rw [this, frz_eq, reg_eq, S05.p_rsort _ _ (fun x hx => by
    obtain ⟨m, h1, _, h3⟩ := evsOf_mem.1 hx
    rw [← h3]; exact (hsv m h1).few (by omega)) (by omega) (by omega), bnd_some, cnd_if, p_honest _ k ms (by omega) (by omega), bnd_some]
  split <;> rfl
theorem sortS_ok37 {l : List Ev} (h : (sortS l).2 = 0) : (sortS l).1 = srt l ∧ DistI l := by
  unfold sortS at h ⊢
  by_cases h1 : allE l = 0
  · rw [if_neg (by simpa using h1)] at h ⊢
    by_cases h2 : DistI l
    · rw [if_pos h2]; exact ⟨rfl, h2⟩
    · rw [if_neg h2] at h; exact absurd h (by simp)
  · rw [if_pos h1] at h; exact absurd h h1
theorem newsW_flag : ∀ (ms : List T_api_Message) (l : List Trk) (e : Ev), e ∈ newsW l ms ↔ ∃ (i : Nat) (hi : i < ms.length) (hj : i < (runS l ms).2.length), (runS l ms).2[i] = true ∧ e = ms[i].fEvent
  | [], l, e => by simp [newsW]
  | m :: r, l, e => by
    unfold newsW news
    by_cases h0 : (stepT l m).2.2 = 0
    · rw [if_pos h0, List.mem_append, newsW_flag r _ e, runS_ok h0]
      constructor
      · rintro (h | ⟨i, hi, hj, h1, h2⟩)
        · split at h
          · rename_i h3
            exact ⟨0, by simp, by simp, h3.2, List.mem_singleton.1 h⟩
          · simp at h
        · exact ⟨i + 1, by simpa using hi, by simpa using hj, by simpa using h1, by simpa using h2⟩
      · rintro ⟨i, hi, hj, h1, h2⟩
        cases i with
        | zero =>
          left
          simp only [List.getElem_cons_zero] at h1 h2
          rw [if_pos ⟨h0, h1⟩, h2]; simp
        | succ i =>
          right
          simp only [List.getElem_cons_succ] at h1 h2
          exact ⟨i, by simpa using hi, by simpa using hj, h1, h2⟩
    · rw [if_neg (fun h => h0 h.1), if_neg h0, List.nil_append, newsW_flag r _ e, runS_err h0]
      constructor
      · rintro ⟨i, hi, hj, h1, h2⟩
        exact ⟨i + 1, by simpa using hi, by simpa using hj, by simpa using h1, by simpa using h2⟩
      · rintro ⟨i, hi, hj, h1, h2⟩
        cases i with
        | zero => simp at h1
        | succ i =>
          simp only [List.getElem_cons_succ] at h1 h2
          exact ⟨i, by simpa using hi, by simpa using hj, h1, h2⟩
theorem news_hon (ms : List T_api_Message) (hd : DistI (evsOf ms)) (fl : List Bool) (hfl : fl.length = ms.length) (hf : ∀ i (hi : i < ms.length) (hj : i < fl.length), fl[i] = newB (ms.take i) ms[i]) (e : Ev) :
    (∃ (i : Nat) (hi : i < ms.length) (hj : i < fl.length), fl[i] = true ∧ e = ms[i].fEvent) ↔ e ∈ evsOf ms := by
  constructor
  · rintro ⟨i, hi, hj, h1, h2⟩
    rw [hf i hi hj] at h1
    unfold newB at h1
    simp only [Bool.and_eq_true, decide_eq_true_eq] at h1
    exact evsOf_mem.2 ⟨ms[i], List.getElem_mem hi, h1.1, h2.symm⟩
  · intro he
    obtain ⟨m, hm, h0, h1⟩ := evsOf_mem.1 he
    obtain ⟨j, hj, rfl⟩ := List.getElem_of_mem hm
    have key : ∀ (j : Nat) (hj : j < ms.length), ms[j].fKind = 0 → idt ms[j].fEvent = idt e → ∃ (i : Nat) (hi : i < ms.length) (hj : i < fl.length), fl[i] = true ∧ ms[i].fKind = 0 ∧ idt ms[i].fEvent = idt e := fun j => by
      induction j using Nat.strongRecOn with
      | ind j ih =>
        intro hj k0 k1
        cases hb : newB (ms.take j) ms[j] with
        | true => exact ⟨j, hj, by omega, by rw [hf j hj (by omega), hb], k0, k1⟩
        | false =>
          unfold newB at hb
          rw [decide_eq_true k0, Bool.true_and, Bool.not_eq_false', List.any_eq_true] at hb
          obtain ⟨m', hm', h3⟩ := hb
          obtain ⟨i, hi, rfl⟩ := List.getElem_of_mem hm'
          simp only [Bool.and_eq_true, decide_eq_true_eq, List.getElem_take] at h3
          have hij : i < j := by rw [List.length_take] at hi; omega
          refine ih i hij (by omega) h3.1 ?_
          rw [← k1]
          refine idt_eq.2 ⟨?_, h3.2.2⟩
          have := h3.2.1
          unfold srcOf at this
          rwa [if_pos h3.1, if_pos k0] at this
    obtain ⟨i, hi, hj', h2, h3, h4⟩ := key j hj h0 (by rw [h1])
    refine ⟨i, hi, hj', h2, ?_⟩
    exact (hd _ (evsOf_mem.2 ⟨_, List.getElem_mem hi, h3, rfl⟩) e he h4).symm
theorem evsOf_congr {ms ms' : List T_api_Message} (h : ∀ m, m ∈ ms' ↔ m ∈ ms) : ∀ e, e ∈ evsOf ms' ↔ e ∈ evsOf ms := fun e => by
  rw [evsOf_mem, evsOf_mem]
  exact ⟨fun ⟨m, a, b⟩ => ⟨m, (h m).1 a, b⟩, fun ⟨m, a, b⟩ => ⟨m, (h m).2 a, b⟩⟩
theorem hon_run {k : Nat} (hk : k ≤ 8) {ms : List T_api_Message} (hH : Hon k (· ∈ ms)) (hd : DistI (evsOf ms)) (ms' : List T_api_Message) (hm : ∀ m, m ∈ ms' ↔ m ∈ ms) (hl : ms'.length ≤ 100) :
    Got k (finW (List.replicate k t0) [] ms').1 ms' ∧ Inv (finW (List.replicate k t0) [] ms').1 (finW (List.replicate k t0) [] ms').2 (relW (List.replicate k t0) [] ms') ∧
    relW (List.replicate k t0) [] ms' ++ (finW (List.replicate k t0) [] ms').2 = srt (evsOf ms) ∧ relW (List.replicate k t0) [] ms' = (srt (evsOf ms)).filter (early (leastOf (finW (List.replicate k t0) [] ms').1)) ∧
    (∀ g, (mksW (List.replicate k t0) [] ms').getLast? = some g → g = leastOf (finW (List.replicate k t0) [] ms').1) ∧ pkW (List.replicate k t0) [] 0 ms' ≤ (srt (evsOf ms)).length := by
  have hb : beginT (k : Int) = (List.replicate k t0, 0) := begin_ok37 (k := (k : Int)) (by omega) (by omega)
  have hi := inv_begin (k : Int) (by rw [hb])
  rw [hb] at hi
  simp only at hi
  obtain ⟨i1, i2, i3, i4, i5, i6, i7, i8, i9, i10, i11⟩ := Inv.run ms' _ [] [] hi (by simp; omega)
  simp only [List.nil_append] at i1
  obtain ⟨g1, g2⟩ := got_run hH hk ms' [] _ (got_zero k) (by simp) (fun m h => (hm m).1 h) (by simp; omega)
  simp only [List.nil_append] at g1 g2
  rw [← i3] at g1
  have hmem : ∀ e, e ∈ relW (List.replicate k t0) [] ms' ++ (finW (List.replicate k t0) [] ms').2 ↔ e ∈ evsOf ms := fun e => by
    rw [i8 e, newsW_flag ms' _ e, ← evsOf_congr hm]
    simp only [List.not_mem_nil, false_or]
    exact news_hon ms' (fun x hx y hy => hd x ((evsOf_congr hm x).1 hx) y ((evsOf_congr hm y).1 hy)) _ (runS_len _ _) g2 e
  have hs := srt_uniq hd hmem i1.st.dist.2 (i1.st.pw.imp Bef.not)
  refine ⟨g1, i1, hs, ?_, i7, ?_⟩
  · rw [← hs, List.filter_append]
    have h1 : (relW (List.replicate k t0) [] ms').filter (early (leastOf (finW (List.replicate k t0) [] ms').1)) = relW (List.replicate k t0) [] ms' := List.filter_eq_self.2 fun x hx => by
      have := i1.soon x hx
      simpa [early] using this
    have h2 : (finW (List.replicate k t0) [] ms').2.filter (early (leastOf (finW (List.replicate k t0) [] ms').1)) = [] := List.filter_eq_nil_iff.2 fun x hx => by
      have := i1.late x hx
      simp [early]; omega
    rw [h1, h2, List.append_nil]
  · refine i11 0 _ (by omega) ?_
    rw [← hs, List.length_append]
    simp only [List.length_nil] at i9 ⊢
    omega
theorem mod3 (a : Int) (h0 : 0 ≤ a) (h1 : a < 256) : ∃ k : Nat, 1 ≤ k ∧ k ≤ 3 ∧ IntKind.wrap .i64 (IntKind.wrap .i64 (a.tmod 3) + 1) = (k : Int) := by
  obtain ⟨w1, w2, w3⟩ := mod_wrap a 3 h0 h1 (by omega) (by omega)
  refine ⟨(a.tmod 3 + 1).toNat, by omega, by omega, ?_⟩
  rw [w1, wrap_in _ (by omega)]
  omega
end Go.Proofs.YtimkhfaddnanhaaGreat
namespace Go.Proofs.YtimkhfaddnanhaaGreat
open Go.RowKit

def startG (args : List AV) (me : List (Nat × Ent)) : AS := ⟨args.zipIdx.map fun p => (p.2, p.1), me⟩
def boxB (np : Nat) (args : List AV) (τ : AS) (me me' : List (Nat × Ent)) (yk : List Nat) : Bool := me.all fun x => match x.2 with
  | .box _ _ => memB x.1 yk || (List.range np).any fun t => (match args[t]? with | some (.ptr k 0) => Nat.beq k x.1 | _ => false) && (match τ.get t, lkE me' x.1 with | .ptr k 0, some (.box _ _) => Nat.beq k x.1 | _, _ => false)
  | _ => true
def YK (args : List AV) (τ : AS) (me' : List (Nat × Ent)) : List Nat → Prop
  | [] => True
  | k :: r => (∃ (t t' i l : Nat) (T : Array Value) (caps caps' : List AV) (ty : TypeId) (es : List AV), args[t]? = some (.yld l T caps) ∧ τ.get t' = .yld l T caps' ∧ caps[i]? = some (.ptr k 0) ∧ caps'[i]? = some (.ptr k 0) ∧ lkE me' k = some (.box ty es)) ∧ YK args τ me' r
theorem YK.at {args : List AV} {τ : AS} {me' : List (Nat × Ent)} : ∀ {l : List Nat}, YK args τ me' l → ∀ k ∈ l, ∃ (t t' i l : Nat) (T : Array Value) (caps caps' : List AV) (ty : TypeId) (es : List AV), args[t]? = some (.yld l T caps) ∧ τ.get t' = .yld l T caps' ∧ caps[i]? = some (.ptr k 0) ∧ caps'[i]? = some (.ptr k 0) ∧ lkE me' k = some (.box ty es)
  | [], _, k, hk => by cases hk
  | x :: r, h, k, hk => by
    rcases List.mem_cons.1 hk with rfl | hk
    · exact h.1
    · exact h.2.at k hk
inductive GX (E : Env) (nt : Nat) (fn : Func) (args : List AV) (me : List (Nat × Ent)) (σ : AS) (res : AV) (me' : List (Nat × Ent)) : Prop
  | mk (τ : AS) (hl : LeX E nt σ τ) (hme : τ.me = me') (avs : List AV) (h1 : retA E.tab τ fn.results.toList = some avs) (h2 : Sub (packA avs) res) (yk : List Nat) (hyk : YK args τ me' yk) (hb : boxB E.np args τ me me' yk = true)
def EndG (E : Env) (nt : Nat) (fn : Func) (args : List AV) (me : List (Nat × Ent)) (res : AV) (me' : List (Nat × Ent)) : Exit → AS → Prop
  | .normal, σ => GX E nt fn args me σ res me'
  | .ret, σ => GX E nt fn args me σ res me'
  | _, _ => False
theorem ConG.walk {E : Env} {f : FuncId} {fn : Func} {args caps : List AV} {me me' : List (Nat × Ent)} {res : AV} (c : Code) (hf : E.P.funcs[f]? = some fn) (hb : fn.body = some c) (hn : Nat.ble (args ++ caps).length fn.ntmps = true) (hnp : Nat.ble E.np (args ++ caps).length = true) (hrg : E.rg = false) (hdr : E.dr = false)
    (h : AW E fn.ntmps (EndG E fn.ntmps fn (args ++ caps) me res me') [.code c] .normal (startG (args ++ caps) me)) : ConG E.P E.yl (CalF E.P f caps.length) args caps me res me' := by
  intro cx γ w vs cs hP hdr0 hyl hnt0 hnp0 hme hvs hva hca hcs
  have hlen : (vs ++ cs).size = (args ++ caps).length := by simp [hvs, hcs]
  have hn' := Nat.le_of_ble_eq_true hn
  have hnp' := Nat.le_of_ble_eq_true hnp
  refine callsIn_wide.1 (callsIn_of_wp (F := Fence.wide) (n := 0) hf hb trivial ?_)
  let cx' : Cx := ⟨E, cx.S0, cx.w0, fn.ntmps, fun b => b < w.heap.size ∧ ¬ own γ b, w, none, vs ++ cs, fun _ => rfl⟩
  have h0 : WP cx' c (EndG E fn.ntmps fn (args ++ caps) me res me') (startG (args ++ caps) me) := WP.mono (h.out cx' rfl rfl) fun e σ hk => by cases e <;> exact hk
  have hrep : ∀ t (ht : t < (args ++ caps).length), Rep w (Sg cx.S0 cx.w0.heap.size γ) γ (args ++ caps)[t] ((vs ++ cs).getD t undef) := fun t ht => by
    by_cases h1 : t < args.length
    · rw [List.getElem_append_left h1, Array.getD_eq_getD_getElem?, Array.getElem?_append_left (by omega), ← Array.getD_eq_getD_getElem?]
      exact hva t h1
    · rw [List.getElem_append_right (by omega), Array.getD_eq_getD_getElem?, Array.getElem?_append_right (by omega), ← Array.getD_eq_getD_getElem?, hvs]
      exact hca _ (by rw [List.length_append] at ht; omega)
  have hget : ∀ t, t < (args ++ caps).length → (vs ++ cs ++ Array.replicate (fn.ntmps - (vs ++ cs).size) undef).getD t undef = (vs ++ cs).getD t undef := fun t ht => by
    rw [Array.getD_eq_getD_getElem?, Array.getD_eq_getD_getElem?, Array.getElem?_append_left (by omega)]
  have hst : StG cx' γ (startG (args ++ caps) me) { tmps := vs ++ cs ++ Array.replicate (fn.ntmps - (vs ++ cs).size) undef, defers := [] } w := by
    refine ⟨fun t => ?_, hme.me, hme.inj, hme.ge, hme.below, ?_, ⟨fun _ => rfl, ⟨[], rfl, .nil, fun r hr => by cases hr⟩, fun t ht => ?_, fun l R hl => hme.defers.yl l R (hyl _ hl), Nat.le_refl _⟩, hme.gh, fun b hb => ⟨hb.2, hb.1, rfl⟩, fun hd => ?_⟩
    · unfold AS.get startG
      rw [lkV_zip]
      by_cases ht : 0 ≤ t ∧ t < 0 + (args ++ caps).length
      · rw [dif_pos ht]
        have ht' : t < (args ++ caps).length := by omega
        show Rep w _ γ _ ((vs ++ cs ++ Array.replicate (fn.ntmps - (vs ++ cs).size) undef).getD t undef)
        rw [hget t ht']
        exact hrep t ht'
      · rw [dif_neg ht]; exact .any _
    · show (vs ++ cs ++ Array.replicate (fn.ntmps - (vs ++ cs).size) undef).size = fn.ntmps
      rw [Array.size_append, Array.size_replicate]; omega
    · have ht' : t < E.np := ht
      exact hget t (by omega)
    · exact absurd (hdr.symm.trans hd) (by simp)
  refine wpIn_mono (h0 _ _ ⟨γ, hst⟩) (fun e a w' ⟨σ, hq, hst0⟩ => ?_)
  have key : GX E fn.ntmps fn (args ++ caps) me σ res me' → bodyPost E.P fn (fun e w' => ∃ u γ', e = .returned u ∧ MeSt cx γ' me' w' ∧ Rep w' (Sg cx.S0 cx.w0.heap.size γ') γ' res u ∧ w.heap.size ≤ w'.heap.size ∧ (∀ i ty es, lkE me i = some (.box ty es) → γ' i = γ i) ∧
      (∀ b, ¬ own γ b → b < w.heap.size → w'.heap[b]? = w.heap[b]? ∧ ¬ own γ' b)) .ret a w' := by
    rintro ⟨τ, hl, hme', avs, h1, h2, yk, hyk, hbx⟩
    obtain ⟨γ', hs⟩ := hl cx' rfl rfl a w' hst0
    obtain ⟨u, hu, hr⟩ := results_run hs h1
    have hfr : ∀ b, ¬ own γ b → b < w.heap.size → w'.heap[b]? = w.heap[b]? ∧ ¬ own γ' b := fun b hb hlt => by
      obtain ⟨q1, q2, q3⟩ := hs.fr b ⟨hlt, hb⟩
      exact ⟨q3, q1⟩
    have hsz : w.heap.size ≤ w'.heap.size := hs.defers.sz
    refine ⟨hs.defers.d0 hrg, u, hu, u, γ', rfl, ?_, hr.sub h2, hsz, fun i ty es hi => ?_, hfr⟩
    · refine ⟨fun t => .any _, fun i => by have := hs.me i; unfold AS.find at this ⊢; rw [← hme']; exact this, hs.inj, hs.ge, hs.below, hnt0.symm, ⟨fun _ => rfl, ⟨[], rfl, .nil, fun r hr => by cases hr⟩, fun t ht => by rw [hnp0] at ht; omega, fun l R hl => ?_, Nat.le_trans hme.defers.sz hsz⟩, hs.gh, fun b hb => ?_, fun hd => absurd (hdr0.symm.trans hd) (by simp)⟩
      · obtain ⟨q0, q1, q2, q3⟩ := hme.defers.yl l R hl
        obtain ⟨k1, k2⟩ := hfr l q2 q1
        exact ⟨q0, by omega, k2, k1.trans q3⟩
      · obtain ⟨q1, q2, q3⟩ := hme.fr b hb
        obtain ⟨k1, k2⟩ := hfr b q1 q2
        exact ⟨k2, by omega, k1.trans q3⟩
    · have hb' := List.all_eq_true.1 hbx (i, .box ty es) (lkE_in hi)
      have hb' := (Bool.or_eq_true _ _).mp hb'
      rcases hb' with hb' | hb'
      · obtain ⟨t, t', j, l, T, yc, yc', ty', es', e1, e2, e3, e4, e5⟩ := hyk.at i ((memB_iff _ _).1 hb')
        obtain ⟨hlt, hat⟩ := List.getElem?_eq_some_iff.1 e1
        have r1 := hrep t hlt
        rw [hat] at r1
        have r2 := hs.tm t'
        rw [e2] at r2
        obtain ⟨hj, hja⟩ := List.getElem?_eq_some_iff.1 e3
        obtain ⟨hj', hja'⟩ := List.getElem?_eq_some_iff.1 e4
        have s1 := r1.yld_inv.2 j hj
        have s2 := r2.yld_inv.2 j hj'
        rw [hja] at s1
        rw [hja'] at s2
        have m1 := hme.me i
        unfold AS.find at m1
        rw [hi] at m1
        obtain ⟨x, hx, g, vs1, hd1, _⟩ := m1
        have m2 := hs.me i
        unfold AS.find at m2
        rw [hme', e5] at m2
        obtain ⟨x2, hx2, g2, vs2, hd2, _⟩ := m2
        subst hd1 hd2
        have p1 := s1.ptr_inv hx
        rw [s2.ptr_inv hx2] at p1
        injection p1 with p1
        injection p1 with p1
        injection p1 with p1
        rw [hx, hx2, p1]
      obtain ⟨t, ht, htb⟩ := List.any_eq_true.1 hb'
      rw [List.mem_range] at ht
      rw [Bool.and_eq_true] at htb
      obtain ⟨b1, b2⟩ := htb
      split at b1
      · rename_i k hk
        have e1 : k = i := Nat.eq_of_beq_eq_true b1
        subst e1
        split at b2
        · rename_i k2 ty2 es2 hk2 hk3
          have e2 : k2 = k := Nat.eq_of_beq_eq_true b2
          subst e2
          obtain ⟨hlt, hat⟩ := List.getElem?_eq_some_iff.1 hk
          have r1 := hrep t hlt
          rw [hat] at r1
          have r2 := hs.tm t
          rw [hk2, hs.defers.pin t ht] at r2
          have m1 := hme.me k2
          unfold AS.find at m1
          rw [hi] at m1
          obtain ⟨x, hx, g, vs1, hd1, _⟩ := m1
          have m2 := hs.me k2
          unfold AS.find at m2
          rw [hme', hk3] at m2
          obtain ⟨x2, hx2, g2, vs2, hd2, _⟩ := m2
          subst hd1 hd2
          have p1 := r1.ptr_inv hx
          have p2 := r2.ptr_inv hx2
          have p3 : (vs ++ cs).getD t undef = cx'.pv.getD t undef := rfl
          rw [p3, p2] at p1
          injection p1 with p1
          injection p1 with p1
          injection p1 with p1
          rw [hx, hx2, p1]
        · cases b2
      · cases b1
  cases e with
  | normal => exact key hq
  | ret => exact key hq
  | _ => exact hq.elim
end Go.Proofs.YtimkhfaddnanhaaGreat
namespace Go.Proofs.YtimkhfaddnanhaaGreat
open Go.RowKit

theorem leaves_marks {cx : Cx} {γ : Gam} {σ : AS} {fn : Func} {R : Ending → World → Prop} : ∀ (rs : List Nat) (a : Act) (w : World), StG cx γ σ a w → cx.E.rg = true → (∀ b, cx.Fr b → False) → cx.E.yl = none → a.defers = rs.map (fun r => { target := .collected r, args := #[] }) → rs.Nodup →
    (∀ r ∈ rs, cx.w0.heap.size ≤ r ∧ r < w.heap.size ∧ ¬ own γ r ∧ w.heap[r]? = some (.deferred (some []))) →
    (∀ w' a', StG cx γ σ a' w' → a'.tmps = a.tmps → ∃ v, (results fn a.tmps).run cx.P w' = .ok v w' ∧ R (.returned v) w') → LeavesInM Fence.wide 0 cx.P fn a.tmps R a.defers .returning w
  | [], a, w, h, hrg, hF, hyl, hd, _, _, k => by
    rw [hd]
    obtain ⟨v, h1, h2⟩ := k w a h rfl
    exact ⟨v, h1, h2⟩
  | r :: rs, a, w, h, hrg, hF, hyl, hd, hnd, hrs, k => by
    obtain ⟨q1, q2, q3, q4⟩ := hrs r (List.mem_cons_self ..)
    rw [hd]
    refine ⟨by simp, Or.inl ⟨r, w.putObj r (.deferred none), rfl, run_takeDeferred q4, ?_⟩⟩
    have hnd' := (List.nodup_cons.1 hnd)
    have hrs' : ∀ r' ∈ rs, cx.w0.heap.size ≤ r' ∧ r' < (w.putObj r (.deferred none)).heap.size ∧ ¬ own γ r' ∧ (w.putObj r (.deferred none)).heap[r']? = some (.deferred (some [])) := fun r' hr' => by
      obtain ⟨p1, p2, p3, p4⟩ := hrs r' (List.mem_cons_of_mem _ hr')
      exact ⟨p1, by rw [putObj_size]; exact p2, p3, (putObj_other (b := r') (r := r) (by intro e; subst e; exact hnd'.1 hr')).trans p4⟩
    have hst := h.putObj (o' := .deferred none) (ds := rs.map (fun r => { target := .collected r, args := #[] })) q4 rfl q1 q3
      ⟨fun hr0 => absurd (hr0.symm.trans hrg) (by simp), ⟨rs, rfl, hnd'.2, hrs'⟩, h.defers.pin, fun l R hl => absurd (hyl.symm.trans hl) (by simp), by rw [putObj_size]; exact h.defers.sz⟩ (fun b hb => (hF b hb).elim)
    exact leaves_marks rs _ _ hst hrg hF hyl rfl hnd'.2 hrs' (fun w' a' h1 h2 => k w' a' h1 (h2.trans rfl))
theorem Con.walkM {E : Env} {fr : Bool} {f : FuncId} {fn : Func} {args : List AV} {res : AV} (c : Code) (hf : E.P.funcs[f]? = some fn) (hb : fn.body = some c) (he : Enters E f) (hn : Nat.ble args.length fn.ntmps = true) (hfr : fr = false ∨ res.flat = true)
    (h : AW E fn.ntmps (EndA E fn res) [.code c] .normal (start args)) (hrg : E.rg = true) (hyl : E.yl = none) (hnp : E.np = 0) : Con { E with rg := false } fr f args res := by
  refine ⟨he, fun S w vs ha => callsIn_wide.1 (callsIn_of_wp_marks (F := Fence.wide) (n := 0) hf hb trivial ?_)⟩
  have h0 : WP (Cx.call E S w fn.ntmps) c (EndA E fn res) (start args) := WP.mono (h.out (Cx.call E S w fn.ntmps) rfl rfl) fun e σ hk => by cases e <;> exact hk
  refine wpIn_mono (h0 _ _ (start_st hyl hnp ha (Nat.le_of_ble_eq_true hn))) (fun e a w' ⟨σ, hq, γ, hst⟩ => ?_)
  have key : (∃ avs, retA E.tab σ fn.results.toList = some avs ∧ Sub (closeR σ (packA avs)) res) → bodyPostM Fence.wide 0 E.P fn (fun e w' => ∃ v, e = .returned v ∧ BelE { E with rg := false } w w' ∧ Rep w' (fun b => (fr = false ∧ S b) ∨ w.heap.size ≤ b) G0 res v) .ret a w' := by
    rintro ⟨avs, h1, hsub⟩
    obtain ⟨rs, m1, m2, m3⟩ := hst.defers.marks
    refine leaves_marks (cx := Cx.call E S w fn.ntmps) rs a w' hst hrg (fun b hb => hb.elim) hyl m1 m2 m3 (fun w2 a2 hst2 e2 => ?_)
    obtain ⟨v, hv, hr⟩ := results_run hst2 h1
    rw [e2] at hv
    refine ⟨v, hv, v, rfl, ⟨hst2.below, hst2.dr⟩, ?_⟩
    have h2 := (closeR_rep (S' := fun b => S b ∨ w.heap.size ≤ b) hst2 (fun b hb => ?_) hr).sub hsub
    · rcases hfr with hfr | hfr
      · exact h2.mono (Nat.le_refl _) (fun b hb _ => ⟨rfl, hb.elim (fun h => Or.inl ⟨hfr, h⟩) Or.inr⟩)
      · exact h2.flat hfr
    · rcases hb with hb | hb
      · rcases hb with ⟨hb, _⟩ | ⟨hb, _⟩
        · exact Or.inl hb.1
        · exact Or.inr hb.1
      · exact Or.inr (hst2.ge b hb).1.1
  cases e with
  | normal => exact key (endA_elim hq)
  | ret => exact key (endA_elim hq)
  | _ => exact hq.elim
end Go.Proofs.YtimkhfaddnanhaaGreat
namespace Go.Proofs.YtimkhfaddnanhaaGreat
open Go.RowKit

theorem set_rep {w : World} {S : Nat → Prop} {γ : Gam} : ∀ (ps : List Nat) (avs : List AV) (vs : List Value) (T : Array Value) (base : List (Nat × AV)), (∀ t, Rep w S γ (lkV base t) (T.getD t undef)) → (∀ p ∈ ps, p < T.size) → avs.length = ps.length → vs.length = ps.length →
    (∀ i (hi : i < avs.length), Rep w S γ avs[i] (vs.getD i undef)) → ∀ t, Rep w S γ (lkV ((ps.zip avs).foldl (fun tm x => x :: tm) base) t) (((ps.zip vs).foldl (fun t x => t.setIfInBounds x.1 x.2) T).getD t undef)
  | [], _, _, T, base, h0, _, _, _, _ => fun t => h0 t
  | p :: ps, [], _, T, base, _, _, h1, _, _ => by simp at h1
  | p :: ps, av :: avs, [], T, base, _, _, _, h2, _ => by simp at h2
  | p :: ps, av :: avs, v :: vs, T, base, h0, hp, h1, h2, h3 => by
    simp only [List.zip_cons_cons, List.foldl_cons]
    refine set_rep ps avs vs _ _ (fun t => ?_) (fun q hq => by rw [Array.size_setIfInBounds]; exact hp q (List.mem_cons_of_mem _ hq)) (by simpa using h1) (by simpa using h2) (fun i hi => by have := h3 (i + 1) (by simpa using hi); simpa using this)
    have hpT := hp p (List.mem_cons_self ..)
    simp only [lkV]
    cases hb : Nat.beq p t with
    | true =>
      have := Nat.eq_of_beq_eq_true hb
      subst this
      have h := h3 0 (by simp)
      simp only [List.getElem_cons_zero, List.getD_cons_zero] at h
      simpa [hpT] using h
    | false =>
      have hne : p ≠ t := Nat.ne_of_beq_eq_false hb
      have e : (T.setIfInBounds p v).getD t undef = T.getD t undef := by
        rw [Array.getD_eq_getD_getElem?, Array.getElem?_setIfInBounds_ne hne, ← Array.getD_eq_getD_getElem?]
      rw [e]; exact h0 t
theorem set_size : ∀ (l : List (Nat × Value)) (T : Array Value), (l.foldl (fun t x => t.setIfInBounds x.1 x.2) T).size = T.size
  | [], T => rfl
  | x :: l, T => by rw [List.foldl_cons, set_size l, Array.size_setIfInBounds]
theorem set_other {t : Nat} : ∀ (l : List (Nat × Value)) (T : Array Value), (∀ x ∈ l, x.1 ≠ t) → (l.foldl (fun t x => t.setIfInBounds x.1 x.2) T).getD t undef = T.getD t undef
  | [], T, _ => rfl
  | x :: l, T, h => by
    rw [List.foldl_cons, set_other l _ (fun y hy => h y (List.mem_cons_of_mem _ hy)), Array.getD_eq_getD_getElem?, Array.getElem?_setIfInBounds_ne (h x (List.mem_cons_self ..)), ← Array.getD_eq_getD_getElem?]

def startR (ps : List Nat) (args ycaps : List AV) (me : List (Nat × Ent)) : AS := ⟨(ps.zip args).foldl (fun tm x => x :: tm) (ycaps.zipIdx.map fun p => (p.2, p.1)), me⟩
inductive BX (E : Env) (nt : Nat) (ycaps : List AV) (me : List (Nat × Ent)) (σ : AS) (me' : List (Nat × Ent)) : Prop
  | mk (τ : AS) (hl : LeX E nt σ τ) (hme : τ.me = me') (hb : boxB E.np ycaps τ me me' [] = true)
def EndB (E : Env) (nt : Nat) (ycaps : List AV) (me me' : List (Nat × Ent)) : Exit → AS → Prop
  | .normal, σ => BX E nt ycaps me σ me'
  | _, _ => False
theorem StG.putObjW {cx : Cx} {γ : Gam} {σ : AS} {a : Act} {w : World} (h : StG cx γ σ a w) {r : Nat} {o o' : Obj} (hr : w.heap[r]? = some o) (ho : o.isCells = false) (hB : cx.w0.heap.size ≤ r) (hno : ¬ own γ r) (hd : a.defers = []) (hyl : cx.E.yl = none) : StG { cx with w1 := w.putObj r o' } γ σ a (w.putObj r o') := by
  have hn := no_cell (k := 0) hr ho
  have hne : ∀ b, own γ b → b ≠ r := fun b hb e => hno (e ▸ hb)
  refine ⟨fun t => (h.tm t).putObj hn, fun id => ?_, h.inj, fun b hb => by rw [putObj_size]; exact h.ge b hb, h.below.trans ⟨rfl, rfl, rfl, by rw [putObj_size]; exact Nat.le_refl _, fun b hb => putObj_other (by omega)⟩, h.size,
    ⟨fun _ => hd, ⟨[], hd, .nil, fun r hr => by cases hr⟩, h.defers.pin, fun l R hl => absurd (hyl.symm.trans hl) (by simp), Nat.le_refl _⟩, fun b hb => by rw [putObj_size]; exact h.gh b hb, fun b hb => ?_, h.dr⟩
  · have := h.me id
    cases hf : σ.find id with
    | none => rw [hf] at this; exact this
    | some e =>
      rw [hf] at this
      obtain ⟨x, hx, he⟩ := this
      exact ⟨x, hx, he.putObj hn (fun g s hd => hne g ⟨id, s, by rw [hx, hd]⟩)⟩
  · obtain ⟨q1, q2, q3⟩ := h.fr b hb
    exact ⟨q1, by rw [putObj_size]; exact q2, rfl⟩

theorem ConG.round {E : Env} {nt : Nat} {ps : Array Tmp} {assign body : Code} {args ycaps : List AV} {me me' : List (Nat × Ent)} (hrg : E.rg = false) (hylE : E.yl = none) (hdr : E.dr = false) (hps : ps.toList.all (fun p => Nat.ble E.np p && Nat.blt p nt) = true) (hlen : args.length = ps.size) (hcl : Nat.ble ycaps.length nt = true)
    (h : AW E nt (thenA (fun σ => AW E nt (EndB E nt ycaps me me') [.code body] .normal σ) (fun _ _ => False)) [.code assign] .normal (startR ps.toList args ycaps me))
    (l D : Nat) (fn : FuncId) (T : Array Value) (hT : T.size = nt) : ConG E.P (some (l, .loop (recR fn T ps assign body D))) (fun vs cs w R => cs = T → CalY E.P l vs cs w R) args ycaps me (.bool true) me' := by
  intro cx γ w vs cs hP hdr0 hyl hnt0 hnp0 hme hvs hva hca hcs
  subst hcs
  have hyl' := hyl _ rfl
  obtain ⟨q0, q1, q2, q3⟩ := hme.defers.yl l _ hyl'
  refine ⟨fn, _, assign, body, run_yield (P := E.P) (args := vs) q3 (by rw [hvs, hlen]), roundIn_of_wpIn trivial ?_⟩
  have ef : (ps.zip vs).foldl (fun (t : Array Value) (x : Tmp × Value) => t.setIfInBounds x.1 x.2) cs = (ps.toList.zip vs.toList).foldl (fun t x => t.setIfInBounds x.1 x.2) cs := by
    rw [← Array.foldl_toList, Array.toList_zip]
  obtain ⟨tm, htm⟩ : ∃ tm, tm = (ps.toList.zip vs.toList).foldl (fun t x => t.setIfInBounds x.1 x.2) cs := ⟨_, rfl⟩
  have etm : (ps.zip vs).foldl (fun (t : Array Value) (x : Tmp × Value) => t.setIfInBounds x.1 x.2) cs = tm := by rw [ef, htm]
  show assign.wpIn (Fence.wide.inRound l) 0 E.P _ { tmps := (ps.zip vs).foldl (fun (t : Array Value) (x : Tmp × Value) => t.setIfInBounds x.1 x.2) cs, defers := [] } w
  rw [etm]
  have hps' : ∀ p ∈ ps.toList, E.np ≤ p ∧ p < nt := fun p hp => by
    have := List.all_eq_true.1 hps p hp
    simpa using this
  let cxa : Cx := ⟨E, cx.S0, cx.w0, nt, fun b => b < w.heap.size ∧ ¬ own γ b, w, some l, cs, fun h => absurd (hrg.symm.trans h) (by simp)⟩
  have hst : StG cxa γ (startR ps.toList args ycaps me) { tmps := tm, defers := [] } w := by
    refine ⟨fun t => ?_, hme.me, hme.inj, hme.ge, hme.below, by rw [htm]; exact (set_size _ _).trans hT, ⟨fun _ => rfl, ⟨[], rfl, .nil, fun r hr => by cases hr⟩, fun t ht => ?_, fun l R hl => absurd (hylE.symm.trans hl) (by simp), Nat.le_refl _⟩, hme.gh, fun b hb => ⟨hb.2, hb.1, rfl⟩, fun hd => absurd (hdr.symm.trans hd) (by simp)⟩
    · rw [htm]
      refine set_rep ps.toList args vs.toList cs _ (fun t => ?_) (fun p hp => by rw [hT]; exact (hps' p hp).2) (by simpa using hlen) (by simp [hvs, hlen]) (fun i hi => ?_) t
      · rw [lkV_zip]
        by_cases ht : 0 ≤ t ∧ t < 0 + ycaps.length
        · rw [dif_pos ht]; exact hca t (by omega)
        · rw [dif_neg ht]; exact .any _
      · have := hva i hi
        rwa [Array.getD_eq_getD_getElem?, ← Array.getElem?_toList, ← List.getD_eq_getElem?_getD] at this
    · show tm.getD t undef = cs.getD t undef
      rw [htm]
      exact set_other _ _ (fun x hx e => by have := (hps' x.1 (List.of_mem_zip hx).1).1; have ht' : t < E.np := ht; omega)
  have hA : WP cxa assign (thenA (fun σ => AW E nt (EndB E nt ycaps me me') [.code body] .normal σ) (fun _ _ => False)) (startR ps.toList args ycaps me) := WP.mono (h.out cxa rfl rfl) fun e σ hk => by cases e <;> exact hk
  refine wpIn_mono (F := Fence.wide.inRound l) (hA _ _ ⟨γ, hst⟩) (fun e a1 w1 ⟨σ1, hq1, hst1⟩ => ?_)
  cases e with
  | normal =>
    obtain ⟨γ1, hs1⟩ := hst1
    obtain ⟨k1, k2, k3⟩ := hs1.fr l ⟨q1, q2⟩
    have k4 : w1.heap[l]? = some (.loop (recR fn cs ps assign body D)) := k3.trans q3
    refine ⟨_, run_beginRound (P := E.P) k4 rfl, ?_⟩
    have hs2 := hs1.putObjW (o' := .loop { recR fn cs ps assign body D with state := .busy }) k4 rfl q0 k1 (hs1.defers.d0 hrg) hylE
    generalize hw2 : w1.putObj l (.loop { recR fn cs ps assign body D with state := .busy }) = w2 at hs2 ⊢
    have hB : WP { cxa with w1 := w2 } body (EndB E nt ycaps me me') σ1 := WP.mono ((show AW E nt (EndB E nt ycaps me me') [.code body] .normal σ1 from hq1).out { cxa with w1 := w2 } rfl rfl) fun e σ hk => by cases e <;> exact hk
    refine wpIn_mono (F := Fence.wide.inRound l) (hB _ _ ⟨γ1, hs2⟩) (fun e2 a2 w3 ⟨σ2, hq2, hst2⟩ => ?_)
    cases e2 with
    | normal =>
      obtain ⟨τ, hl, hme', hbx⟩ := hq2
      obtain ⟨γ3, hs3⟩ := hl { cxa with w1 := w2 } rfl rfl a2 w3 hst2
      have hb2 : w2.heap[l]? = some (.loop { recR fn cs ps assign body D with state := .busy }) := by rw [← hw2]; exact World.putObj_heap_same k2
      obtain ⟨j1, j2, j3⟩ := hs3.fr l ⟨q1, q2⟩
      have j4 : w3.heap[l]? = some (.loop { recR fn cs ps assign body D with state := .busy }) := j3.trans hb2
      refine ⟨_, _, run_endRound (P := E.P) none j4, ?_⟩
      have hs4 := hs3.putObjW (o' := .loop (recR fn cs ps assign body D)) j4 rfl q0 j1 (hs3.defers.d0 hrg) hylE
      show ∃ u γ', _ ∧ _
      have hw4 : w3.putObj l (.loop { { recR fn cs ps assign body D with state := .busy } with state := if (none : Option Code).isNone = true then LoopState.ready else LoopState.done, pending := none }) = w3.putObj l (.loop (recR fn cs ps assign body D)) := rfl
      rw [hw4]
      have hr4 : (w3.putObj l (.loop (recR fn cs ps assign body D))).heap[l]? = some (.loop (recR fn cs ps assign body D)) := World.putObj_heap_same j2
      generalize hwe : w3.putObj l (.loop (recR fn cs ps assign body D)) = w4 at hs4 hr4 ⊢
      have z1 : w.heap.size ≤ w1.heap.size := hs1.defers.sz
      have z2 : w1.heap.size = w2.heap.size := by rw [← hw2, putObj_size]
      have z3 : w2.heap.size ≤ w3.heap.size := hs3.defers.sz
      have z4 : w3.heap.size = w4.heap.size := by rw [← hwe, putObj_size]
      have hfr : ∀ b, ¬ own γ b → b < w.heap.size → w4.heap[b]? = w.heap[b]? ∧ ¬ own γ3 b := fun b hb hlt => by
        obtain ⟨p1, p2, p3⟩ := hs1.fr b ⟨hlt, hb⟩
        obtain ⟨r1, r2, r3⟩ := hs3.fr b ⟨hlt, hb⟩
        refine ⟨?_, r1⟩
        by_cases hbl : b = l
        · subst hbl; exact hr4.trans q3.symm
        · have e1 : w4.heap[b]? = w3.heap[b]? := by rw [← hwe]; exact putObj_other hbl
          have e2 : w2.heap[b]? = w1.heap[b]? := by rw [← hw2]; exact putObj_other hbl
          exact e1.trans (r3.trans (e2.trans p3))
      refine ⟨.bool true, γ3, rfl, ⟨fun t => .any _, fun i => by have := hs4.me i; unfold AS.find at this ⊢; rw [← hme']; exact this, hs4.inj, hs4.ge, hs4.below, hnt0.symm, ⟨fun _ => rfl, ⟨[], rfl, .nil, fun r hr => by cases hr⟩, fun t ht => by rw [hnp0] at ht; omega, fun l' R' hl' => ?_, Nat.le_trans hme.defers.sz (by omega)⟩, hs4.gh, fun b hb => ?_, fun hd => absurd (hdr0.symm.trans hd) (by simp)⟩, .bool _, by omega, fun i ty es hi => ?_, hfr⟩
      · rw [hyl'] at hl'
        injection hl' with hl'
        injection hl' with e1 e2
        subst e1 e2
        exact ⟨q0, by omega, j1, hr4⟩
      · obtain ⟨p1, p2, p3⟩ := hme.fr b hb
        obtain ⟨r1, r2⟩ := hfr b p1 p2
        exact ⟨r2, by omega, r1.trans p3⟩
      · have hb' := List.all_eq_true.1 hbx (i, .box ty es) (lkE_in hi)
        have hb' := (Bool.or_eq_true _ _).mp hb'
        rcases hb' with hb' | hb'
        · cases hb'
        obtain ⟨t, ht, htb⟩ := List.any_eq_true.1 hb'
        rw [List.mem_range] at ht
        rw [Bool.and_eq_true] at htb
        obtain ⟨b1, b2⟩ := htb
        split at b1
        · rename_i k hk
          have e1 : k = i := Nat.eq_of_beq_eq_true b1
          subst e1
          split at b2
          · rename_i k2 ty2 es2 hk2 hk3
            have e2 : k2 = k := Nat.eq_of_beq_eq_true b2
            subst e2
            obtain ⟨hlt, hat⟩ := List.getElem?_eq_some_iff.1 hk
            have r1 := hca t hlt
            rw [hat] at r1
            have r2 := hs3.tm t
            rw [hk2, hs3.defers.pin t ht] at r2
            have m1 := hme.me k2
            unfold AS.find at m1
            rw [hi] at m1
            obtain ⟨x, hx, g, vs1, hd1, _⟩ := m1
            have m2 := hs3.me k2
            unfold AS.find at m2
            rw [hme', hk3] at m2
            obtain ⟨x2, hx2, g2, vs2, hd2, _⟩ := m2
            subst hd1 hd2
            have p1 := r1.ptr_inv hx
            have p2 : cs.getD t undef = _ := r2.ptr_inv hx2
            rw [p2] at p1
            injection p1 with p1
            injection p1 with p1
            injection p1 with p1
            rw [hx, hx2, p1]
          · cases b2
        · cases b1
    | _ => exact hq2.elim
  | _ => exact hq1.elim
end Go.Proofs.YtimkhfaddnanhaaGreat
namespace Go.Proofs.YtimkhfaddnanhaaGreat
open Go.RowKit

noncomputable def E0p (np : Nat) : Env := { E0 with np := np }
noncomputable def E0y (l : Nat) (R : Obj) (np : Nat) : Env := { E0 with np := np, yl := some (l, R) }
noncomputable def E0r : Env := { E0 with rg := true }
theorem ConG.up {P : Program} {yl : Option (Nat × Obj)} {C : CalT} {args caps : List AV} {me me' : List (Nat × Ent)} {res : AV} (h : ConG P none C args caps me res me') : ConG P yl C args caps me res me' :=
  fun cx γ w vs cs h1 h2 _ => h cx γ w vs cs h1 h2 (fun x hx => by cases hx)
theorem Con.env {E E' : Env} {fr : Bool} {f : FuncId} {avs : List AV} {res : AV} (hP : E'.P = E.P) (hd : E'.dr = false) (h : Con E fr f avs res) : Con E' fr f avs res := by
  refine ⟨by have := h.1; unfold Enters at *; rw [hP]; exact this, fun S w vs ha => ?_⟩
  have := h.2 S w vs ha
  rw [hP]
  exact this.mono fun e w' ⟨v, h1, ⟨h2, _⟩, h3⟩ => ⟨v, h1, ⟨h2, fun hd' => absurd (hd.symm.trans hd') (by simp)⟩, h3⟩
theorem ConT.env {E E' : Env} {f : FuncId} {avs xs : List AV} {ty sz : Nat} {res : AV} (hP : E'.P = E.P) (h : ConT E f avs ty sz xs res) : ConT E' f avs ty sz xs res := by
  refine ⟨by have := h.1; unfold Enters at *; rw [hP]; exact this, h.2.1, fun S w vs ha => ?_⟩
  rw [hP]
  exact h.2.2 S w vs ha

section
variable {α β : Type}
theorem CallX.oM {o : Option α} {k : α → Option β} {r : β} {E : Env} {f : FuncId} {avs : List AV} {K : AV → Prop} {R : Nat → Nat → List AV → AV → Prop} {find : Nat → Option Ent} {KR : AV → List Nat → List (Nat × Ent) → Prop} (h : bnd o k = some r)
    (ps ps' : List (Nat × Nat)) (cargs : List AV) (me : List (Nat × Ent)) (meF : α → List (Nat × Ent)) (resF : α → AV) (dead : List Nat) (hc : ∀ a, o = some a → ConG E.P E.yl (CalF E.P f 0) cargs [] me (resF a) (meF a)) (he : Enters E f) (hdr0 : E.dr = false) (hra : AV.renL (rho ps) cargs = avs) (hia : AV.inML (me.map (·.1)) cargs = true) (hle : LeF find (rho ps) (me.map (·.1)) me)
    (hn : ∀ a, NamesG find (rho ps) (rho ps') me (meF a) (resF a) dead) (kk : ∀ a, k a = some r → KR ((resF a).ren (rho ps')) (idsG (rho ps) (rho ps') me (meF a)) (wrG (rho ps') (meF a) dead)) : CallX E f avs K R find KR := by
  cases o with
  | none => unfold bnd at h; cases h
  | some a => exact .memo ps ps' cargs me (meF a) (resF a) dead he hdr0 (hc a rfl) hra hia hle (hn a) (kk a (by unfold bnd at h; exact h))
theorem CallC.oM {o : Option α} {k : α → Option β} {r : β} {E : Env} {f : FuncId} {avs raw : List AV} {K : AV → Prop} {dst : Option Nat} {find : Nat → Option Ent} {KR : AV → List Nat → List (Nat × Ent) → Prop} (h : bnd o k = some r)
    (ps ps' : List (Nat × Nat)) (cargs : List AV) (me : List (Nat × Ent)) (meF : α → List (Nat × Ent)) (resF : α → AV) (dead : List Nat) (hc : ∀ a, o = some a → ConG E.P E.yl (CalF E.P f 0) cargs [] me (resF a) (meF a)) (he : Enters E f) (hdr0 : E.dr = false) (hra : AV.renL (rho ps) cargs = raw) (hia : AV.inML (me.map (·.1)) cargs = true) (hle : LeF find (rho ps) (me.map (·.1)) me)
    (hn : ∀ a, NamesG find (rho ps) (rho ps') me (meF a) (resF a) dead) (kk : ∀ a, k a = some r → KR ((resF a).ren (rho ps')) (idsG (rho ps) (rho ps') me (meF a)) (wrG (rho ps') (meF a) dead)) : CallC E f avs K raw find dst KR := by
  cases o with
  | none => unfold bnd at h; cases h
  | some a => exact .memo ps ps' cargs me (meF a) (resF a) dead he hdr0 (hc a rfl) hra hia hle (hn a) (kk a (by unfold bnd at h; exact h))
theorem YldX.oM {o : Option α} {k : α → Option β} {r : β} {E : Env} {l : Nat} {T : Array Value} {raw cap : List AV} {find : Nat → Option Ent} {KR : AV → List Nat → List (Nat × Ent) → Prop} (h : bnd o k = some r)
    (ps ps' : List (Nat × Nat)) (cargs ccaps : List AV) (me : List (Nat × Ent)) (meF : α → List (Nat × Ent)) (resF : α → AV) (dead : List Nat) (hc : ∀ a, o = some a → ConG E.P E.yl (fun vs cs w R => cs = T → CalY E.P l vs cs w R) cargs ccaps me (resF a) (meF a)) (hdr0 : E.dr = false) (hra : AV.renL (rho ps) cargs = raw) (hrc : AV.renL (rho ps) ccaps = cap) (hia : AV.inML (me.map (·.1)) cargs = true) (hic : AV.inML (me.map (·.1)) ccaps = true) (hle : LeF find (rho ps) (me.map (·.1)) me)
    (hn : ∀ a, NamesG find (rho ps) (rho ps') me (meF a) (resF a) dead) (kk : ∀ a, k a = some r → KR ((resF a).ren (rho ps')) (idsG (rho ps) (rho ps') me (meF a)) (wrG (rho ps') (meF a) dead)) : YldX E l T raw cap find KR := by
  cases o with
  | none => unfold bnd at h; cases h
  | some a => exact .mk ps ps' cargs ccaps me (meF a) (resF a) dead hdr0 (hc a rfl) hra hrc hia hic hle (hn a) (kk a (by unfold bnd at h; exact h))
theorem RngX.oM {o : Option α} {k : α → Option β} {r : β} {E : Env} {nt gf : Nat} {cap : List AV} {ps : Array Tmp} {a b : Code} {σ : AS} {K : AS → Prop} (h : bnd o k = some r)
    (pp pp' : List (Nat × Nat)) (ycaps ccaps : List AV) (me : List (Nat × Ent)) (meF : α → List (Nat × Ent)) (dead : List Nat)
    (hiter : ∀ x, o = some x → ∀ (l D : Nat) (fn : FuncId) (T : Array Value), T.size = nt → ConG E.P (some (l, .loop (recR fn T ps a b D))) (CalF E.P gf 0) (.yld l T ycaps :: ccaps) [] me (.tup []) (meF x))
    (he : Enters E gf) (hrg : E.rg = true) (hdr0 : E.dr = false) (hyl0 : E.yl = none) (hrc : AV.renL (rho pp) ccaps = cap) (hic : AV.inML (me.map (·.1)) ccaps = true) (hy : LeY σ (rho pp) (me.map (·.1)) 0 ycaps) (hle : LeF σ.find (rho pp) (me.map (·.1)) me) (hn : ∀ x, NamesG σ.find (rho pp) (rho pp') me (meF x) (.tup []) dead)
    (kk : ∀ x, k x = some r → K (σ.upd none (.tup []) (wrG (rho pp') (meF x) dead))) : RngX E nt (.fn gf cap) ps a b σ K := by
  cases o with
  | none => unfold bnd at h; cases h
  | some x => exact .mk gf cap rfl he hrg hdr0 hyl0 pp pp' ycaps ccaps me (meF x) dead hrc hic hy hle (hn x) (hiter x rfl) (kk x (by unfold bnd at h; exact h))
theorem GX.o {x r : α} {E : Env} {nt : Nat} {fn : Func} {args : List AV} {me : List (Nat × Ent)} {σ : AS} {res : α → AV} {meF : α → List (Nat × Ent)} (h : some x = some r) (k : GX E nt fn args me σ (res x) (meF x)) : GX E nt fn args me σ (res r) (meF r) := by
  injection h with h; subst h; exact k
theorem BX.o {x r : α} {E : Env} {nt : Nat} {ycaps : List AV} {me : List (Nat × Ent)} {σ : AS} {meF : α → List (Nat × Ent)} (h : some x = some r) (k : BX E nt ycaps me σ (meF x)) : BX E nt ycaps me σ (meF r) := by
  injection h with h; subst h; exact k
end
end Go.Proofs.YtimkhfaddnanhaaGreat
namespace Go.Proofs
open Go.Shelf
end Go.Proofs
namespace Go.Proofs.YtimkhfaddnanhaaGreat
open Go.RowKit
end Go.Proofs.YtimkhfaddnanhaaGreat
