/- Arguments opened: structs (printed by gen_open.py). Arguments opened: bytes. Nothing: a name for the printed definitions. Chapter 36, plain: what the terms of Check, Global, Missing, Begin, Same come to. Chapter 36, plain: Missing, Begin, Same, SameBools, SameGaps, Few. Chapter 36, plain: CheckMessage; layer 34's place, has, with, Receive; Settled. Chapter 36, plain: Receive of layer 34 (both), Settled, a message noted by a tracker (both). Chapter 36, plain: a message received (both), and that trackers stay well-formed. Chapter 36, plain: Receive, Begin and Run (both). Chapter 36, plain: the laws that compare, and that the program is awake. Chapter 36, plain: what one message does to a tracker; the laws Completes and Fills. Chapter 36, plain: the law Fills. -/
import Derived.Test.YtimkhfaddnanhaaGreatK07
import Derived.Test.YtimkhfaddnanhaaGreatK10
import Derived.Test.YtimkhfaddnanhaaGreatK08
set_option linter.unusedVariables false
set_option linter.unusedSimpArgs false
namespace Go.Proofs.YtimkhfaddnanhaaGreat
open Go.ChangeShapes Go.WideShapes Go.ChangeAt Go.RowKit Go.Joins Go.Deep

section
variable {H : Type} {enc : TypeId × Value → H} {W : World} {base : Nat} {v : Value} {d : DataW H} {p : List MemPlace}
set_option maxRecDepth 100000
instance : Inhabited Pt := ⟨⟨0, 0⟩⟩
instance : Inhabited Trk := ⟨⟨0, [], [], 0⟩⟩
theorem fo_Value : FO enc W 118 3 (fun m : T_api_Value => (e_api_Value m).cells) := fun n cs x hl h => by
  obtain ⟨xs, n', _, _, _, hlen, hf⟩ := DataW.trod_struct Tryz.underlying118 h
  match xs, hlen with
  | [y0, y1, y2], _ =>
    have c0 : Tryz.prog.cellsOf 3 = 1 := by kernel_rfl
    have g0 : DataW.trod enc Tryz.prog W 0 (fun _ => true) true n' 3 ((cs.drop 0).take (Tryz.prog.cellsOf 3)) = some y0 := hf 0 _ rfl
    rw [c0] at g0
    obtain ⟨m0, h0⟩ := (fo_int Tryz.underlying3) n' _ _ (cut_len (by omega)) g0
    have c1 : Tryz.prog.cellsOf 3 = 1 := by kernel_rfl
    have g1 : DataW.trod enc Tryz.prog W 0 (fun _ => true) true n' 3 ((cs.drop 1).take (Tryz.prog.cellsOf 3)) = some y1 := hf 1 _ rfl
    rw [c1] at g1
    obtain ⟨m1, h1⟩ := (fo_int Tryz.underlying3) n' _ _ (cut_len (by omega)) g1
    have c2 : Tryz.prog.cellsOf 9 = 1 := by kernel_rfl
    have g2 : DataW.trod enc Tryz.prog W 0 (fun _ => true) true n' 9 ((cs.drop 2).take (Tryz.prog.cellsOf 9)) = some y2 := hf 2 _ rfl
    rw [c2] at g2
    obtain ⟨m2, h2⟩ := (fo_str Tryz.underlying9) n' _ _ (cut_len (by omega)) g2
    have r := (show CellsL W _ (cs.drop 0) from (.cut h0 (.cut h1 (.cut h2 (CellsL.done (by omega))))))
    exact ⟨⟨m0, m1, m2⟩, r⟩
theorem fo_Event : FO enc W 26 5 (fun m : T_api_Event => (e_api_Event m).cells) := fun n cs x hl h => by
  obtain ⟨xs, n', _, _, _, hlen, hf⟩ := DataW.trod_struct Tryz.underlying26 h
  match xs, hlen with
  | [y0, y1, y2, y3, y4], _ =>
    have c0 : Tryz.prog.cellsOf 3 = 1 := by kernel_rfl
    have g0 : DataW.trod enc Tryz.prog W 0 (fun _ => true) true n' 3 ((cs.drop 0).take (Tryz.prog.cellsOf 3)) = some y0 := hf 0 _ rfl
    rw [c0] at g0
    obtain ⟨m0, h0⟩ := (fo_int Tryz.underlying3) n' _ _ (cut_len (by omega)) g0
    have c1 : Tryz.prog.cellsOf 3 = 1 := by kernel_rfl
    have g1 : DataW.trod enc Tryz.prog W 0 (fun _ => true) true n' 3 ((cs.drop 1).take (Tryz.prog.cellsOf 3)) = some y1 := hf 1 _ rfl
    rw [c1] at g1
    obtain ⟨m1, h1⟩ := (fo_int Tryz.underlying3) n' _ _ (cut_len (by omega)) g1
    have c2 : Tryz.prog.cellsOf 3 = 1 := by kernel_rfl
    have g2 : DataW.trod enc Tryz.prog W 0 (fun _ => true) true n' 3 ((cs.drop 2).take (Tryz.prog.cellsOf 3)) = some y2 := hf 2 _ rfl
    rw [c2] at g2
    obtain ⟨m2, h2⟩ := (fo_int Tryz.underlying3) n' _ _ (cut_len (by omega)) g2
    have c3 : Tryz.prog.cellsOf 3 = 1 := by kernel_rfl
    have g3 : DataW.trod enc Tryz.prog W 0 (fun _ => true) true n' 3 ((cs.drop 3).take (Tryz.prog.cellsOf 3)) = some y3 := hf 3 _ rfl
    rw [c3] at g3
    obtain ⟨m3, h3⟩ := (fo_int Tryz.underlying3) n' _ _ (cut_len (by omega)) g3
    have c4 : Tryz.prog.cellsOf 24 = 1 := by kernel_rfl
    have g4 : DataW.trod enc Tryz.prog W 0 (fun _ => true) true n' 24 ((cs.drop 4).take (Tryz.prog.cellsOf 24)) = some y4 := hf 4 _ rfl
    rw [c4] at g4
    obtain ⟨m4, h4⟩ := (fo_sl (sz := 3) (a := e_api_Value) Tryz.underlying24 (by kernel_rfl) (by omega) inferInstance (fun _ => rfl) (fo_Value)) n' _ _ (cut_len (by omega)) g4
    have r := (show CellsL W _ (cs.drop 0) from (.cut h0 (.cut h1 (.cut h2 (.cut h3 (.cut h4 (CellsL.done (by omega))))))))
    exact ⟨⟨m0, m1, m2, m3, m4⟩, r⟩
theorem Events_arg (hv : Value.okWide Tryz.prog W .any base 23 v) (h : DataW.Trod enc Tryz.prog W 0 (fun _ => true) true 23 v d p) : ∃ l : List T_api_Event, Rep W (fun _ => True) G0 (.sl 5 (l.map e_api_Event)) v :=
  arg_slice Tryz.underlying23 (by kernel_rfl) (by omega) inferInstance (fun _ => rfl) fo_Event hv h
theorem fo_Message : FO enc W 28 9 (fun m : T_api_Message => (e_api_Message m).cells) := fun n cs x hl h => by
  obtain ⟨xs, n', _, _, _, hlen, hf⟩ := DataW.trod_struct Tryz.underlying28 h
  match xs, hlen with
  | [y0, y1, y2, y3, y4], _ =>
    have c0 : Tryz.prog.cellsOf 3 = 1 := by kernel_rfl
    have g0 : DataW.trod enc Tryz.prog W 0 (fun _ => true) true n' 3 ((cs.drop 0).take (Tryz.prog.cellsOf 3)) = some y0 := hf 0 _ rfl
    rw [c0] at g0
    obtain ⟨m0, h0⟩ := (fo_int Tryz.underlying3) n' _ _ (cut_len (by omega)) g0
    have c1 : Tryz.prog.cellsOf 26 = 5 := by kernel_rfl
    have g1 : DataW.trod enc Tryz.prog W 0 (fun _ => true) true n' 26 ((cs.drop 1).take (Tryz.prog.cellsOf 26)) = some y1 := hf 1 _ rfl
    rw [c1] at g1
    obtain ⟨m1, h1⟩ := (fo_Event) n' _ _ (cut_len (by omega)) g1
    have c2 : Tryz.prog.cellsOf 3 = 1 := by kernel_rfl
    have g2 : DataW.trod enc Tryz.prog W 0 (fun _ => true) true n' 3 ((cs.drop 6).take (Tryz.prog.cellsOf 3)) = some y2 := hf 2 _ rfl
    rw [c2] at g2
    obtain ⟨m2, h2⟩ := (fo_int Tryz.underlying3) n' _ _ (cut_len (by omega)) g2
    have c3 : Tryz.prog.cellsOf 3 = 1 := by kernel_rfl
    have g3 : DataW.trod enc Tryz.prog W 0 (fun _ => true) true n' 3 ((cs.drop 7).take (Tryz.prog.cellsOf 3)) = some y3 := hf 3 _ rfl
    rw [c3] at g3
    obtain ⟨m3, h3⟩ := (fo_int Tryz.underlying3) n' _ _ (cut_len (by omega)) g3
    have c4 : Tryz.prog.cellsOf 3 = 1 := by kernel_rfl
    have g4 : DataW.trod enc Tryz.prog W 0 (fun _ => true) true n' 3 ((cs.drop 8).take (Tryz.prog.cellsOf 3)) = some y4 := hf 4 _ rfl
    rw [c4] at g4
    obtain ⟨m4, h4⟩ := (fo_int Tryz.underlying3) n' _ _ (cut_len (by omega)) g4
    have r := (show CellsL W _ (cs.drop 0) from (.cut h0 (.cut h1 (.cut h2 (.cut h3 (.cut h4 (CellsL.done (by omega))))))))
    exact ⟨⟨m0, m1, m2, m3, m4⟩, r⟩
theorem Messages_arg (hv : Value.okWide Tryz.prog W .any base 32 v) (h : DataW.Trod enc Tryz.prog W 0 (fun _ => true) true 32 v d p) : ∃ l : List T_api_Message, Rep W (fun _ => True) G0 (.sl 9 (l.map e_api_Message)) v :=
  arg_slice Tryz.underlying32 (by kernel_rfl) (by omega) inferInstance (fun _ => rfl) fo_Message hv h
theorem fo_Point : FO enc W 109 2 (fun m : Pt => (aPt m).cells) := fun n cs x hl h => by
  obtain ⟨xs, n', _, _, _, hlen, hf⟩ := DataW.trod_struct Tryz.underlying109 h
  match xs, hlen with
  | [y0, y1], _ =>
    have c0 : Tryz.prog.cellsOf 3 = 1 := by kernel_rfl
    have g0 : DataW.trod enc Tryz.prog W 0 (fun _ => true) true n' 3 ((cs.drop 0).take (Tryz.prog.cellsOf 3)) = some y0 := hf 0 _ rfl
    rw [c0] at g0
    obtain ⟨m0, h0⟩ := (fo_int Tryz.underlying3) n' _ _ (cut_len (by omega)) g0
    have c1 : Tryz.prog.cellsOf 3 = 1 := by kernel_rfl
    have g1 : DataW.trod enc Tryz.prog W 0 (fun _ => true) true n' 3 ((cs.drop 1).take (Tryz.prog.cellsOf 3)) = some y1 := hf 1 _ rfl
    rw [c1] at g1
    obtain ⟨m1, h1⟩ := (fo_int Tryz.underlying3) n' _ _ (cut_len (by omega)) g1
    have r := (show CellsL W _ (cs.drop 0) from (.cut h0 (.cut h1 (CellsL.done (by omega)))))
    exact ⟨⟨m0, m1⟩, r⟩
theorem fo_Tracker : FO enc W 82 4 (fun m : Trk => (aTrk m).cells) := fun n cs x hl h => by
  obtain ⟨xs, n', _, _, _, hlen, hf⟩ := DataW.trod_struct Tryz.underlying82 h
  match xs, hlen with
  | [y0, y1, y2, y3], _ =>
    have c0 : Tryz.prog.cellsOf 3 = 1 := by kernel_rfl
    have g0 : DataW.trod enc Tryz.prog W 0 (fun _ => true) true n' 3 ((cs.drop 0).take (Tryz.prog.cellsOf 3)) = some y0 := hf 0 _ rfl
    rw [c0] at g0
    obtain ⟨m0, h0⟩ := (fo_int Tryz.underlying3) n' _ _ (cut_len (by omega)) g0
    have c1 : Tryz.prog.cellsOf 46 = 1 := by kernel_rfl
    have g1 : DataW.trod enc Tryz.prog W 0 (fun _ => true) true n' 46 ((cs.drop 1).take (Tryz.prog.cellsOf 46)) = some y1 := hf 1 _ rfl
    rw [c1] at g1
    obtain ⟨m1, h1⟩ := (fo_sl (sz := 1) (a := aI) Tryz.underlying46 (by kernel_rfl) (by omega) inferInstance (fun _ => rfl) (fo_int Tryz.underlying3)) n' _ _ (cut_len (by omega)) g1
    have c2 : Tryz.prog.cellsOf 80 = 1 := by kernel_rfl
    have g2 : DataW.trod enc Tryz.prog W 0 (fun _ => true) true n' 80 ((cs.drop 2).take (Tryz.prog.cellsOf 80)) = some y2 := hf 2 _ rfl
    rw [c2] at g2
    obtain ⟨m2, h2⟩ := (fo_sl (sz := 2) (a := aPt) Tryz.underlying80 (by kernel_rfl) (by omega) inferInstance (fun _ => rfl) (fo_Point)) n' _ _ (cut_len (by omega)) g2
    have c3 : Tryz.prog.cellsOf 3 = 1 := by kernel_rfl
    have g3 : DataW.trod enc Tryz.prog W 0 (fun _ => true) true n' 3 ((cs.drop 3).take (Tryz.prog.cellsOf 3)) = some y3 := hf 3 _ rfl
    rw [c3] at g3
    obtain ⟨m3, h3⟩ := (fo_int Tryz.underlying3) n' _ _ (cut_len (by omega)) g3
    have r := (show CellsL W _ (cs.drop 0) from (.cut h0 (.cut h1 (.cut h2 (.cut h3 (CellsL.done (by omega)))))))
    exact ⟨⟨m0, m1, m2, m3⟩, r⟩
theorem Trackers_arg (hv : Value.okWide Tryz.prog W .any base 22 v) (h : DataW.Trod enc Tryz.prog W 0 (fun _ => true) true 22 v d p) : ∃ l : List Trk, Rep W (fun _ => True) G0 (.sl 4 (l.map aTrk)) v :=
  arg_slice Tryz.underlying22 (by kernel_rfl) (by omega) inferInstance (fun _ => rfl) fo_Tracker hv h
end
end Go.Proofs.YtimkhfaddnanhaaGreat
namespace Go.Proofs.YtimkhfaddnanhaaGreat
open Go.ChangeShapes Go.WideShapes Go.ChangeAt Go.RowKit Go.Joins Go.Deep

section
variable {H : Type} {enc : TypeId × Value → H} {W : World} {base : Nat} {v : Value} {d : DataW H} {p : List MemPlace}
set_option maxRecDepth 100000
theorem u8_open (hv : Value.okWide Tryz.prog W .any base 5 v) (h : DataW.Trod enc Tryz.prog W 0 (fun _ => true) true 5 v d p) : ∃ n : Nat, n ≤ 255 ∧ v = .int .u8 n := by
  obtain ⟨n, rfl⟩ := okWide_int Tryz.underlying5 hv
  obtain ⟨fuel, hf⟩ := h
  obtain ⟨m, e, _, hw⟩ := DataW.trod_int (k := .u8) Tryz.underlying5 hf
  have e : n = m := by simpa [Value.cells] using e
  subst e
  have h2 : (0 : Int) ≤ n ∧ n ≤ 255 := by
    simp only [Lit.wf, Bool.and_eq_true, decide_eq_true_eq] at hw
    exact hw
  exact ⟨n.toNat, by omega, by rw [Int.toNat_of_nonneg h2.1]⟩
end
end Go.Proofs.YtimkhfaddnanhaaGreat

namespace Go.Proofs.YtimkhfaddnanhaaGreat
open Go.RowKit

theorem p_check_l1 (n : Nat) (l : List Trk) (K : Option Int) : ∀ (m k : Nat), k ≤ l.length → l.length ≤ 1000000 → l.length < m + k → F_watermark_Check_l1 n l K m k = if wChecks (l.drop k) = 0 then K else some (wChecks (l.drop k))
  | 0, k, h1, h2, h3 => by omega
  | m + 1, k, h1, h2, h3 => by
    unfold F_watermark_Check_l1
    simp only [List.length_map, cnd_if, cnd_not]
    by_cases h : k < l.length
    · rw [if_pos (by omega), idx_nat h]
      simp only [F_puCheck, bnd_some, cnd_if, wrapS k (by omega)]
      rw [wChecks_drop l k h]
      by_cases h4 : puCheck l[k] = 0
      · simp only [h4, if_true, ne_eq, not_true_eq_false, if_false]
        exact p_check_l1 n l K m (k + 1) (by omega) h2 (by omega)
      · simp [h4]
    · rw [if_neg (by omega), List.drop_eq_nil_of_le (by omega)]; simp [wChecks]
theorem p_check (n : Nat) (l : List Trk) (hn : 100 ≤ n) : F_watermark_Check n l = some (wCheck l) := by
  unfold F_watermark_Check wCheck
  simp only [List.length_map, cnd_if]
  by_cases h : 8 < l.length
  · rw [if_pos (by omega), if_pos h]
  · rw [if_neg (by omega), if_neg h]
    have := p_check_l1 n l (some 0) n 0 (by omega) (by omega) (by omega)
    simp only [Int.natCast_zero, List.drop_zero] at this
    rw [this]
    split
    · rename_i h; rw [h]
    · rfl
theorem p_rcheck_l1 (n : Nat) (l : List Trk) (K : Option Int) : ∀ (m k : Nat), k ≤ l.length → l.length ≤ 1000000 → l.length < m + k → F_tidegateref36_Check_l1 n l K m k = if wChecks (l.drop k) = 0 then K else some (wChecks (l.drop k))
  | 0, k, h1, h2, h3 => by omega
  | m + 1, k, h1, h2, h3 => by
    unfold F_tidegateref36_Check_l1
    simp only [List.length_map, cnd_if, cnd_not]
    by_cases h : k < l.length
    · rw [if_pos (by omega), idx_nat h]
      simp only [F_puCheck, bnd_some, cnd_if, wrapS k (by omega)]
      rw [wChecks_drop l k h]
      by_cases h4 : puCheck l[k] = 0
      · simp only [h4, if_true, ne_eq, not_true_eq_false, if_false]
        exact p_rcheck_l1 n l K m (k + 1) (by omega) h2 (by omega)
      · simp [h4]
    · rw [if_neg (by omega), List.drop_eq_nil_of_le (by omega)]; simp [wChecks]
theorem p_rcheck (n : Nat) (l : List Trk) (hn : 100 ≤ n) : F_tidegateref36_Check n l = some (wCheck l) := by
  unfold F_tidegateref36_Check wCheck
  simp only [List.length_map, cnd_if]
  by_cases h : 8 < l.length
  · rw [if_pos (by omega), if_pos h]
  · rw [if_neg (by omega), if_neg h]
    have := p_rcheck_l1 n l (some 0) n 0 (by omega) (by omega) (by omega)
    simp only [Int.natCast_zero, List.drop_zero] at this
    rw [this]
    split
    · rename_i h; rw [h]
    · rfl
theorem p_least_l1 (n : Nat) (l : List Trk) (K : Int → Option Int) : ∀ (m k : Nat), k ≤ l.length → l.length ≤ 1000000 → l.length < m + k → F_watermark_least_l1 n l K m (leastAt l k, (k : Int)) = K (leastIx l)
  | 0, k, h1, h2, h3 => by omega
  | m + 1, k, h1, h2, h3 => by
    unfold F_watermark_least_l1
    simp only [List.length_map, cnd_if]
    by_cases h : k < l.length
    · rw [if_pos (by omega), idx_nat h]
      have hr := leastAt_range l k
      have ih := p_least_l1 n l K m (k + 1) (by omega) h2 (by omega)
      have hgk : l.getD k zeroT = l[k] := by simp [List.getElem?_eq_getElem h]
      simp only [wrapS k (by omega)]
      by_cases h4 : leastAt l k < 0
      · rw [if_pos h4]
        rw [← ih]
        congr 2
        conv => rhs; unfold leastAt
        rw [if_pos (Or.inl h4)]
      · rw [if_neg h4]
        have hj : (leastAt l k).toNat < l.length := by omega
        have hgj : l.getD (leastAt l k).toNat zeroT = l[(leastAt l k).toNat] := by simp [List.getElem?_eq_getElem hj]
        rw [idx_int (by omega) hj]
        by_cases h5 : l[k].mark < l[(leastAt l k).toNat].mark
        · rw [if_pos h5, ← ih]
          congr 2
          conv => rhs; unfold leastAt
          rw [if_pos (Or.inr (by rw [hgk, hgj]; exact h5))]
        · rw [if_neg h5, ← ih]
          congr 2
          conv => rhs; unfold leastAt
          rw [if_neg (by rw [hgk, hgj]; omega)]
    · rw [if_neg (by omega)]
      have : k = l.length := by omega
      subst this
      rfl
theorem p_least (n : Nat) (l : List Trk) (hn : l.length < n) (hl : l.length ≤ 1000000) : F_watermark_least n l = some (leastIx l) := p_least_l1 n l _ n 0 (by omega) hl (by omega)
theorem p_rleast_l1 (n : Nat) (l : List Trk) (K : Int → Option Int) : ∀ (m k : Nat) (a : Int), k ≤ l.length → l.length ≤ 1000000 → l.length < m + k → F_tidegateref36_Least_l1 n l K m (a, (k : Int)) = K ((l.drop k).foldl (fun m t => min m t.mark) a)
  | 0, k, a, h1, h2, h3 => by omega
  | m + 1, k, a, h1, h2, h3 => by
    unfold F_tidegateref36_Least_l1
    simp only [List.length_map, cnd_if]
    by_cases h : k < l.length
    · rw [if_pos (by omega), idx_nat h, wrapS k (by omega), p_rleast_l1 n l K m (k + 1) _ (by omega) h2 (by omega), drop_cons l k h]
      rfl
    · rw [if_neg (by omega), List.drop_eq_nil_of_le (by omega)]; rfl
theorem p_rleast (n : Nat) (l : List Trk) (hn : l.length < n) (hl : l.length ≤ 1000000) : F_tidegateref36_Least n l = some (leastOf l) := p_rleast_l1 n l _ n 0 _ (by omega) hl (by omega)
theorem p_global (n : Nat) (l : List Trk) (hn : 100 ≤ n) : F_watermark_Global n l = some (wGlobal l) := by
  rw [← wGlobal_eq]
  unfold F_watermark_Global wGlobalP
  rw [p_check n l hn, bnd_some]
  simp only [cnd_not, cnd_if]
  by_cases h : wCheck l = 0
  · have hl := wCheck_len l h
    rw [if_pos h, if_neg (by simpa using h), p_least n l (by omega) (by omega), bnd_some]
    have hr := leastAt_range l l.length
    have hx : leastIx l = leastAt l l.length := rfl
    by_cases h0 : 0 ≤ leastIx l
    · have hj : (leastIx l).toNat < l.length := by omega
      rw [if_pos h0, if_pos h0, idx_int h0 hj]
      simp [List.getElem?_eq_getElem hj]
    · rw [if_neg h0, if_neg h0]
  · rw [if_neg h, if_pos h]
theorem p_rglobal (n : Nat) (l : List Trk) (hn : 100 ≤ n) : F_tidegateref36_Global n l = some (wGlobal l) := by
  unfold F_tidegateref36_Global wGlobal
  rw [p_rcheck n l hn, bnd_some]
  simp only [cnd_not, cnd_if]
  by_cases h : wCheck l = 0
  · have hl := wCheck_len l h
    rw [if_pos h, if_neg (by simpa using h), p_rleast n l (by omega) (by omega), bnd_some]
  · rw [if_neg h, if_pos h]

end Go.Proofs.YtimkhfaddnanhaaGreat
namespace Go.Proofs.YtimkhfaddnanhaaGreat
open Go.RowKit

theorem sqLoop_zero (a : Int) (l : List Int) : sqLoop a l = 0 ↔ (∀ b ∈ l, 0 ≤ b ∧ b ≤ 1099511627776) ∧ (a :: l).Pairwise (· < ·) := by
  induction l generalizing a with
  | nil => simp [sqLoop]
  | cons x r ih =>
    unfold sqLoop
    by_cases h1 : x < 0 ∨ 1099511627776 < x
    · rw [if_pos h1]
      refine ⟨fun h => by omega, fun ⟨h, _⟩ => by have := h x (by simp); omega⟩
    · rw [if_neg h1]
      by_cases h2 : x ≤ a
      · rw [if_pos h2]
        refine ⟨fun h => by omega, fun ⟨_, h⟩ => by have := (List.pairwise_cons.1 h).1 x (by simp); omega⟩
      · rw [if_neg h2, ih]
        constructor
        · rintro ⟨h3, h4⟩
          refine ⟨fun b hb => ?_, List.pairwise_cons.2 ⟨fun b hb => ?_, h4⟩⟩
          · rcases List.mem_cons.1 hb with rfl | hb
            · omega
            · exact h3 b hb
          · rcases List.mem_cons.1 hb with rfl | hb
            · omega
            · have := (List.pairwise_cons.1 h4).1 b hb; omega
        · rintro ⟨h3, h4⟩
          exact ⟨fun b hb => h3 b (by simp [hb]), (List.pairwise_cons.1 h4).2⟩
theorem sqCheck_zero (t : Trk) : sqCheck t = 0 ↔ (0 ≤ t.next ∧ t.next ≤ 1099511627777) ∧ t.beyond.length ≤ 256 ∧ (∀ b ∈ t.beyond, 0 ≤ b ∧ b ≤ 1099511627776) ∧ (t.next :: t.beyond).Pairwise (· < ·) := by
  unfold sqCheck
  by_cases h1 : t.next < 0 ∨ 1099511627777 < t.next
  · rw [if_pos h1]
    exact ⟨fun h => by omega, fun h => by omega⟩
  · rw [if_neg h1]
    by_cases h2 : 256 < t.beyond.length
    · rw [if_pos h2]
      exact ⟨fun h => by omega, fun h => by omega⟩
    · rw [if_neg h2, sqLoop_zero]
      exact ⟨fun h => ⟨by omega, by omega, h⟩, fun h => h.2.2⟩
theorem drop_eq {α : Type} [DecidableEq α] (a b : List α) (k : Nat) (h : k < a.length) (hb : k < b.length) : decide (a.drop k = b.drop k) = (decide (a[k] = b[k]) && decide (a.drop (k + 1) = b.drop (k + 1))) := by
  rw [← Bool.decide_and]
  exact decide_eq_decide.2 (by rw [drop_cons a k h, drop_cons b k hb, List.cons.injEq])
theorem p_fewT (n : Nat) (t : Trk) : F_tidegateref34_Few n t = some (fewT t) := by
  unfold F_tidegateref34_Few fewT
  simp only [List.length_map, cnd_if]
  by_cases h : t.beyond.length ≤ 300
  · rw [if_pos (by omega)]
    simp [h]; omega
  · rw [if_neg (by omega)]
    simp [h]
theorem p_few_l1 (n : Nat) (l : List Trk) : ∀ (m k : Nat), k ≤ l.length → k ≤ 12 → 12 < m + k → F_tidegateref36_Few_l1 n l (some (decide ((l.length : Int) ≤ 12))) m (k : Int) = some (((l.take 12).drop k).all fewT && decide (l.length ≤ 12))
  | 0, k, h1, h2, h3 => by omega
  | m + 1, k, h1, h2, h3 => by
    unfold F_tidegateref36_Few_l1
    simp only [List.length_map, cnd_if, cnd_not, p_fewT]
    by_cases h : k < l.length
    · rw [if_pos (by omega)]
      by_cases h12 : k < 12
      · have hk : k < (l.take 12).length := by simp; omega
        have e : (l.take 12)[k] = l[k] := by simp
        rw [if_pos (by omega), idx_nat h, bnd_some, cnd_b, wrapS k (by omega), p_few_l1 n l m (k + 1) (by omega) (by omega) (by omega), show ((l.take 12).drop k).all fewT = (fewT l[k] && ((l.take 12).drop (k + 1)).all fewT) by rw [drop_cons _ k hk, e, List.all_cons]]
        cases fewT l[k] <;> simp
      · rw [if_neg (by omega), List.drop_eq_nil_of_le (by simp; omega)]
        simp; omega
    · rw [if_neg (by omega), List.drop_eq_nil_of_le (by simp; omega)]
      simp; omega
theorem p_few (n : Nat) (l : List Trk) (hn : 100 ≤ n) : F_tidegateref36_Few n l = some (few36 l) := by
  unfold F_tidegateref36_Few few36
  simp only [List.length_map]
  have := p_few_l1 n l n 0 (by omega) (by omega) (by omega)
  simpa using this
end Go.Proofs.YtimkhfaddnanhaaGreat
namespace Go.Proofs.YtimkhfaddnanhaaGreat
open Go.RowKit

def rng (a most : Int) : Bool := decide (0 ≤ a) && decide (a ≤ most)
def msgCheck (m : T_api_Message) : Int :=
  if m.fKind = 0 then
    if m.fSource = 0 ∧ m.fSeq = 0 ∧ m.fTime = 0 then
      if rng m.fEvent.fSource 7 = true ∧ rng m.fEvent.fSeq 1099511627776 = true ∧ rng m.fEvent.fTime 1099511627776 = true then 0 else 2
    else 3
  else if m.fKind = 1 then
    if m.fEvent.fSource = 0 ∧ m.fEvent.fSeq = 0 ∧ m.fEvent.fType = 0 ∧ m.fEvent.fTime = 0 ∧ m.fEvent.fValues.length = 0 then
      if rng m.fSource 7 = true ∧ ptValid ⟨m.fSeq, m.fTime⟩ = true then 0 else 2
    else 3
  else 1
theorem p_ranged (n : Nat) (a b : Int) : F_watermark_ranged n a b = some (rng a b) := by
  unfold F_watermark_ranged rng
  rw [cnd_if]
  by_cases h : 0 ≤ a <;> simp [h]
theorem p_within (n : Nat) (a b : Int) : F_tidegateref36_within n a b = some (rng a b) := by
  unfold F_tidegateref36_within rng
  rw [cnd_if]
  by_cases h : 0 ≤ a <;> simp [h]
theorem p_rvalid (n : Nat) (p : Pt) : F_tidegateref35_Valid n p = some (ptValid p) := by
  unfold F_tidegateref35_Valid ptValid
  simp only [cnd_if]
  by_cases h : 0 ≤ p.seq <;> by_cases h2 : p.seq ≤ 1099511627777 <;> by_cases h3 : 0 ≤ p.time <;> simp [h, h2, h3]
theorem begin_ok : TOk ⟨0, [], [], -1⟩ := (puCheck_zero _).1 (by decide +kernel)
theorem p_valid (n : Nat) (m : T_api_Message) : F_watermark_valid n m = some (ptValid ⟨m.fSeq, m.fTime⟩) := by
  unfold F_watermark_valid F_sequence_Begin F_puAdd
  rw [bnd_some, if_pos (by simp), bnd_some]
  cases h : ptValid ⟨m.fSeq, m.fTime⟩ with
  | true => simp [add_fits _ _ begin_ok h (by simp)]
  | false => simp [add_invalid ⟨0, [], [], -1⟩ _ h]
theorem p_checkM (n : Nat) (m : T_api_Message) : F_watermark_CheckMessage n m = some (msgCheck m) := by
  unfold F_watermark_CheckMessage F_watermark_checkEvent F_watermark_checkPoint msgCheck
  simp only [cnd_if, cnd_not, p_ranged, p_valid, bnd_some, List.length_map]
  by_cases h0 : m.fKind = 0
  · simp only [h0, if_true]
    rw [if_neg (by omega), if_neg (by omega)]
    by_cases h1 : m.fSource = 0
    · by_cases h2 : m.fSeq = 0
      · by_cases h3 : m.fTime = 0
        · simp only [h1, h2, h3, and_self, if_true]
          cases rng m.fEvent.fSource 7
          · simp [cnd_b, bnd_some]
          · cases rng m.fEvent.fSeq 1099511627776
            · simp [cnd_b, bnd_some]
            · cases rng m.fEvent.fTime 1099511627776 <;> simp [cnd_b, bnd_some]
        · simp [h1, h2, h3, bnd_some]
      · simp [h1, h2, bnd_some]
    · simp [h1, bnd_some]
  · by_cases h1 : m.fKind = 1
    · rw [if_neg (by omega), if_neg (by omega), if_neg h0, if_pos h1, if_neg h0, if_pos h1]
      by_cases e1 : m.fEvent.fSource = 0
      · by_cases e2 : m.fEvent.fSeq = 0
        · by_cases e3 : m.fEvent.fType = 0
          · by_cases e4 : m.fEvent.fTime = 0
            · by_cases e5 : m.fEvent.fValues.length = 0
              · simp only [e1, e2, e3, e4, e5, and_self, if_true]
                cases rng m.fSource 7
                · simp [cnd_b, bnd_some]
                · cases ptValid ⟨m.fSeq, m.fTime⟩ <;> simp [cnd_b, bnd_some]
              · have : 0 < m.fEvent.fValues.length := by omega
                simp [e1, e2, e3, e4, e5, bnd_some, this]
            · simp [e1, e2, e3, e4, bnd_some]
          · simp [e1, e2, e3, bnd_some]
        · simp [e1, e2, bnd_some]
      · simp [e1, bnd_some]
    · rw [if_neg h0, if_neg h1, if_neg h0, if_neg h1]
      by_cases h2 : m.fKind < 0
      · rw [if_pos h2]
      · rw [if_neg h2, if_pos (by omega)]
theorem p_rcheckM (n : Nat) (m : T_api_Message) : F_tidegateref36_CheckMessage n m = some (msgCheck m) := by
  unfold F_tidegateref36_CheckMessage msgCheck
  simp only [cnd_if, cnd_not, p_within, p_rvalid, bnd_some, List.length_map]
  by_cases h0 : m.fKind = 0
  · simp only [h0, if_true]
    by_cases h1 : m.fSource = 0
    · by_cases h2 : m.fSeq = 0
      · by_cases h3 : m.fTime = 0
        · simp only [h1, h2, h3, and_self, if_true]
          cases rng m.fEvent.fSource 7
          · simp [cnd_b, bnd_some]
          · cases rng m.fEvent.fSeq 1099511627776
            · simp [cnd_b, bnd_some]
            · cases rng m.fEvent.fTime 1099511627776 <;> simp [cnd_b, bnd_some]
        · simp [h1, h2, h3, bnd_some]
      · simp [h1, h2, bnd_some]
    · simp [h1, bnd_some]
  · by_cases h1 : m.fKind = 1
    · rw [if_neg h0, if_pos h1, if_neg h0, if_pos h1]
      by_cases e1 : m.fEvent.fSource = 0
      · by_cases e2 : m.fEvent.fSeq = 0
        · by_cases e3 : m.fEvent.fType = 0
          · by_cases e4 : m.fEvent.fTime = 0
            · by_cases e5 : m.fEvent.fValues.length = 0
              · simp only [e1, e2, e3, e4, e5, and_self, if_true]
                cases rng m.fSource 7
                · simp [cnd_b, bnd_some]
                · cases ptValid ⟨m.fSeq, m.fTime⟩ <;> simp [cnd_b, bnd_some]
              · have e6 : ¬ (m.fEvent.fValues.length : Int) = 0 := by omega
                simp only [e1, e2, e3, e4, e5, e6, if_true, if_false, true_and]
            · simp [e1, e2, e3, e4, bnd_some]
          · simp [e1, e2, e3, bnd_some]
        · simp [e1, e2, bnd_some]
      · simp [e1, bnd_some]
    · rw [if_neg h0, if_neg h1, if_neg h0, if_neg h1]
def srcOf (m : T_api_Message) : Int := if m.fKind = 0 then m.fEvent.fSource else m.fSource
theorem p_source (n : Nat) (m : T_api_Message) : F_tidegateref36_Source n m = some (srcOf m) := by
  unfold F_tidegateref36_Source srcOf
  rw [cnd_if]
  split <;> rfl

def cntB (l : List Int) (a : Int) : Nat := (l.filter fun b => decide (b < a)).length
theorem cntB_lt (l : List Int) (a : Int) (h : l.Pairwise (· < ·)) : ∀ k (hk : k < l.length), l[k] < a ↔ k < cntB l a := by
  induction l with
  | nil => intro k hk; simp at hk
  | cons x r ih =>
    intro k hk
    have h' := List.pairwise_cons.1 h
    unfold cntB
    by_cases hx : x < a
    · rw [List.filter_cons_of_pos (by simpa using hx), List.length_cons]
      cases k with
      | zero => simp [hx]
      | succ k => simpa [cntB] using ih h'.2 k (by simpa using hk)
    · rw [List.filter_cons_of_neg (by simpa using hx)]
      have hall : r.filter (fun b => decide (b < a)) = [] := by
        rw [List.filter_eq_nil_iff]
        intro p hp
        have := h'.1 p hp
        simp; omega
      rw [hall]
      cases k with
      | zero => simp [hx]
      | succ k =>
        have hk' : k < r.length := by simpa using hk
        have := h'.1 r[k] (List.getElem_mem hk')
        simp; omega
theorem cntB_le (l : List Int) (a : Int) : cntB l a ≤ l.length := List.length_filter_le _ _
theorem mid_eq (i j : Nat) (hi : i ≤ 1000000000) (hj : j ≤ 1000000000) : IntKind.wrap .i64 (Int.fdiv (IntKind.wrap .u64 (IntKind.wrap .i64 ((i : Int) + (j : Int)))) (2 ^ min (Int.toNat (1 : Int)) (IntKind.bits .u64))) = (((i + j) / 2 : Nat) : Int) := by
  have h1 : IntKind.wrap .i64 ((i : Int) + (j : Int)) = (i : Int) + (j : Int) := wrap_in _ (by omega)
  have h2 : IntKind.wrap .u64 ((i : Int) + (j : Int)) = (i : Int) + (j : Int) := IntWalk.u64_in _ (by omega)
  rw [h1, h2]
  have e : (2 ^ min (Int.toNat (1 : Int)) (IntKind.bits .u64) : Int) = 2 := by decide
  rw [e]
  have e2 : Int.fdiv ((i : Int) + (j : Int)) 2 = (((i + j) / 2 : Nat) : Int) := by
    rw [Int.fdiv_eq_ediv_of_nonneg _ (by omega)]
    omega
  rw [e2, wrap_in _ (by omega)]
theorem p_search_l1 (n : Nat) (a : Int) (l : List Int) (hs : l.Pairwise (· < ·)) (hl : l.length ≤ 1000000) (K : Int → Option Int) : ∀ (m i j : Nat), i ≤ cntB l a → cntB l a ≤ j → j ≤ l.length → j - i < m → F_sort_Search_l1 n a l K m ((i : Int), (j : Int)) = K (cntB l a)
  | 0, i, j, h1, h2, h3, h4 => by omega
  | m + 1, i, j, h1, h2, h3, h4 => by
    unfold F_sort_Search_l1
    simp only [cnd_if, cnd_not]
    by_cases h : i < j
    · rw [if_pos (by omega), shx_ok (by omega), mid_eq i j (by omega) (by omega)]
      have hm : (i + j) / 2 < l.length := by omega
      unfold F_sequence_place_1
      rw [idx_nat hm, bnd_some, cnd_if]
      have hc := cntB_lt l a hs _ hm
      by_cases h5 : a ≤ l[(i + j) / 2]
      · rw [if_pos h5]
        exact p_search_l1 n a l hs hl K m i ((i + j) / 2) h1 (by omega) (by omega) (by omega)
      · rw [if_neg h5, wrapS _ (by omega)]
        exact p_search_l1 n a l hs hl K m ((i + j) / 2 + 1) j (by omega) h2 h3 (by omega)
    · rw [if_neg (by omega)]
      congr 1
      omega
theorem p_place (n : Nat) (l : List Int) (a : Int) (hs : l.Pairwise (· < ·)) (hl : l.length ≤ 1000000) (hn : l.length < n) : F_sequence_place n l a = some ((cntB l a : Nat) : Int) := by
  unfold F_sequence_place F_sort_Search
  have := p_search_l1 n a l hs hl (fun y => some y) n 0 l.length (by omega) (cntB_le l a) (Nat.le_refl _) (by omega)
  simp only [List.length_map]
  simp only [Int.natCast_zero] at this
  rw [this, bnd_some]
theorem cntB_mem (l : List Int) (a : Int) (hs : l.Pairwise (· < ·)) : l.contains a = true ↔ ∃ h : cntB l a < l.length, l[cntB l a] = a := by
  rw [List.contains_iff_mem]
  constructor
  · intro h
    obtain ⟨k, hk, rfl⟩ := List.mem_iff_getElem.1 h
    have h1 := (cntB_lt l l[k] hs k hk)
    have hle : cntB l l[k] ≤ k := by omega
    have hlt : cntB l l[k] < l.length := by omega
    refine ⟨hlt, ?_⟩
    have h2 := cntB_lt l l[k] hs _ hlt
    rcases Nat.eq_or_lt_of_le hle with e | hlt2
    · simp [e]
    · have := List.pairwise_iff_getElem.1 hs _ _ hlt hk hlt2
      omega
  · rintro ⟨h, e⟩
    have := List.getElem_mem h
    rwa [e] at this
theorem p_has (n : Nat) (t : Trk) (s : Int) (hs : t.beyond.Pairwise (· < ·)) (hl : t.beyond.length ≤ 1000000) (hn : t.beyond.length < n) : F_sequence_has n t s = some (hasB t s) := by
  unfold F_sequence_has hasB
  rw [cnd_if]
  split
  · rfl
  · rw [p_place n t.beyond s hs hl hn, bnd_some]
    simp only [List.length_map, cnd_if]
    have hm := cntB_mem t.beyond s hs
    by_cases h : cntB t.beyond s < t.beyond.length
    · rw [if_pos (by omega), idx_nat h]
      congr 1
      rw [Bool.eq_iff_iff, hm, decide_eq_true_iff]
      exact ⟨fun e => ⟨h, e⟩, fun ⟨_, e⟩ => e⟩
    · rw [if_neg (by omega)]
      congr 1
      symm
      rw [← Bool.not_eq_true, hm]
      rintro ⟨h', _⟩
      exact h h'
theorem sqLoop_cons (a b : Int) (r : List Int) : sqLoop a (b :: r) = if b < 0 ∨ 1099511627776 < b then 2 else if b ≤ a then 14 else sqLoop b r := rfl
theorem p_sqCheck_l1 (n : Nat) (t : Trk) (hl : t.beyond.length ≤ 1000000) : ∀ (m k : Nat) (a : Int), k ≤ t.beyond.length → t.beyond.length < m + k → F_sequence_Check_l1 n t (some 0) m (a, (k : Int)) = some (sqLoop a (t.beyond.drop k))
  | 0, k, a, h1, h3 => by omega
  | m + 1, k, a, h1, h3 => by
    unfold F_sequence_Check_l1
    simp only [List.length_map, cnd_if]
    by_cases h : k < t.beyond.length
    · rw [if_pos (by omega), idx_nat h, wrapS k (by omega), p_sqCheck_l1 n t hl m (k + 1) _ (by omega) (by omega), drop_cons _ k h, sqLoop_cons]
      by_cases h1 : t.beyond[k] < 0
      · simp only [h1, if_true, true_or]
      · by_cases h2 : 1099511627776 < t.beyond[k]
        · simp only [h1, h2, if_true, if_false, or_true]
        · simp only [h1, h2, if_false, or_self]
          split <;> rfl
    · rw [if_neg (by omega), List.drop_eq_nil_of_le (by omega)]; rfl
theorem p_sqCheck (n : Nat) (t : Trk) (hl : t.beyond.length ≤ 1000000) (hn : t.beyond.length < n) : F_sequence_Check n t = some (sqCheck t) := by
  unfold F_sequence_Check sqCheck
  simp only [List.length_map, cnd_if]
  have := p_sqCheck_l1 n t hl n 0 t.next (by omega) (by omega)
  simp only [Int.natCast_zero, List.drop_zero] at this
  rw [this]
  by_cases h1 : t.next < 0
  · simp only [h1, if_true, true_or]
  · by_cases h2 : 1099511627777 < t.next
    · simp only [h1, h2, if_true, if_false, or_true]
    · simp only [h1, h2, if_false, or_self]
      by_cases h3 : 256 < t.beyond.length
      · rw [if_pos (by omega), if_pos h3]
      · rw [if_neg (by omega), if_neg h3]
theorem p_rsqCheck_l1 (n : Nat) (t : Trk) (hl : t.beyond.length ≤ 1000000) : ∀ (m k : Nat) (a : Int), k ≤ t.beyond.length → t.beyond.length < m + k → F_tidegateref34_Check_l1 n t (some 0) m (a, (k : Int)) = some (sqLoop a (t.beyond.drop k))
  | 0, k, a, h1, h3 => by omega
  | m + 1, k, a, h1, h3 => by
    unfold F_tidegateref34_Check_l1
    simp only [List.length_map, cnd_if]
    by_cases h : k < t.beyond.length
    · rw [if_pos (by omega), idx_nat h, wrapS k (by omega), p_rsqCheck_l1 n t hl m (k + 1) _ (by omega) (by omega), drop_cons _ k h, sqLoop_cons]
      by_cases h1 : t.beyond[k] < 0
      · simp only [h1, if_true, true_or]
      · by_cases h2 : 1099511627776 < t.beyond[k]
        · simp only [h1, h2, if_true, if_false, or_true]
        · simp only [h1, h2, if_false, or_self]
          split <;> rfl
    · rw [if_neg (by omega), List.drop_eq_nil_of_le (by omega)]; rfl
theorem p_rsqCheck (n : Nat) (t : Trk) (hl : t.beyond.length ≤ 1000000) (hn : t.beyond.length < n) : F_tidegateref34_Check n t = some (sqCheck t) := by
  unfold F_tidegateref34_Check sqCheck
  simp only [List.length_map, cnd_if]
  have := p_rsqCheck_l1 n t hl n 0 t.next (by omega) (by omega)
  simp only [Int.natCast_zero, List.drop_zero] at this
  rw [this]
  by_cases h1 : t.next < 0
  · simp only [h1, if_true, true_or]
  · by_cases h2 : 1099511627777 < t.next
    · simp only [h1, h2, if_true, if_false, or_true]
    · simp only [h1, h2, if_false, or_self]
      by_cases h3 : 256 < t.beyond.length
      · rw [if_pos (by omega), if_pos h3]
      · rw [if_neg (by omega), if_neg h3]
theorem p_contains_l1 (n : Nat) (s : Int) (t : Trk) (hl : t.beyond.length ≤ 1000000) : ∀ (m k : Nat), k ≤ t.beyond.length → t.beyond.length < m + k → F_tidegateref34_Contains_l1 n s t (some false) m (k : Int) = some ((t.beyond.drop k).contains s)
  | 0, k, h1, h3 => by omega
  | m + 1, k, h1, h3 => by
    unfold F_tidegateref34_Contains_l1
    simp only [List.length_map, cnd_if]
    by_cases h : k < t.beyond.length
    · rw [if_pos (by omega), idx_nat h, wrapS k (by omega), p_contains_l1 n s t hl m (k + 1) (by omega) (by omega), show (t.beyond.drop k).contains s = ((s == t.beyond[k]) || (t.beyond.drop (k + 1)).contains s) by rw [drop_cons _ k h, List.contains_cons]]
      by_cases h2 : t.beyond[k] = s
      · rw [if_pos h2]; simp [h2]
      · rw [if_neg h2]
        have : (s == t.beyond[k]) = false := by rw [beq_eq_false_iff_ne]; exact fun e => h2 e.symm
        rw [this, Bool.false_or]
    · rw [if_neg (by omega), List.drop_eq_nil_of_le (by omega)]; rfl
theorem p_contains (n : Nat) (t : Trk) (s : Int) (hl : t.beyond.length ≤ 1000000) (hn : t.beyond.length < n) : F_tidegateref34_Contains n t s = some (hasB t s) := by
  unfold F_tidegateref34_Contains hasB
  rw [cnd_if]
  split
  · rfl
  · have := p_contains_l1 n s t hl n 0 (by omega) (by omega)
    simpa using this
end Go.Proofs.YtimkhfaddnanhaaGreat
namespace Go.Proofs.YtimkhfaddnanhaaGreat
open Go.RowKit

def strip : Int → List Int → Int × List Int
  | a, [] => (a, [])
  | a, b :: r => if b = a then strip (a + 1) r else (a, b :: r)
def insB (l : List Int) (s : Int) : List Int := l.take (cntB l s) ++ s :: l.drop (cntB l s)
def withT (t : Trk) (s : Int) : Trk :=
  if t.next < s then ⟨t.next, insB t.beyond s, t.points, t.mark⟩ else ⟨(strip (t.next + 1) t.beyond).1, (strip (t.next + 1) t.beyond).2, t.points, t.mark⟩
def recvT (t : Trk) (s : Int) : Trk × Bool × Int :=
  if sqCheck t ≠ 0 then (zeroT, false, sqCheck t) else if s < 0 ∨ 1099511627776 < s then (zeroT, false, 2) else
  if hasB t s = true then (t, false, 0) else if 256 < (withT t s).beyond.length then (zeroT, false, 5) else (withT t s, true, 0)

theorem p_strip_own (n : Nat) (t : Trk) (ps : List Pt) (K : Int → List Int → List Pt → Option Trk) : ∀ (l : List Int) (m : Nat) (a : Int), l.length < m → l.length ≤ 1000000 → 0 ≤ a → a + l.length ≤ 4000000000000 →
    F_sequence_with_l1 n t ps K m (a, l) = K (strip a l).1 (strip a l).2 ps
  | [], 0, a, h, _, _, _ => by simp at h
  | [], m + 1, a, h, _, _, _ => by
    unfold F_sequence_with_l1
    simp only [List.map_nil, List.length_nil, cnd_if]
    rw [if_neg (by omega)]
    rfl
  | b :: r, 0, a, h, _, _, _ => by simp at h
  | b :: r, m + 1, a, h, h1, h2, h3 => by
    unfold F_sequence_with_l1
    simp only [List.length_map, cnd_if, reg_eq]
    simp only [List.length_cons] at h h1 h3 ⊢
    rw [if_pos (by omega), idx_zero]
    unfold strip
    by_cases h4 : b = a
    · have e := sls_ok (l := b :: r) (a := 1) (b := r.length + 1) (by omega) (by simp) (fun x49 => F_sequence_with_l1 n t ps K m (IntKind.i64.wrap (a + 1), x49))
      simp only [Int.natCast_one] at e
      rw [if_pos h4, if_pos h4, e, wrap_in (a + 1) (by omega)]
      have : ((b :: r).take (r.length + 1)).drop 1 = r := by simp
      rw [this]
      exact p_strip_own n t ps K r m (a + 1) (by omega) (by omega) (by omega) (by omega)
    · rw [if_neg h4, if_neg h4]
theorem p_strip2 (n : Nat) (t : Trk) (K : List Int → Int → Option Trk) : ∀ (l : List Int) (m : Nat) (a : Int), l.length < m → l.length ≤ 1000000 → 0 ≤ a → a + l.length ≤ 4000000000000 →
    F_tidegateref34_With_l2 n t K m (l, a) = K (strip a l).2 (strip a l).1
  | [], 0, a, h, _, _, _ => by simp at h
  | [], m + 1, a, h, _, _, _ => by
    unfold F_tidegateref34_With_l2
    simp only [List.map_nil, List.length_nil, cnd_if]
    rw [if_neg (by omega)]
    rfl
  | b :: r, 0, a, h, _, _, _ => by simp at h
  | b :: r, m + 1, a, h, h1, h2, h3 => by
    unfold F_tidegateref34_With_l2
    simp only [List.length_map, cnd_if, reg_eq]
    simp only [List.length_cons] at h h1 h3 ⊢
    rw [if_pos (by omega), idx_zero]
    unfold strip
    by_cases h4 : b = a
    · have e := sls_ok (l := b :: r) (a := 1) (b := r.length + 1) (by omega) (by simp) (fun x49 => F_tidegateref34_With_l2 n t K m (x49, IntKind.i64.wrap (a + 1)))
      simp only [Int.natCast_one] at e
      rw [if_pos h4, if_pos h4, e, wrap_in (a + 1) (by omega)]
      have : ((b :: r).take (r.length + 1)).drop 1 = r := by simp
      rw [this]
      exact p_strip2 n t K r m (a + 1) (by omega) (by omega) (by omega) (by omega)
    · rw [if_neg h4, if_neg h4]
theorem p_strip3 (n : Nat) (t : Trk) (K : List Int → Int → Option Trk) : ∀ (l : List Int) (m : Nat) (a : Int), l.length < m → l.length ≤ 1000000 → 0 ≤ a → a + l.length ≤ 4000000000000 →
    F_tidegateref34_With_l3 n t K m (l, a) = K (strip a l).2 (strip a l).1
  | [], 0, a, h, _, _, _ => by simp at h
  | [], m + 1, a, h, _, _, _ => by
    unfold F_tidegateref34_With_l3
    simp only [List.map_nil, List.length_nil, cnd_if]
    rw [if_neg (by omega)]
    rfl
  | b :: r, 0, a, h, _, _, _ => by simp at h
  | b :: r, m + 1, a, h, h1, h2, h3 => by
    unfold F_tidegateref34_With_l3
    simp only [List.length_map, cnd_if, reg_eq]
    simp only [List.length_cons] at h h1 h3 ⊢
    rw [if_pos (by omega), idx_zero]
    unfold strip
    by_cases h4 : b = a
    · have e := sls_ok (l := b :: r) (a := 1) (b := r.length + 1) (by omega) (by simp) (fun x49 => F_tidegateref34_With_l3 n t K m (x49, IntKind.i64.wrap (a + 1)))
      simp only [Int.natCast_one] at e
      rw [if_pos h4, if_pos h4, e, wrap_in (a + 1) (by omega)]
      have : ((b :: r).take (r.length + 1)).drop 1 = r := by simp
      rw [this]
      exact p_strip3 n t K r m (a + 1) (by omega) (by omega) (by omega) (by omega)
    · rw [if_neg h4, if_neg h4]
theorem insB_len (l : List Int) (s : Int) : (insB l s).length = l.length + 1 := by
  have := cntB_le l s
  simp [insB]
  omega
theorem ins_ok {α : Type} {n c : Nat} {a : List α} {x : α} (h : c ≤ a.length) (hl : a.length ≤ 1000000000) : F_insert n a (c : Int) [x] = some (a.take c ++ x :: a.drop c) := by
  unfold F_insert
  simp [h, hl]
theorem p_with (n : Nat) (t : Trk) (s : Int) (hq : sqCheck t = 0) (hp : t.points.length ≤ 1000000) (hn : 1000 ≤ n) : F_sequence_with n t s = some (withT t s) := by
  obtain ⟨h1, h2, h3, h4⟩ := (sqCheck_zero t).1 hq
  unfold F_sequence_with F_clone withT
  rw [if_pos (by omega), bndR_some, if_pos (by omega), bnd_some, cnd_if]
  by_cases h : t.next < s
  · rw [if_pos h, if_pos h, p_place n t.beyond s (List.pairwise_cons.1 h4).2 (by omega) (by omega), bnd_some]
    have := cntB_le t.beyond s
    rw [ins_ok this (by omega), bndC_some]
    rfl
  · rw [if_neg h, if_neg h, wrap_in _ (by omega), p_strip_own n t t.points _ t.beyond n (t.next + 1) (by omega) (by omega) (by omega) (by omega)]

def wl (s : Int) : Bool → List Int → List Int → Bool × List Int
  | p, acc, [] => (p, acc)
  | p, acc, b :: r => if p = false ∧ s < b then wl s true (acc ++ [s, b]) r else wl s p (acc ++ [b]) r
theorem p_withl (n : Nat) (s : Int) (t : Trk) (hl : t.beyond.length ≤ 1000000) (K : Bool → List Int → Option Trk) : ∀ (m k : Nat) (p : Bool) (acc : List Int), k ≤ t.beyond.length → t.beyond.length < m + k → acc.length ≤ 2 * k →
    F_tidegateref34_With_l1 n s t K m (p, (k : Int), acc) = K (wl s p acc (t.beyond.drop k)).1 (wl s p acc (t.beyond.drop k)).2
  | 0, k, p, acc, h1, h3, h4 => by omega
  | m + 1, k, p, acc, h1, h3, h4 => by
    unfold F_tidegateref34_With_l1
    simp only [List.length_map, cnd_if, cnd_not]
    by_cases h : k < t.beyond.length
    · have ih := p_withl n s t hl K m (k + 1)
      have hw : ∀ p acc, wl s p acc (t.beyond[k] :: t.beyond.drop (k + 1)) = if p = false ∧ s < t.beyond[k] then wl s true (acc ++ [s, t.beyond[k]]) (t.beyond.drop (k + 1)) else wl s p (acc ++ [t.beyond[k]]) (t.beyond.drop (k + 1)) := fun p acc => rfl
      simp only [idx_nat h]
      rw [if_pos (by omega), wrapS k (by omega), drop_cons _ k h, hw]
      cases p with
      | true =>
        rw [cnd_t, app_ok (by simp; omega) (by omega), ih true _ (by omega) (by omega) (by simp; omega), if_neg (by simp)]
      | false =>
        rw [cnd_f]
        by_cases h5 : s < t.beyond[k]
        · rw [if_pos h5, app_ok (by simp; omega) (by omega), app_ok (by simp; omega) (by omega), ih true _ (by omega) (by omega) (by simp; omega), if_pos ⟨rfl, h5⟩]
          simp
        · rw [if_neg h5, app_ok (by simp; omega) (by omega), ih false _ (by omega) (by omega) (by simp; omega), if_neg (by simp [h5])]
    · rw [if_neg (by omega), List.drop_eq_nil_of_le (by omega)]; rfl
theorem wl_cons (s : Int) (p : Bool) (acc : List Int) (b : Int) (r : List Int) : wl s p acc (b :: r) = if p = false ∧ s < b then wl s true (acc ++ [s, b]) r else wl s p (acc ++ [b]) r := rfl
theorem wl_true (s : Int) (acc l : List Int) : wl s true acc l = (true, acc ++ l) := by
  induction l generalizing acc with
  | nil => simp [wl]
  | cons b r ih => rw [wl_cons, if_neg (by simp), ih]; simp
theorem wl_false (s : Int) (acc l : List Int) (hs : l.Pairwise (· < ·)) (hn : s ∉ l) : (if (wl s false acc l).1 = true then (wl s false acc l).2 else (wl s false acc l).2 ++ [s]) = acc ++ insB l s := by
  induction l generalizing acc with
  | nil => simp [wl, insB, cntB]
  | cons b r ih =>
    have h' := List.pairwise_cons.1 hs
    have hsb : s ≠ b := fun e => hn (by simp [e])
    rw [wl_cons]
    by_cases h : s < b
    · rw [if_pos (show false = false ∧ s < b from ⟨rfl, h⟩), wl_true]
      have hc : cntB (b :: r) s = 0 := by
        unfold cntB
        rw [List.length_eq_zero_iff, List.filter_eq_nil_iff]
        intro x hx
        rcases List.mem_cons.1 hx with rfl | hx
        · simp; omega
        · have := h'.1 x hx; simp; omega
      unfold insB
      rw [hc]
      simp
    · rw [if_neg (show ¬ (false = false ∧ s < b) by simp [h]), ih _ h'.2 (fun hm => hn (by simp [hm]))]
      have hc : cntB (b :: r) s = cntB r s + 1 := by
        unfold cntB
        rw [List.filter_cons_of_pos (by simp; omega), List.length_cons]
      unfold insB
      rw [hc]
      simp
theorem strip_above (a : Int) (l : List Int) (h : ∀ b ∈ l, a < b) : strip a l = (a, l) := by
  cases l with
  | nil => rfl
  | cons b r => unfold strip; rw [if_neg (by have := h b (by simp); omega)]
theorem hasB_false (t : Trk) (s : Int) (h0 : 0 ≤ s) (h : hasB t s = false) : t.next ≤ s ∧ s ∉ t.beyond := by
  unfold hasB at h
  split at h
  · simp at h; omega
  · refine ⟨by omega, fun hm => ?_⟩
    rw [← Bool.not_eq_true, List.contains_iff_mem] at h
    exact h hm
theorem p_rwith (n : Nat) (t : Trk) (s : Int) (hq : sqCheck t = 0) (h0 : 0 ≤ s) (hs : s ≤ 1099511627776) (hb : hasB t s = false) (hn : 1000 ≤ n) : F_tidegateref34_With n t s = some (withT t s) := by
  obtain ⟨h1, h2, h3, h4⟩ := (sqCheck_zero t).1 hq
  obtain ⟨q1, q2⟩ := hasB_false t s h0 hb
  unfold F_tidegateref34_With
  rw [p_contains n t s (by omega) (by omega), bnd_some, hb, cnd_f]
  have e := p_withl n s t (by omega) (fun k1_0_0y0 k1_0_0y1 => cnd (!(k1_0_0y0)) (app k1_0_0y1 [s] 8 fun x44 =>
    F_tidegateref34_With_l2 n t (fun k2_1_0y0 k2_1_0y1 => some (⟨k2_1_0y1, k2_1_0y0, t.points, t.mark⟩)) n (x44, t.next)) <| F_tidegateref34_With_l3 n t
    (fun k3_2_0y0 k3_2_0y1 => some (⟨k3_2_0y1, k3_2_0y0, t.points, t.mark⟩)) n (k1_0_0y1, t.next)) n 0 false [] (by omega) (by omega) (by simp)
  simp only [Int.natCast_zero, List.drop_zero] at e
  rw [e]
  have hw := wl_false s [] t.beyond (List.pairwise_cons.1 h4).2 q2
  have hil := insB_len t.beyond s
  have hlen : (wl s false [] t.beyond).2.length ≤ t.beyond.length + 1 := by
    have := congrArg List.length hw
    simp only [List.nil_append] at this
    rw [hil] at this
    split at this
    · omega
    · simp at this; omega
  have key : strip t.next (insB t.beyond s) = if t.next < s then (t.next, insB t.beyond s) else strip (t.next + 1) t.beyond := by
    by_cases h : t.next < s
    · rw [if_pos h]
      refine strip_above _ _ fun b hb => ?_
      unfold insB at hb
      rcases List.mem_append.1 hb with hb | hb
      · exact (List.pairwise_cons.1 h4).1 b (List.mem_of_mem_take hb)
      · rcases List.mem_cons.1 hb with rfl | hb
        · exact h
        · exact (List.pairwise_cons.1 h4).1 b (List.mem_of_mem_drop hb)
    · rw [if_neg h]
      have hsn : s = t.next := by omega
      have hc : cntB t.beyond s = 0 := by
        unfold cntB
        rw [List.length_eq_zero_iff, List.filter_eq_nil_iff]
        intro x hx
        have := (List.pairwise_cons.1 h4).1 x hx
        simp; omega
      unfold insB
      rw [hc, List.take_zero, List.drop_zero, List.nil_append, hsn]
      conv => lhs; unfold strip
      rw [if_pos rfl]
  have fin : some (⟨(strip t.next (insB t.beyond s)).1, (strip t.next (insB t.beyond s)).2, t.points, t.mark⟩ : Trk) = some (withT t s) := by
    rw [key]
    unfold withT
    split <;> rfl
  cases hp : (wl s false [] t.beyond).1 with
  | false =>
    rw [hp, if_neg (by simp), List.nil_append] at hw
    rw [Bool.not_false, cnd_t, app_ok (by simp; omega) (by omega), hw, p_strip2 n t _ _ n t.next (by omega) (by omega) (by omega) (by omega)]
    exact fin
  | true =>
    rw [hp, if_pos rfl, List.nil_append] at hw
    rw [Bool.not_true, cnd_f, hw, p_strip3 n t _ _ n t.next (by omega) (by omega) (by omega) (by omega)]
    exact fin
theorem p_recv (n : Nat) (t : Trk) (s : Int) (hl : t.beyond.length ≤ 900) (hp : t.points.length ≤ 1000000) (hn : 1000 ≤ n) : F_sequence_Receive n t s = some (recvT t s) := by
  unfold F_sequence_Receive recvT
  rw [p_sqCheck n t (by omega) (by omega), bnd_some]
  simp only [cnd_not, cnd_if]
  by_cases hq : sqCheck t = 0
  · have hw : ¬ sqCheck t ≠ 0 := by simpa using hq
    rw [if_pos hq, if_neg hw]
    obtain ⟨h1, h2, h3, h4⟩ := (sqCheck_zero t).1 hq
    by_cases h5 : s < 0
    · simp only [h5, if_true, true_or]; rfl
    · by_cases h6 : 1099511627776 < s
      · simp only [h5, h6, if_true, if_false, or_true]; rfl
      · simp only [h5, h6, if_false, or_self]
        rw [p_has n t s (List.pairwise_cons.1 h4).2 (by omega) (by omega), bnd_some]
        cases hb : hasB t s with
        | true =>
          unfold F_clone
          rw [cnd_t, if_pos (by omega), bnd_some, if_pos (by omega), bnd_some]
          simp
        | false =>
          rw [cnd_f, p_with n t s hq hp hn, bnd_some]
          simp only [List.length_map, cnd_if, Bool.false_eq_true, if_false]
          by_cases h7 : 256 < (withT t s).beyond.length
          · rw [if_pos (by omega), if_pos h7]; rfl
          · rw [if_neg (by omega), if_neg h7]
  · rw [if_neg hq, if_pos hq]; rfl
theorem p_rrecv (n : Nat) (t : Trk) (s : Int) (hl : t.beyond.length ≤ 900) (hn : 1000 ≤ n) : F_tidegateref34_Receive n t s = some (recvT t s) := by
  unfold F_tidegateref34_Receive recvT
  rw [p_rsqCheck n t (by omega) (by omega), bnd_some]
  simp only [cnd_not, cnd_if]
  by_cases hq : sqCheck t = 0
  · have hw : ¬ sqCheck t ≠ 0 := by simpa using hq
    rw [if_pos hq, if_neg hw]
    obtain ⟨h1, h2, h3, h4⟩ := (sqCheck_zero t).1 hq
    by_cases h5 : s < 0
    · simp only [h5, if_true, true_or]; rfl
    · by_cases h6 : 1099511627776 < s
      · simp only [h5, h6, if_true, if_false, or_true]; rfl
      · simp only [h5, h6, if_false, or_self]
        rw [p_contains n t s (by omega) (by omega), bnd_some]
        cases hb : hasB t s with
        | true => simp [cnd_t]
        | false =>
          rw [cnd_f, p_rwith n t s hq (by omega) (by omega) hb hn, bnd_some]
          simp only [List.length_map, cnd_if, Bool.false_eq_true, if_false]
          by_cases h7 : 256 < (withT t s).beyond.length
          · rw [if_pos (by omega), if_pos h7]; rfl
          · rw [if_neg (by omega), if_neg h7]
  · rw [if_neg hq, if_pos hq]; rfl

def settledR (t : Trk) : Trk := ⟨t.next, t.beyond, t.points.filter fun p => decide (t.next < p.seq) && decide (latest t.mark t.points t.next < p.time), latest t.mark t.points t.next⟩
theorem p_settled_l1 (n : Nat) (t : Trk) (hl : t.points.length ≤ 1000000) (K : Int → Option Trk) : ∀ (m k : Nat) (a : Int), k ≤ t.points.length → t.points.length < m + k → F_tidegateref35_Settled_l1 n t K m ((k : Int), a) = K (latest a (t.points.drop k) t.next)
  | 0, k, a, h1, h3 => by omega
  | m + 1, k, a, h1, h3 => by
    unfold F_tidegateref35_Settled_l1
    simp only [List.length_map, cnd_if]
    by_cases h : k < t.points.length
    · rw [if_pos (by omega), idx_nat h, idx_nat h, wrapS k (by omega), p_settled_l1 n t hl K m (k + 1) _ (by omega) (by omega), p_settled_l1 n t hl K m (k + 1) _ (by omega) (by omega), show latest a (t.points.drop k) t.next = latest (if t.points[k].seq ≤ t.next then max a t.points[k].time else a) (t.points.drop (k + 1)) t.next by
        rw [drop_cons _ k h]
        unfold latest
        by_cases h2 : t.points[k].seq ≤ t.next
        · rw [List.filter_cons_of_pos (by simpa using h2), List.foldl_cons, if_pos h2]
        · rw [List.filter_cons_of_neg (by simpa using h2), if_neg h2]]
      split <;> rfl
    · rw [if_neg (by omega), List.drop_eq_nil_of_le (by omega)]; rfl
theorem p_settled_l2 (n : Nat) (t : Trk) (y : Int) (hl : t.points.length ≤ 1000000) (K : List Pt → Option Trk) : ∀ (m k : Nat) (acc : List Pt), k ≤ t.points.length → t.points.length < m + k → acc.length ≤ k →
    F_tidegateref35_Settled_l2 n t y K m ((k : Int), acc) = K (acc ++ (t.points.drop k).filter fun p => decide (t.next < p.seq) && decide (y < p.time))
  | 0, k, acc, h1, h3, h4 => by omega
  | m + 1, k, acc, h1, h3, h4 => by
    unfold F_tidegateref35_Settled_l2
    simp only [List.length_map, cnd_if]
    by_cases h : k < t.points.length
    · rw [if_pos (by omega)]
      simp only [idx_nat h]
      rw [wrapS k (by omega), app_ok (by simp; omega) (by omega), p_settled_l2 n t y hl K m (k + 1) _ (by omega) (by omega) (by simp; omega), p_settled_l2 n t y hl K m (k + 1) _ (by omega) (by omega) (by omega), show ((t.points.drop k).filter fun p => decide (t.next < p.seq) && decide (y < p.time)) = (if t.next < t.points[k].seq ∧ y < t.points[k].time then [t.points[k]] else []) ++ (t.points.drop (k + 1)).filter fun p => decide (t.next < p.seq) && decide (y < p.time) by
        rw [drop_cons _ k h]
        by_cases h2 : t.next < t.points[k].seq ∧ y < t.points[k].time
        · rw [List.filter_cons_of_pos (by simpa using h2), if_pos h2]; rfl
        · rw [List.filter_cons_of_neg (by simpa using h2), if_neg h2]; rfl]
      by_cases h5 : t.next < t.points[k].seq
      · by_cases h6 : y < t.points[k].time
        · simp only [h5, h6, and_self, if_true, List.append_assoc]
        · simp only [h5, h6, and_false, if_true, if_false, List.nil_append]
      · simp only [h5, false_and, if_false, List.nil_append]
    · rw [if_neg (by omega), List.drop_eq_nil_of_le (by omega)]; simp
theorem p_settled (n : Nat) (t : Trk) (hl : t.points.length ≤ 1000000) (hn : t.points.length < n) : F_tidegateref35_Settled n t = some (settledR t) := by
  unfold F_tidegateref35_Settled settledR
  have e := p_settled_l1 n t hl (fun k1_0_0y => F_tidegateref35_Settled_l2 n t k1_0_0y (fun k2_1_0y => some (⟨t.next, t.beyond, k2_1_0y, k1_0_0y⟩)) n (0, [])) n 0 t.mark (by omega) (by omega)
  simp only [Int.natCast_zero, List.drop_zero] at e
  rw [e]
  have e2 := p_settled_l2 n t (latest t.mark t.points t.next) hl (fun k2_1_0y => some (⟨t.next, t.beyond, k2_1_0y, latest t.mark t.points t.next⟩)) n 0 [] (by omega) (by omega) (by simp)
  simp only [Int.natCast_zero, List.drop_zero, List.nil_append] at e2
  rw [e2]
end Go.Proofs.YtimkhfaddnanhaaGreat
namespace Go.Proofs.YtimkhfaddnanhaaGreat
open Go.RowKit

theorem strip_props (a : Int) (l : List Int) (hs : l.Pairwise (· < ·)) (ha : ∀ b ∈ l, a ≤ b) :
    a ≤ (strip a l).1 ∧ ((strip a l).1 = a ∨ (strip a l).1 - 1 ∈ l) ∧ (∀ b ∈ (strip a l).2, b ∈ l) ∧ ((strip a l).1 :: (strip a l).2).Pairwise (· < ·) ∧ (strip a l).2.length ≤ l.length ∧ ∀ x, (x < (strip a l).1 ∨ x ∈ (strip a l).2) ↔ (x < a ∨ x ∈ l) := by
  induction l generalizing a with
  | nil => simp [strip]
  | cons b r ih =>
    have h' := List.pairwise_cons.1 hs
    unfold strip
    by_cases h : b = a
    · rw [if_pos h]
      obtain ⟨i1, i2, i3, i4, i5, i6⟩ := ih (a + 1) h'.2 (fun x hx => by have := h'.1 x hx; omega)
      refine ⟨by omega, Or.inr ?_, fun x hx => by simp [i3 x hx], i4, by simp; omega, fun x => ?_⟩
      · rcases i2 with i2 | i2
        · rw [i2, show a + 1 - 1 = b by omega]; simp
        · simp [i2]
      · rw [i6 x]
        simp only [List.mem_cons]
        constructor
        · rintro (h1 | h1)
          · by_cases hx : x = b
            · exact Or.inr (Or.inl hx)
            · exact Or.inl (by omega)
          · exact Or.inr (Or.inr h1)
        · rintro (h1 | h1 | h1)
          · exact Or.inl (by omega)
          · exact Or.inl (by omega)
          · exact Or.inr h1
    · rw [if_neg h]
      have hb := ha b (by simp)
      exact ⟨by omega, Or.inl rfl, fun x hx => hx, List.pairwise_cons.2 ⟨fun x hx => by
        rcases List.mem_cons.1 hx with rfl | hx
        · omega
        · have := h'.1 x hx; omega, hs⟩, by simp, fun x => Iff.rfl⟩
theorem insB_mem (l : List Int) (s x : Int) : x ∈ insB l s ↔ x = s ∨ x ∈ l := by
  have e : x ∈ l ↔ x ∈ l.take (cntB l s) ∨ x ∈ l.drop (cntB l s) := by
    rw [← List.mem_append, List.take_append_drop]
  rw [e]
  simp only [insB, List.mem_append, List.mem_cons]
  constructor
  · rintro (h | h | h)
    · exact Or.inr (Or.inl h)
    · exact Or.inl h
    · exact Or.inr (Or.inr h)
  · rintro (h | h | h)
    · exact Or.inr (Or.inl h)
    · exact Or.inl h
    · exact Or.inr (Or.inr h)
theorem insB_sorted (l : List Int) (s : Int) (hs : l.Pairwise (· < ·)) (hn : s ∉ l) : (insB l s).Pairwise (· < ·) := by
  have h1 : ∀ x ∈ l.take (cntB l s), x < s := fun x hx => by
    obtain ⟨k, hk, rfl⟩ := List.mem_iff_getElem.1 hx
    simp only [List.length_take] at hk
    rw [List.getElem_take]
    exact (cntB_lt l s hs k (by omega)).2 (by omega)
  have h2 : ∀ x ∈ l.drop (cntB l s), s < x := fun x hx => by
    have hxl := List.mem_of_mem_drop hx
    obtain ⟨k, hk, rfl⟩ := List.mem_iff_getElem.1 hx
    simp only [List.length_drop] at hk
    rw [List.getElem_drop]
    have := (cntB_lt l s hs (cntB l s + k) (by omega))
    have hne : l[cntB l s + k] ≠ s := fun e => hn (e ▸ List.getElem_mem _)
    omega
  unfold insB
  rw [List.pairwise_append]
  refine ⟨hs.sublist (List.take_sublist _ _), List.pairwise_cons.2 ⟨h2, hs.sublist (List.drop_sublist _ _)⟩, fun x hx y hy => ?_⟩
  rcases List.mem_cons.1 hy with rfl | hy
  · exact h1 x hx
  · have := h1 x hx; have := h2 y hy; omega
def Num (t : Trk) (x : Int) : Prop := x < t.next ∨ x ∈ t.beyond
theorem hasB_iff (t : Trk) (s : Int) (h0 : 0 ≤ s) : hasB t s = true ↔ Num t s := by
  unfold hasB Num
  by_cases h : s < t.next
  · simp [h, h0]
  · simp [h]
theorem withT_props (t : Trk) (s : Int) (hq : sqCheck t = 0) (h0 : 0 ≤ s) (hs : s ≤ 1099511627776) (hb : hasB t s = false) :
    (0 ≤ (withT t s).next ∧ (withT t s).next ≤ 1099511627777) ∧ (∀ b ∈ (withT t s).beyond, 0 ≤ b ∧ b ≤ 1099511627776) ∧ ((withT t s).next :: (withT t s).beyond).Pairwise (· < ·) ∧ (withT t s).beyond.length ≤ t.beyond.length + 1 ∧ t.next ≤ (withT t s).next ∧
      (∀ x, Num (withT t s) x ↔ x = s ∨ Num t x) ∧ (withT t s).points = t.points ∧ (withT t s).mark = t.mark := by
  obtain ⟨h1, h2, h3, h4⟩ := (sqCheck_zero t).1 hq
  obtain ⟨q1, q2⟩ := hasB_false t s h0 hb
  have h4' := List.pairwise_cons.1 h4
  unfold withT
  by_cases h : t.next < s
  · rw [if_pos h]
    refine ⟨h1, fun b hb => ?_, List.pairwise_cons.2 ⟨fun b hb => ?_, insB_sorted _ _ h4'.2 q2⟩, by rw [insB_len]; omega, Int.le_refl _, fun x => ?_, rfl, rfl⟩
    · rcases (insB_mem _ _ _).1 hb with rfl | hb
      · omega
      · exact h3 b hb
    · rcases (insB_mem _ _ _).1 hb with rfl | hb
      · exact h
      · exact h4'.1 b hb
    · unfold Num
      simp only [insB_mem]
      constructor
      · rintro (h | h | h)
        · exact Or.inr (Or.inl h)
        · exact Or.inl h
        · exact Or.inr (Or.inr h)
      · rintro (h | h | h)
        · exact Or.inr (Or.inl h)
        · exact Or.inl h
        · exact Or.inr (Or.inr h)
  · rw [if_neg h]
    obtain ⟨i1, i2, i3, i4, i5, i6⟩ := strip_props (t.next + 1) t.beyond h4'.2 (fun b hb => by have := h4'.1 b hb; omega)
    refine ⟨⟨by simp only; omega, ?_⟩, fun b hb => h3 b (i3 b hb), i4, by simp only; omega, by simp only; omega, fun x => ?_, rfl, rfl⟩
    · rcases i2 with i2 | i2
      · simp only; omega
      · have := h3 _ i2; simp only; omega
    · unfold Num
      rw [i6 x]
      constructor
      · rintro (h | h)
        · by_cases hx : x = s
          · exact Or.inl hx
          · exact Or.inr (Or.inl (by omega))
        · exact Or.inr (Or.inr h)
      · rintro (h | h | h)
        · exact Or.inl (by omega)
        · exact Or.inl (by omega)
        · exact Or.inr h
theorem withT_sq (t : Trk) (s : Int) (hq : sqCheck t = 0) (h0 : 0 ≤ s) (hs : s ≤ 1099511627776) (hb : hasB t s = false) (hl : (withT t s).beyond.length ≤ 256) : sqCheck (withT t s) = 0 := by
  obtain ⟨a, b, c, _⟩ := withT_props t s hq h0 hs hb
  exact (sqCheck_zero _).2 ⟨a, hl, b, c⟩
theorem latest_ge (mark : Int) (l : List Pt) (s : Int) : mark ≤ latest mark l s ∧ (∀ p ∈ l, p.seq ≤ s → p.time ≤ latest mark l s) ∧ (latest mark l s = mark ∨ ∃ p ∈ l, p.seq ≤ s ∧ latest mark l s = p.time) := by
  unfold latest
  have key : ∀ (l : List Pt) (a : Int), a ≤ l.foldl (fun m p => max m p.time) a ∧ (∀ p ∈ l, p.time ≤ l.foldl (fun m p => max m p.time) a) ∧ (l.foldl (fun m p => max m p.time) a = a ∨ ∃ p ∈ l, l.foldl (fun m p => max m p.time) a = p.time) := fun l => by
    induction l with
    | nil => intro a; simp
    | cons x r ih =>
      intro a
      obtain ⟨i1, i2, i3⟩ := ih (max a x.time)
      rw [List.foldl_cons]
      refine ⟨by omega, fun p hp => ?_, ?_⟩
      · rcases List.mem_cons.1 hp with rfl | hp
        · omega
        · exact i2 p hp
      · rcases i3 with i3 | ⟨p, hp, i3⟩
        · by_cases h : x.time ≤ a
          · exact Or.inl (by omega)
          · exact Or.inr ⟨x, by simp, by omega⟩
        · exact Or.inr ⟨p, by simp [hp], i3⟩
  obtain ⟨k1, k2, k3⟩ := key (l.filter fun p => decide (p.seq ≤ s)) mark
  refine ⟨k1, fun p hp h => k2 p (List.mem_filter.2 ⟨hp, by simpa using h⟩), ?_⟩
  rcases k3 with k3 | ⟨p, hp, k3⟩
  · exact Or.inl k3
  · obtain ⟨h1, h2⟩ := List.mem_filter.1 hp
    exact Or.inr ⟨p, h1, by simpa using h2, k3⟩
theorem settled_ok (u : Trk) (hq : sqCheck u = 0) (hm : -1 ≤ u.mark ∧ u.mark ≤ 1099511627776) (hl : u.points.length ≤ 256) (ho : ∀ p ∈ u.points, PtOk p) (ha : u.points.Pairwise Asc2) :
    settleT u = (settledR u, 0) ∧ TOk (settledR u) ∧ (∀ s τ, u.next ≤ s → (Forb (settledR u) s τ ↔ Forb u s τ)) ∧ u.mark ≤ (settledR u).mark := by
  obtain ⟨l1, l2, l3⟩ := latest_ge u.mark u.points u.next
  have hmk : -1 ≤ latest u.mark u.points u.next ∧ latest u.mark u.points u.next ≤ 1099511627776 := by
    refine ⟨by omega, ?_⟩
    rcases l3 with l3 | ⟨p, hp, _, l3⟩
    · omega
    · have := (ho p hp).2.2.2; omega
  have hasc : asc u ⟨-1, -1⟩ = 0 := by
    unfold asc
    rw [if_neg (by simpa using hq), if_neg (by omega), if_neg (by omega)]
    refine (ascLoop_zero _ _).2 ⟨ho, List.pairwise_cons.2 ⟨fun p hp => ?_, ha⟩⟩
    have := ho p hp
    unfold PtOk at this
    unfold Asc2
    simp only
    omega
  refine ⟨by unfold settleT; rw [if_neg (by simpa using hasc)]; rfl, ⟨?_, hmk, ?_, ?_, ?_⟩, fun s τ hs => ?_, l1⟩
  · have : sqCheck (settledR u) = sqCheck u := rfl
    rw [this]; exact hq
  · have := List.length_filter_le (fun p => decide (u.next < p.seq) && decide (latest u.mark u.points u.next < p.time)) u.points
    show (List.filter _ u.points).length ≤ 256
    omega
  · intro p hp
    exact ho p (List.mem_filter.1 hp).1
  · refine List.pairwise_cons.2 ⟨fun p hp => ?_, ha.filter _⟩
    have := (List.mem_filter.1 hp).2
    simp only [Bool.and_eq_true, decide_eq_true_eq] at this
    exact this
  · unfold Forb
    constructor
    · rintro (h | ⟨p, hp, h⟩)
      · have h : τ ≤ latest u.mark u.points u.next := h
        rcases l3 with l3 | ⟨q, hq, h3, l3⟩
        · exact Or.inl (by omega)
        · exact Or.inr ⟨q, hq, by omega, by omega⟩
      · exact Or.inr ⟨p, (List.mem_filter.1 hp).1, h⟩
    · rintro (h | ⟨p, hp, h1, h2⟩)
      · exact Or.inl (by show τ ≤ latest u.mark u.points u.next; omega)
      · by_cases h3 : u.next < p.seq ∧ latest u.mark u.points u.next < p.time
        · exact Or.inr ⟨p, List.mem_filter.2 ⟨hp, by simpa using h3⟩, h1, h2⟩
        · left
          show τ ≤ latest u.mark u.points u.next
          by_cases h4 : u.next < p.seq
          · omega
          · have := l2 p hp (by omega); omega

def noteT (t : Trk) (m : T_api_Message) : Trk × Bool × Int :=
  if m.fKind = 1 then ((addT t ⟨m.fSeq, m.fTime⟩).1, false, (addT t ⟨m.fSeq, m.fTime⟩).2) else
  if hasB t m.fEvent.fSeq = true then (t, false, 0) else
  if latest t.mark t.points m.fEvent.fSeq < m.fEvent.fTime then
    (if 256 < (withT t m.fEvent.fSeq).beyond.length then (zeroT, false, 5) else (settledR (withT t m.fEvent.fSeq), true, 0))
  else (zeroT, false, 19)
def stepT (l : List Trk) (m : T_api_Message) : List Trk × Bool × Int :=
  if msgCheck m ≠ 0 then ([], false, msgCheck m) else if (l.length : Int) ≤ srcOf m then ([], false, 32) else
  if (noteT (l.getD (srcOf m).toNat zeroT) m).2.2 ≠ 0 then ([], false, (noteT (l.getD (srcOf m).toNat zeroT) m).2.2) else
  (l.set (srcOf m).toNat (noteT (l.getD (srcOf m).toNat zeroT) m).1, (noteT (l.getD (srcOf m).toNat zeroT) m).2.1, 0)
theorem rng_iff (a b : Int) : rng a b = true ↔ 0 ≤ a ∧ a ≤ b := by simp [rng]
theorem msg_ok (m : T_api_Message) (h : msgCheck m = 0) : (m.fKind = 0 ∨ m.fKind = 1) ∧ 0 ≤ srcOf m ∧ srcOf m ≤ 7 ∧
    (m.fKind = 0 → 0 ≤ m.fEvent.fSeq ∧ m.fEvent.fSeq ≤ 1099511627776 ∧ 0 ≤ m.fEvent.fTime ∧ m.fEvent.fTime ≤ 1099511627776) ∧ (m.fKind = 1 → ptValid ⟨m.fSeq, m.fTime⟩ = true) := by
  unfold msgCheck at h
  unfold srcOf
  split at h
  · rename_i h0
    split at h
    · split at h
      · rename_i h2
        simp only [rng_iff] at h2
        rw [if_pos h0]
        exact ⟨Or.inl h0, by omega, by omega, fun _ => by omega, fun h1 => by omega⟩
      · omega
    · omega
  · rename_i h0
    split at h
    · rename_i h1
      split at h
      · split at h
        · rename_i h2
          rw [rng_iff] at h2
          rw [if_neg h0]
          exact ⟨Or.inr h1, by omega, by omega, fun h3 => absurd h3 h0, fun _ => h2.2⟩
        · omega
      · omega
    · omega
theorem event_new (t : Trk) (s : Int) (ht : TOk t) (h0 : 0 ≤ s) (hs : s ≤ 1099511627776) (hb : hasB t s = false) (hl : (withT t s).beyond.length ≤ 256) :
    settleT (withT t s) = (settledR (withT t s), 0) ∧ TOk (settledR (withT t s)) ∧ (∀ s' τ, (withT t s).next ≤ s' → (Forb (settledR (withT t s)) s' τ ↔ Forb t s' τ)) ∧ t.mark ≤ (settledR (withT t s)).mark := by
  have hq := withT_sq t s ht.sq h0 hs hb hl
  obtain ⟨_, _, _, _, _, _, hp, hm⟩ := withT_props t s ht.sq h0 hs hb
  have := settled_ok (withT t s) hq (by rw [hm]; exact ht.mark) (by rw [hp]; exact ht.len) (by rw [hp]; exact ht.ok) (by rw [hp]; exact (List.pairwise_cons.1 ht.asc).2)
  have hf : ∀ s' τ, Forb (withT t s) s' τ ↔ Forb t s' τ := fun s' τ => by unfold Forb; rw [hp, hm]
  refine ⟨this.1, this.2.1, fun s' τ h => (this.2.2.1 s' τ h).trans (hf s' τ), by rw [← hm]; exact this.2.2.2⟩
theorem noteT_ok (t : Trk) (m : T_api_Message) (ht : TOk t) (hm : msgCheck m = 0) (h : (noteT t m).2.2 = 0) : TOk (noteT t m).1 := by
  obtain ⟨k1, k2, k3, k4, k5⟩ := msg_ok m hm
  unfold noteT at h ⊢
  split
  · rename_i h1
    rw [if_pos h1] at h
    exact (added t _ h).2.2.ok
  · rename_i h1
    rw [if_neg h1] at h
    obtain ⟨e1, e2, e3, e4⟩ := k4 (by omega)
    split
    · exact ht
    · rename_i h2
      rw [if_neg h2] at h
      split
      · rename_i h3
        rw [if_pos h3] at h
        split
        · rename_i h4
          rw [if_pos h4] at h
          exact absurd h (by simp)
        · rename_i h4
          exact (event_new t _ ht e1 e2 (by simpa using h2) (by omega)).2.1
      · rename_i h3
        rw [if_neg h3] at h
        exact absurd h (by simp)
theorem p_recvE (n : Nat) (t : Trk) (m : T_api_Message) (ht : TOk t) (hm : msgCheck m = 0) (hk : m.fKind = 0) (hn : 1000 ≤ n) : ∃ r, F_watermark_receiveEvent n t m = some r ∧ r.2 = (noteT t m).2 ∧ (r.2.2 = 0 → r.1 = (noteT t m).1) := by
  obtain ⟨k1, k2, k3, k4, k5⟩ := msg_ok m hm
  obtain ⟨e1, e2, e3, e4⟩ := k4 hk
  obtain ⟨h1, h2, h3, h4⟩ := (sqCheck_zero t).1 ht.sq
  have hlp := ht.len
  unfold F_watermark_receiveEvent F_sequence_Has noteT
  rw [p_sqCheck n t (by omega) (by omega), bnd_some, ht.sq]
  simp only [cnd_not, cnd_if]
  rw [if_pos trivial, p_has n t _ (List.pairwise_cons.1 h4).2 (by omega) (by omega), bnd_some, bnd_some]
  simp only
  rw [if_pos trivial, if_neg (by omega)]
  cases hb : hasB t m.fEvent.fSeq with
  | true => rw [cnd_t, if_pos rfl]; exact ⟨_, rfl, rfl, fun _ => rfl⟩
  | false =>
    rw [cnd_f, if_neg (by simp)]
    obtain ⟨q1, q2⟩ := hasB_false t _ e1 hb
    unfold F_puAllows
    rw [if_pos (by omega), bnd_some]
    have ha : allowsT t m.fEvent.fSeq m.fEvent.fTime = (decide (latest t.mark t.points m.fEvent.fSeq < m.fEvent.fTime), 0) := by
      unfold allowsT
      rw [if_neg (by simp [(puCheck_zero t).2 ht]), if_neg (by omega), if_neg]
      rintro (h | h)
      · omega
      · rw [List.contains_iff_mem] at h; exact q2 h
    rw [ha]
    simp only
    rw [if_pos trivial, cnd_if]
    by_cases hlt : latest t.mark t.points m.fEvent.fSeq < m.fEvent.fTime
    · rw [if_pos hlt, if_pos hlt, p_recv n t _ (by omega) (by omega) hn, bnd_some]
      have hr : recvT t m.fEvent.fSeq = if 256 < (withT t m.fEvent.fSeq).beyond.length then (zeroT, false, 5) else (withT t m.fEvent.fSeq, true, 0) := by
        unfold recvT
        rw [if_neg (by simp [ht.sq]), if_neg (by omega), if_neg (by simp [hb])]
      rw [hr]
      by_cases h5 : 256 < (withT t m.fEvent.fSeq).beyond.length
      · rw [if_pos h5, if_pos h5]
        exact ⟨_, rfl, rfl, fun h => absurd h (by simp)⟩
      · rw [if_neg h5, if_neg h5]
        obtain ⟨s1, s2, s3, s4⟩ := event_new t _ ht e1 e2 hb (by omega)
        obtain ⟨_, _, _, _, _, _, hp, _⟩ := withT_props t _ ht.sq e1 e2 hb
        simp only
        rw [if_pos trivial]
        unfold F_puSettle
        rw [if_pos ⟨by omega, by rw [hp]; omega⟩, bnd_some, s1]
        exact ⟨_, rfl, rfl, fun _ => rfl⟩
    · rw [if_neg hlt, if_neg hlt]
      exact ⟨_, rfl, rfl, fun h => absurd h (by simp)⟩
theorem p_note (n : Nat) (t : Trk) (m : T_api_Message) (ht : TOk t) (hm : msgCheck m = 0) (hn : 1000 ≤ n) : ∃ r, F_tidegateref36_Note n t m = some r ∧ r.2 = (noteT t m).2 ∧ (r.2.2 = 0 → r.1 = (noteT t m).1) := by
  obtain ⟨k1, k2, k3, k4, k5⟩ := msg_ok m hm
  obtain ⟨h1, h2, h3, h4⟩ := (sqCheck_zero t).1 ht.sq
  have hlp := ht.len
  unfold F_tidegateref36_Note noteT
  rw [cnd_if]
  by_cases hk : m.fKind = 1
  · rw [if_pos hk, if_pos hk]
    unfold F_rpuAdd
    rw [if_pos (by omega), bnd_some, addR_eq]
    exact ⟨_, rfl, rfl, fun _ => rfl⟩
  · obtain ⟨e1, e2, e3, e4⟩ := k4 (by omega)
    rw [if_neg hk, if_neg hk, p_contains n t _ (by omega) (by omega), bnd_some]
    cases hb : hasB t m.fEvent.fSeq with
    | true => rw [cnd_t, if_pos rfl]; exact ⟨_, rfl, rfl, fun _ => rfl⟩
    | false =>
      rw [cnd_f, if_neg (by simp)]
      obtain ⟨q1, q2⟩ := hasB_false t _ e1 hb
      unfold F_puAllows
      rw [if_pos (by omega), bnd_some]
      have ha : allowsT t m.fEvent.fSeq m.fEvent.fTime = (decide (latest t.mark t.points m.fEvent.fSeq < m.fEvent.fTime), 0) := by
        unfold allowsT
        rw [if_neg (by simp [(puCheck_zero t).2 ht]), if_neg (by omega), if_neg]
        rintro (h | h)
        · omega
        · rw [List.contains_iff_mem] at h; exact q2 h
      rw [ha]
      simp only [cnd_not, cnd_if]
      by_cases hlt : latest t.mark t.points m.fEvent.fSeq < m.fEvent.fTime
      · rw [if_pos hlt, if_pos hlt, p_rrecv n t _ (by omega) hn, bnd_some]
        have hr : recvT t m.fEvent.fSeq = if 256 < (withT t m.fEvent.fSeq).beyond.length then (zeroT, false, 5) else (withT t m.fEvent.fSeq, true, 0) := by
          unfold recvT
          rw [if_neg (by simp [ht.sq]), if_neg (by omega), if_neg (by simp [hb])]
        rw [hr]
        by_cases h5 : 256 < (withT t m.fEvent.fSeq).beyond.length
        · rw [if_pos h5, if_pos h5]
          exact ⟨_, rfl, rfl, fun h => absurd h (by simp)⟩
        · rw [if_neg h5, if_neg h5]
          obtain ⟨_, _, _, _, _, _, hp, _⟩ := withT_props t _ ht.sq e1 e2 hb
          simp only
          rw [if_pos trivial, p_settled n _ (by rw [hp]; omega) (by rw [hp]; omega), bnd_some]
          exact ⟨_, rfl, rfl, fun _ => rfl⟩
      · rw [if_neg hlt, if_neg hlt]
        exact ⟨_, rfl, rfl, fun h => absurd h (by simp)⟩
theorem p_receive (n : Nat) (l : List Trk) (m : T_api_Message) (hl : l.length ≤ 1000) (ht : ∀ t ∈ l, TOk t) (hn : 1000 ≤ n) : F_watermark_receive n l m = some (stepT l m) := by
  unfold F_watermark_receive stepT
  rw [p_checkM, bnd_some]
  simp only [cnd_not, cnd_if, List.length_map]
  by_cases hm : msgCheck m = 0
  · have hw : ¬ msgCheck m ≠ 0 := by simpa using hm
    rw [if_pos hm, if_neg hw]
    obtain ⟨k1, k2, k3, k4, k5⟩ := msg_ok m hm
    have fin : ∀ (F : Option (Trk × Bool × Int)) (h : (srcOf m).toNat < l.length), (∃ r, F = some r ∧ r.2 = (noteT l[(srcOf m).toNat] m).2 ∧ (r.2.2 = 0 → r.1 = (noteT l[(srcOf m).toNat] m).1)) →
        (bnd F fun x4 => if x4.2.2 = 0 then bndR (F_clone n l) fun x5 => nat (srcOf m) x5.length fun x6 => stx x5 x6 (fun x7 => x4.1) fun x8 => some (x8, x4.2.1, 0) else some (([] : List Trk), false, x4.2.2)) =
        some (if (noteT (l.getD (srcOf m).toNat zeroT) m).2.2 ≠ 0 then ([], false, (noteT (l.getD (srcOf m).toNat zeroT) m).2.2) else (l.set (srcOf m).toNat (noteT (l.getD (srcOf m).toNat zeroT) m).1, (noteT (l.getD (srcOf m).toNat zeroT) m).2.1, 0)) := fun F h ⟨r, e, r1, r2⟩ => by
      have hg : l.getD (srcOf m).toNat zeroT = l[(srcOf m).toNat] := by simp [List.getElem?_eq_getElem h]
      rw [e, bnd_some, hg]
      have r3 : r.2.2 = (noteT l[(srcOf m).toNat] m).2.2 := by rw [r1]
      by_cases h0 : r.2.2 = 0
      · rw [if_pos h0, if_neg (by rw [← r3]; simpa using h0)]
        unfold F_clone
        rw [if_pos (by omega), bndR_some, nat_int k2 h, stx_ok h, r2 h0, r1]
      · rw [if_neg h0, if_pos (by rw [← r3]; exact h0), r3]
    by_cases hk : m.fKind = 0
    · have hs : srcOf m = m.fEvent.fSource := if_pos hk
      rw [if_pos hk]
      unfold F_watermark_kinds_1
      rw [bnd_some, ← hs]
      by_cases h5 : (l.length : Int) ≤ srcOf m
      · rw [if_pos h5, if_pos h5]
      · have h6 : (srcOf m).toNat < l.length := by omega
        rw [if_neg h5, if_neg h5, idx_int k2 h6]
        exact fin _ h6 (p_recvE n _ m (ht _ (List.getElem_mem h6)) hm hk hn)
    · have hk1 : m.fKind = 1 := by omega
      have hs : srcOf m = m.fSource := if_neg hk
      rw [if_neg hk, if_pos hk1]
      unfold F_watermark_kinds_2
      rw [bnd_some, ← hs]
      by_cases h5 : (l.length : Int) ≤ srcOf m
      · rw [if_pos h5, if_pos h5]
      · have h6 : (srcOf m).toNat < l.length := by omega
        rw [if_neg h5, if_neg h5, idx_int k2 h6]
        refine fin _ h6 ?_
        have hto := ht _ (List.getElem_mem h6)
        obtain ⟨q1, q2, q3, q4⟩ := (sqCheck_zero _).1 hto.sq
        have hlp := hto.len
        unfold F_watermark_receivePoint F_puAdd noteT
        rw [if_pos (by omega), bnd_some, if_pos hk1]
        exact ⟨_, rfl, rfl, fun _ => rfl⟩
  · rw [if_neg hm, if_pos hm]
end Go.Proofs.YtimkhfaddnanhaaGreat
namespace Go.Proofs.YtimkhfaddnanhaaGreat
open Go.RowKit

def recvAll (l : List Trk) (m : T_api_Message) : List Trk × Bool × Int := if wCheck l ≠ 0 then ([], false, wCheck l) else stepT l m
theorem stepT_ok (l : List Trk) (m : T_api_Message) (ht : ∀ t ∈ l, TOk t) (h : (stepT l m).2.2 = 0) :
    msgCheck m = 0 ∧ 0 ≤ srcOf m ∧ ∃ hs : (srcOf m).toNat < l.length, (noteT l[(srcOf m).toNat] m).2.2 = 0 ∧ stepT l m = (l.set (srcOf m).toNat (noteT l[(srcOf m).toNat] m).1, (noteT l[(srcOf m).toNat] m).2.1, 0) ∧ TOk (noteT l[(srcOf m).toNat] m).1 := by
  unfold stepT at h ⊢
  by_cases h1 : msgCheck m ≠ 0
  · rw [if_pos h1] at h; exact absurd h h1
  · rw [if_neg h1] at h ⊢
    by_cases h2 : (l.length : Int) ≤ srcOf m
    · rw [if_pos h2] at h; exact absurd h (by simp)
    · rw [if_neg h2] at h ⊢
      have hm : msgCheck m = 0 := by omega
      obtain ⟨k1, k2, k3, _⟩ := msg_ok m hm
      have hs : (srcOf m).toNat < l.length := by omega
      have hg : l.getD (srcOf m).toNat zeroT = l[(srcOf m).toNat] := by simp [List.getElem?_eq_getElem hs]
      rw [hg] at h ⊢
      by_cases h3 : (noteT l[(srcOf m).toNat] m).2.2 ≠ 0
      · rw [if_pos h3] at h; exact absurd h h3
      · rw [if_neg h3]
        have h4 : (noteT l[(srcOf m).toNat] m).2.2 = 0 := by omega
        exact ⟨hm, k2, hs, h4, rfl, noteT_ok _ m (ht _ (List.getElem_mem hs)) hm h4⟩
theorem stepT_err (l : List Trk) (m : T_api_Message) (h : (stepT l m).2.2 ≠ 0) : stepT l m = ([], false, (stepT l m).2.2) := by
  unfold stepT at h ⊢
  split
  · rfl
  · rename_i h1
    rw [if_neg h1] at h
    split
    · rfl
    · rename_i h2
      rw [if_neg h2] at h
      split
      · rfl
      · rename_i h3
        rw [if_neg h3] at h
        exact absurd rfl h
theorem set_mem {α : Type} {P : α → Prop} {l : List α} {i : Nat} {x : α} (h : ∀ t ∈ l, P t) (hx : P x) : ∀ t ∈ l.set i x, P t := fun t ht => by
  rcases List.mem_or_eq_of_mem_set ht with h1 | h1
  · exact h t h1
  · rw [h1]; exact hx
theorem stepT_all (l : List Trk) (m : T_api_Message) (ht : ∀ t ∈ l, TOk t) (h : (stepT l m).2.2 = 0) : (∀ t ∈ (stepT l m).1, TOk t) ∧ (stepT l m).1.length = l.length := by
  obtain ⟨_, _, hs, _, e, ho⟩ := stepT_ok l m ht h
  rw [e]
  exact ⟨set_mem ht ho, by simp⟩
theorem p_Receive_l1 (n : Nat) (x : List Trk × Bool × Int) (K : Bool → List Trk → Option (List Trk × Bool × Int)) (hl : x.1.length ≤ 1000) (ht : ∀ t ∈ x.1, TOk t) : ∀ (m k : Nat), k ≤ x.1.length → x.1.length < m + k → F_watermark_Receive_l1 n x K m ((k : Int), x.1) = K x.2.1 x.1
  | 0, k, h1, h2 => by omega
  | m + 1, k, h1, h2 => by
    rw [F_watermark_Receive_l1]
    simp only [List.length_map, cnd_if]
    by_cases h : k < x.1.length
    · have h0 := ht _ (List.getElem_mem h)
      have hb := ((sqCheck_zero _).1 h0.sq).2.1
      have hp := h0.len
      have e : ∀ (y : Trk), y = x.1[k] → x.1.set k y = x.1 := fun y hy => by rw [hy]; exact List.set_getElem_self h
      rw [if_pos (by omega), nat_nat h, ltx_ok h, elt_ok h]
      simp only [F_clone]
      rw [if_pos (by omega), bnd_some, nat_nat h, ltx_ok h, elt_ok h, if_pos (by omega), bnd_some, nat_nat h, ltx_ok h, stx_ok h, e _ rfl, nat_nat h, ltx_ok h, stx_ok h, e _ rfl, wrapS k (by omega)]
      exact p_Receive_l1 n x K hl ht m (k + 1) (by omega) (by omega)
    · rw [if_neg (by omega)]
theorem p_Receive (n : Nat) (l : List Trk) (m : T_api_Message) (hn : 1000 ≤ n) : F_watermark_Receive n l m = some (recvAll l m) := by
  unfold F_watermark_Receive recvAll
  rw [p_check n l (by omega), bnd_some]
  simp only [cnd_not, cnd_if]
  by_cases h : wCheck l = 0
  · have hw : ¬ wCheck l ≠ 0 := by simpa using h
    obtain ⟨hl, ht⟩ := (wCheck_zero l).1 h
    rw [if_pos h, if_neg hw, p_receive n l m (by omega) ht hn, bndR_some]
    by_cases h2 : (stepT l m).2.2 = 0
    · obtain ⟨ha, hb⟩ := stepT_all l m ht h2
      rw [if_pos h2]
      have := p_Receive_l1 n (stepT l m) (fun y z => some (z, y, 0)) (by omega) ha n 0 (by omega) (by omega)
      simp only [Int.natCast_zero] at this
      rw [this, ← h2]
    · rw [if_neg h2, ← stepT_err l m h2]
  · have hw : wCheck l ≠ 0 := h
    rw [if_neg h, if_pos hw]
theorem p_rReceive (n : Nat) (l : List Trk) (m : T_api_Message) (hn : 1000 ≤ n) : F_tidegateref36_Receive n l m = some (recvAll l m) := by
  unfold F_tidegateref36_Receive recvAll
  rw [p_rcheck n l (by omega), bnd_some]
  simp only [cnd_not, cnd_if, List.length_map]
  by_cases h : wCheck l = 0
  · have hw : ¬ wCheck l ≠ 0 := by simpa using h
    obtain ⟨hl, ht⟩ := (wCheck_zero l).1 h
    rw [if_pos h, if_neg hw, p_rcheckM, bnd_some]
    unfold stepT
    by_cases h1 : msgCheck m = 0
    · have h1' : ¬ msgCheck m ≠ 0 := by simpa using h1
      rw [if_pos h1, if_neg h1', p_source, bnd_some]
      obtain ⟨k1, k2, k3, _⟩ := msg_ok m h1
      by_cases h2 : (l.length : Int) ≤ srcOf m
      · rw [if_pos h2, if_pos h2]
      · have hs : (srcOf m).toNat < l.length := by omega
        have hg : l.getD (srcOf m).toNat zeroT = l[(srcOf m).toNat] := by simp [List.getElem?_eq_getElem hs]
        obtain ⟨r, e, r1, r2⟩ := p_note n l[(srcOf m).toNat] m (ht _ (List.getElem_mem hs)) h1 hn
        have r3 : r.2.2 = (noteT l[(srcOf m).toNat] m).2.2 := by rw [r1]
        rw [if_neg h2, if_neg h2, idx_int k2 hs, hg, e, bnd_some]
        by_cases h3 : r.2.2 = 0
        · have h3' : ¬ (noteT l[(srcOf m).toNat] m).2.2 ≠ 0 := by rw [← r3]; simpa using h3
          rw [if_pos h3, if_neg h3', app_ok (by simp; omega) (by omega), List.nil_append, nat_int k2 hs, stx_ok hs, r2 h3, r1]
        · have h3' : (noteT l[(srcOf m).toNat] m).2.2 ≠ 0 := by rw [← r3]; exact h3
          rw [if_neg h3, if_pos h3', r3]
    · have h1' : msgCheck m ≠ 0 := h1
      rw [if_neg h1, if_pos h1']
  · have hw : wCheck l ≠ 0 := h
    rw [if_neg h, if_pos hw]

def t0 : Trk := ⟨0, [], [], -1⟩
def beginT (k : Int) : List Trk × Int := if k < 0 ∨ 8 < k then ([], 2) else (List.replicate k.toNat t0, 0)
theorem p_begin_l1 (n : Nat) (x : List Trk) (K : List Trk → Option (List Trk × Int)) (hl : x.length ≤ 1000) : ∀ (m k : Nat), k ≤ x.length → x.length < m + k → F_watermark_Begin_l1 n x K m ((k : Int), List.replicate k t0 ++ x.drop k) = K (List.replicate x.length t0)
  | 0, k, h1, h2 => by omega
  | m + 1, k, h1, h2 => by
    rw [F_watermark_Begin_l1]
    simp only [List.length_map, cnd_if]
    by_cases h : k < x.length
    · have hk : k < (List.replicate k t0 ++ x.drop k).length := by simp; omega
      rw [if_pos (by omega), show F_sequence_Begin n = some t0 from rfl, bnd_some, nat_nat hk, stx_ok hk, wrapS k (by omega)]
      have e : (List.replicate k t0 ++ x.drop k).set k t0 = List.replicate (k + 1) t0 ++ x.drop (k + 1) := by
        rw [drop_cons x k h, List.set_append_right _ _ (by simp), List.length_replicate, Nat.sub_self, List.set_cons_zero, List.replicate_succ', List.append_assoc]
        rfl
      rw [e]
      exact p_begin_l1 n x K hl m (k + 1) (by omega) (by omega)
    · have : k = x.length := by omega
      rw [if_neg (by omega), this, List.drop_eq_nil_of_le (Nat.le_refl _), List.append_nil]
theorem p_begin (n : Nat) (k : Int) (hn : 100 ≤ n) : F_watermark_Begin n k = some (beginT k) := by
  unfold F_watermark_Begin beginT
  simp only [cnd_if]
  by_cases h1 : k < 0
  · rw [if_pos h1, if_pos (Or.inl h1)]
  · by_cases h2 : 8 < k
    · rw [if_neg h1, if_pos h2, if_pos (Or.inr h2)]
    · have h3 : ¬ (k < 0 ∨ 8 < k) := by omega
      obtain ⟨j, rfl⟩ : ∃ j : Nat, k = j := ⟨k.toNat, by omega⟩
      rw [if_neg h1, if_neg h2, if_neg h3, mak_ok (by omega) (by omega)]
      have := p_begin_l1 n (List.replicate j (⟨0, [], [], 0⟩ : Trk)) (fun y => some (y, 0)) (by simp; omega) n 0 (by omega) (by simp; omega)
      simp only [Int.natCast_zero, List.replicate_zero, List.nil_append, List.drop_zero, List.length_replicate] at this
      rw [this, Int.toNat_natCast]
theorem p_rbegin_l1 (n : Nat) (j : Nat) (K : List Trk → Option (List Trk × Int)) (hl : j ≤ 1000) : ∀ (m k : Nat), k ≤ j → j < m + k → F_tidegateref36_Begin_l1 n (j : Int) K m ((k : Int), List.replicate k t0) = K (List.replicate j t0)
  | 0, k, h1, h2 => by omega
  | m + 1, k, h1, h2 => by
    rw [F_tidegateref36_Begin_l1]
    simp only [List.length_map, cnd_if]
    by_cases h : k < j
    · rw [if_pos (by omega), show F_tidegateref34_Begin n = some t0 from rfl, bnd_some, app_ok (by simp; omega) (by omega), wrapS k (by omega), ← List.replicate_succ']
      exact p_rbegin_l1 n j K hl m (k + 1) (by omega) (by omega)
    · have : k = j := by omega
      rw [if_neg (by omega), this]
theorem p_rbegin (n : Nat) (k : Int) (hn : 100 ≤ n) : F_tidegateref36_Begin n k = some (beginT k) := by
  unfold F_tidegateref36_Begin beginT
  simp only [cnd_if]
  by_cases h1 : k < 0
  · rw [if_pos h1, if_pos (Or.inl h1)]
  · by_cases h2 : 8 < k
    · rw [if_neg h1, if_pos h2, if_pos (Or.inr h2)]
    · have h3 : ¬ (k < 0 ∨ 8 < k) := by omega
      obtain ⟨j, rfl⟩ : ∃ j : Nat, k = j := ⟨k.toNat, by omega⟩
      rw [if_neg h1, if_neg h2, if_neg h3]
      have := p_rbegin_l1 n j (fun y => some (y, 0)) (by omega) n 0 (by omega) (by omega)
      simp only [Int.natCast_zero, List.replicate_zero] at this
      rw [this, Int.toNat_natCast]
theorem begin_all (k : Int) (h : (beginT k).2 = 0) : (∀ t ∈ (beginT k).1, TOk t) ∧ (beginT k).1.length ≤ 8 := by
  unfold beginT at h ⊢
  split
  · exact ⟨fun t ht => absurd ht (by simp), by simp⟩
  · exact ⟨fun t ht => by rw [List.eq_of_mem_replicate ht]; exact begin_ok, by simp; omega⟩

def runS : List Trk → List T_api_Message → List Trk × List Bool
  | l, [] => (l, [])
  | l, m :: r => if (stepT l m).2.2 = 0 then ((runS (stepT l m).1 r).1, (stepT l m).2.1 :: (runS (stepT l m).1 r).2) else ((runS l r).1, false :: (runS l r).2)
theorem runS_len (l : List Trk) (ms : List T_api_Message) : (runS l ms).2.length = ms.length := by
  induction ms generalizing l with
  | nil => rfl
  | cons m r ih => unfold runS; split <;> simp [ih]
theorem runS_ok {l : List Trk} {m : T_api_Message} {r : List T_api_Message} (h : (stepT l m).2.2 = 0) : runS l (m :: r) = ((runS (stepT l m).1 r).1, (stepT l m).2.1 :: (runS (stepT l m).1 r).2) := by
  rw [runS, if_pos h]
theorem runS_err {l : List Trk} {m : T_api_Message} {r : List T_api_Message} (h : ¬ (stepT l m).2.2 = 0) : runS l (m :: r) = ((runS l r).1, false :: (runS l r).2) := by
  rw [runS, if_neg h]
end Go.Proofs.YtimkhfaddnanhaaGreat
namespace Go.Proofs.YtimkhfaddnanhaaGreat
open Go.RowKit

end Go.Proofs.YtimkhfaddnanhaaGreat
namespace Go.Proofs.YtimkhfaddnanhaaGreat
open Go.RowKit

structure Fwd (t u : Trk) (S : Int → Prop) (Q : Pt → Prop) : Prop where
  num : ∀ x, Num u x ↔ Num t x ∨ S x
  next : t.next ≤ u.next
  mark : t.mark ≤ u.mark
  forb : ∀ s τ, u.next ≤ s → (Forb u s τ ↔ Forb t s τ ∨ ∃ p, Q p ∧ p.seq ≤ s ∧ τ ≤ p.time)
def evOf (m : T_api_Message) (x : Int) : Prop := m.fKind = 0 ∧ x = m.fEvent.fSeq
def ptOf (m : T_api_Message) (p : Pt) : Prop := m.fKind = 1 ∧ p = ⟨m.fSeq, m.fTime⟩
theorem note_fwd (t : Trk) (m : T_api_Message) (ht : TOk t) (hm : msgCheck m = 0) (h : (noteT t m).2.2 = 0) :
    Fwd t (noteT t m).1 (evOf m) (ptOf m) ∧ (noteT t m).1.beyond.length ≤ t.beyond.length + 1 ∧ (noteT t m).1.points.length ≤ t.points.length + 1 := by
  obtain ⟨k1, k2, k3, k4, k5⟩ := msg_ok m hm
  unfold noteT at h ⊢
  by_cases h1 : m.fKind = 1
  · rw [if_pos h1] at h ⊢
    obtain ⟨_, _, ad⟩ := added t _ h
    refine ⟨⟨fun x => ?_, by rw [ad.next]; exact Int.le_refl _, ad.mark, fun s τ hs => ?_⟩, by rw [ad.beyond]; omega, ad.len⟩
    · unfold Num evOf
      rw [ad.next, ad.beyond]
      exact ⟨Or.inl, fun h => h.elim id fun h => by omega⟩
    · rw [ad.forb s τ (by rw [ad.next] at hs; exact hs)]
      unfold ptOf
      constructor
      · rintro (h | h)
        · exact Or.inl h
        · exact Or.inr ⟨_, ⟨h1, rfl⟩, h⟩
      · rintro (h | ⟨p, ⟨_, rfl⟩, h⟩)
        · exact Or.inl h
        · exact Or.inr h
  · rw [if_neg h1] at h ⊢
    have hk : m.fKind = 0 := by omega
    obtain ⟨e1, e2, e3, e4⟩ := k4 hk
    have none : ∀ s τ, ¬ ∃ p, ptOf m p ∧ p.seq ≤ s ∧ τ ≤ p.time := fun s τ ⟨p, hp, _⟩ => h1 hp.1
    by_cases hb : hasB t m.fEvent.fSeq = true
    · rw [if_pos hb] at h ⊢
      refine ⟨⟨fun x => ?_, Int.le_refl _, Int.le_refl _, fun s τ _ => ?_⟩, by simp only; omega, by simp only; omega⟩
      · constructor
        · exact Or.inl
        · rintro (h | ⟨_, rfl⟩)
          · exact h
          · exact (hasB_iff t _ e1).1 hb
      · exact ⟨Or.inl, fun h => h.elim id fun h => absurd h (none s τ)⟩
    · rw [if_neg hb] at h ⊢
      by_cases h3 : latest t.mark t.points m.fEvent.fSeq < m.fEvent.fTime
      · rw [if_pos h3] at h ⊢
        by_cases h4 : 256 < (withT t m.fEvent.fSeq).beyond.length
        · rw [if_pos h4] at h; exact absurd h (by simp)
        · rw [if_neg h4]
          obtain ⟨s1, s2, s3, s4⟩ := event_new t _ ht e1 e2 (by simpa using hb) (by omega)
          obtain ⟨w1, w2, w3, w4, w5, w6, w7, w8⟩ := withT_props t _ ht.sq e1 e2 (by simpa using hb)
          refine ⟨⟨fun x => ?_, w5, s4, fun s τ hs => ?_⟩, w4, ?_⟩
          · have : Num (settledR (withT t m.fEvent.fSeq)) x ↔ Num (withT t m.fEvent.fSeq) x := Iff.rfl
            rw [this, w6 x]
            unfold evOf
            constructor
            · rintro (h | h)
              · exact Or.inr ⟨hk, h⟩
              · exact Or.inl h
            · rintro (h | h)
              · exact Or.inr h
              · exact Or.inl h.2
          · rw [s3 s τ hs]
            exact ⟨Or.inl, fun h => h.elim id fun h => absurd h (none s τ)⟩
          · have := List.length_filter_le (fun p => decide ((withT t m.fEvent.fSeq).next < p.seq) && decide (latest (withT t m.fEvent.fSeq).mark (withT t m.fEvent.fSeq).points (withT t m.fEvent.fSeq).next < p.time)) (withT t m.fEvent.fSeq).points
            show (List.filter _ (withT t m.fEvent.fSeq).points).length ≤ _
            rw [w7] at this ⊢
            omega
      · rw [if_neg h3] at h; exact absurd h (by simp)
theorem note_new (t : Trk) (m : T_api_Message) (hm : msgCheck m = 0) (h : (noteT t m).2.2 = 0) : (noteT t m).2.1 = true ↔ m.fKind = 0 ∧ ¬ Num t m.fEvent.fSeq := by
  obtain ⟨k1, k2, k3, k4, k5⟩ := msg_ok m hm
  unfold noteT at h ⊢
  by_cases h1 : m.fKind = 1
  · rw [if_pos h1]; simp [h1]
  · have hk : m.fKind = 0 := by omega
    obtain ⟨e1, e2, e3, e4⟩ := k4 hk
    rw [if_neg h1] at h ⊢
    rw [← hasB_iff t _ e1]
    by_cases hb : hasB t m.fEvent.fSeq = true
    · rw [if_pos hb]; simp [hb]
    · rw [if_neg hb] at h ⊢
      by_cases h3 : latest t.mark t.points m.fEvent.fSeq < m.fEvent.fTime
      · rw [if_pos h3] at h ⊢
        by_cases h4 : 256 < (withT t m.fEvent.fSeq).beyond.length
        · rw [if_pos h4] at h; exact absurd h (by simp)
        · rw [if_neg h4]; simp [hb, hk]
      · rw [if_neg h3] at h; exact absurd h (by simp)
theorem note_late (t : Trk) (m : T_api_Message) (hm : msgCheck m = 0) (h : (noteT t m).2.1 = true) : t.mark < m.fEvent.fTime := by
  unfold noteT at h
  by_cases h1 : m.fKind = 1
  · rw [if_pos h1] at h; exact absurd h (by simp)
  · rw [if_neg h1] at h
    by_cases hb : hasB t m.fEvent.fSeq = true
    · rw [if_pos hb] at h; exact absurd h (by simp)
    · rw [if_neg hb] at h
      by_cases h3 : latest t.mark t.points m.fEvent.fSeq < m.fEvent.fTime
      · have := (latest_ge t.mark t.points m.fEvent.fSeq).1
        omega
      · rw [if_neg h3] at h; exact absurd h (by simp)

theorem leastOf_le (l : List Trk) (i : Nat) (h : i < l.length) : leastOf l ≤ l[i].mark := (foldl_min l _).1 _ (List.getElem_mem h)
theorem leastOf_mono (l m : List Trk) (hl : m.length = l.length) (h : ∀ i (hi : i < l.length) (hj : i < m.length), l[i].mark ≤ m[i].mark) : leastOf l ≤ leastOf m := by
  rcases (foldl_min m 1099511627776).2.2 with h1 | ⟨t, ht, h1⟩
  · have := (foldl_min l 1099511627776).2.1
    unfold leastOf; omega
  · obtain ⟨i, hi, rfl⟩ := List.mem_iff_getElem.1 ht
    have h2 := leastOf_le l i (by omega)
    have h3 := h i (by omega) hi
    have h4 : leastOf m = m[i].mark := h1
    omega
theorem later (g : Int) : ∀ (ms : List T_api_Message) (l : List Trk), (∀ t ∈ l, TOk t) → (∀ t ∈ l, g ≤ t.mark) → ∀ i (hi : i < ms.length) (hj : i < (runS l ms).2.length), (runS l ms).2[i] = true → g < ms[i].fEvent.fTime
  | [], l, ht, hg, i, hi, hj, h => absurd hi (by simp)
  | m :: r, l, ht, hg, i, hi, hj, h => by
    by_cases he : (stepT l m).2.2 = 0
    · obtain ⟨hm, k2, hs, h4, e, ho⟩ := stepT_ok l m ht he
      obtain ⟨a1, a2⟩ := stepT_all l m ht he
      have hg2 : ∀ t ∈ (stepT l m).1, g ≤ t.mark := fun t h => by
        rw [e] at h
        have := (note_fwd _ m (ht _ (List.getElem_mem hs)) hm h4).1.mark
        exact set_mem (P := fun t => g ≤ t.mark) hg (by have := hg _ (List.getElem_mem hs); omega) t h
      cases i with
      | zero =>
        simp only [runS_ok he, List.getElem_cons_zero] at h ⊢
        rw [e] at h
        have := note_late _ m hm h
        have := hg _ (List.getElem_mem hs)
        omega
      | succ i =>
        simp only [runS_ok he, List.getElem_cons_succ] at h ⊢
        exact later g r _ a1 hg2 i (by simpa using hi) (by simp only [runS_ok he] at hj; simpa using hj) h
    · cases i with
      | zero =>
        simp only [runS_err he, List.getElem_cons_zero] at h
        exact absurd h (by simp)
      | succ i =>
        simp only [runS_err he, List.getElem_cons_succ] at h ⊢
        exact later g r l ht hg i (by simpa using hi) (by simp only [runS_err he] at hj; simpa using hj) h
def badB (a b : T_api_Message) : Bool :=
  if msgCheck b ≠ 0 then false else if srcOf a ≠ srcOf b then false else if a.fKind ≠ 0 then false else
  if b.fKind = 0 then decide (a.fEvent.fSeq = b.fEvent.fSeq) && !decide (a.fEvent.fTime = b.fEvent.fTime) else
  if b.fKind = 1 then decide (b.fSeq ≤ a.fEvent.fSeq) && decide (a.fEvent.fTime ≤ b.fTime) else false
def honB (k : Int) (ms : List T_api_Message) : Bool := ms.all fun a => decide (msgCheck a = 0) && (!decide (k ≤ srcOf a) && ms.all fun b => !badB a b)
theorem p_honest_l2 (n : Nat) (ms : List T_api_Message) (a0 : Int) (i : Nat) (hi : i < ms.length) (K : Option Bool) (hl : ms.length ≤ 1000000) : ∀ (f k : Nat), k ≤ ms.length → ms.length < f + k →
    F_tidegateref36_Honest_l2 n ms a0 (i : Int) K f (k : Int) = if (ms.drop k).all (fun b => !badB ms[i] b) = true then K else some false
  | 0, k, h1, h2 => by omega
  | f + 1, k, h1, h2 => by
    rw [F_tidegateref36_Honest_l2]
    simp only [cnd_if, cnd_not, List.length_map]
    by_cases hk : k < ms.length
    · have ih := p_honest_l2 n ms a0 i hi K hl f (k + 1) (by omega) (by omega)
      have e : (if (ms.drop k).all (fun b => !badB ms[i] b) = true then K else some false) = if badB ms[i] ms[k] = true then some false else (if (ms.drop (k + 1)).all (fun b => !badB ms[i] b) = true then K else some false) := by
        rw [drop_cons ms k hk, List.all_cons]
        cases badB ms[i] ms[k] <;> simp
      rw [e, if_pos (by omega), idx_nat hk, p_rcheckM, bnd_some, wrapS k (by omega), ih, idx_nat hi, p_source, bnd_some]
      simp only [idx_nat hk, idx_nat hi, p_source, bnd_some]
      unfold badB
      by_cases c1 : msgCheck ms[k] = 0
      · by_cases c2 : srcOf ms[i] = srcOf ms[k]
        · by_cases c3 : ms[i].fKind = 0
          · by_cases c4 : ms[k].fKind = 0
            · by_cases c5 : ms[i].fEvent.fSeq = ms[k].fEvent.fSeq
              · by_cases c6 : ms[i].fEvent.fTime = ms[k].fEvent.fTime
                · simp [c1, c2, c3, c4, c5, c6]
                · simp [c1, c2, c3, c4, c5, c6]
              · simp [c1, c2, c3, c4, c5]
            · by_cases c5 : ms[k].fKind = 1
              · by_cases c6 : ms[k].fSeq ≤ ms[i].fEvent.fSeq
                · by_cases c7 : ms[i].fEvent.fTime ≤ ms[k].fTime
                  · simp [c1, c2, c3, c5, c6, c7]
                  · simp [c1, c2, c3, c5, c6, c7]
                · simp [c1, c2, c3, c5, c6]
              · simp [c1, c2, c3, c4, c5]
          · simp [c1, c2, c3]
        · simp [c1, c2]
      · simp [c1]
    · rw [if_neg (by omega), List.drop_eq_nil_of_le (by omega)]; simp
theorem p_honest_l1 (n : Nat) (ms : List T_api_Message) (a0 : Int) (K : Option Bool) (hl : ms.length ≤ 1000000) (hn : ms.length < n) : ∀ (f k : Nat), k ≤ ms.length → ms.length < f + k →
    F_tidegateref36_Honest_l1 n ms a0 K f (k : Int) = if (ms.drop k).all (fun a => decide (msgCheck a = 0) && (!decide (a0 ≤ srcOf a) && ms.all fun b => !badB a b)) = true then K else some false
  | 0, k, h1, h2 => by omega
  | f + 1, k, h1, h2 => by
    rw [F_tidegateref36_Honest_l1]
    simp only [cnd_if, cnd_not, List.length_map]
    by_cases hk : k < ms.length
    · have ih := p_honest_l1 n ms a0 K hl hn f (k + 1) (by omega) (by omega)
      have h2 := p_honest_l2 n ms a0 k hk (F_tidegateref36_Honest_l1 n ms a0 K f ((k + 1 : Nat) : Int)) hl n 0 (by omega) (by omega)
      simp only [Int.natCast_zero, List.drop_zero] at h2
      rw [if_pos (by omega), idx_nat hk, p_rcheckM, bnd_some, idx_nat hk, p_source, bnd_some, wrapS k (by omega), h2, ih, drop_cons ms k hk, List.all_cons]
      by_cases c1 : msgCheck ms[k] = 0
      · by_cases c2 : a0 ≤ srcOf ms[k]
        · simp [c1, c2]
        · simp only [c1, c2, if_true, if_false, decide_true, decide_false, Bool.not_false, Bool.true_and]
          cases ms.all (fun b => !badB ms[k] b) <;> simp
      · simp [c1]
    · rw [if_neg (by omega), List.drop_eq_nil_of_le (by omega)]; simp
theorem p_honest (n : Nat) (k : Int) (ms : List T_api_Message) (hl : ms.length ≤ 1000000) (hn : ms.length < n) : F_tidegateref36_Honest n k ms = some (honB k ms) := by
  unfold F_tidegateref36_Honest honB
  have := p_honest_l1 n ms k (some true) hl hn n 0 (by omega) (by omega)
  simp only [Int.natCast_zero, List.drop_zero] at this
  rw [this]
  split
  · rename_i h; rw [h]
  · rename_i h; simp only [Bool.not_eq_true] at h; rw [h]
end Go.Proofs.YtimkhfaddnanhaaGreat
namespace Go.Proofs.YtimkhfaddnanhaaGreat
open Go.RowKit

structure Fill (l0 l : List Trk) (i : Nat) (hi : i < l0.length) (S : Int → Prop) : Prop where
  ok : ∀ t ∈ l, TOk t
  len : l.length = l0.length
  fwd : ∀ h : i < l.length, Fwd l0[i] l[i] S (fun _ => False)
end Go.Proofs.YtimkhfaddnanhaaGreat
