/- Arguments opened: lists of trackers, messages, bytes. -/
import Derived.Test.YthhnhajldhnfmaaRow1
import Derived.Test.YthhnhajldhnfmaaRowK
import Derived.Test.YthhnhajldhnfmaaH36F
set_option linter.unusedVariables false
set_option linter.unusedSimpArgs false
namespace Go.Proofs.Ythhnhajldhnfmaa
open Go.ChangeShapes Go.WideShapes Go.ChangeAt Go.RowKit Go.Joins Go.Deep

section
variable {H : Type} {enc : TypeId × Value → H} {W : World} {base : Nat} {v : Value} {d : DataW H} {p : List MemPlace}
theorem trod_struct5 {P : Program} {w : World} {spare : Nat → Bool} {held : Bool} {t : TypeId} {f0 f1 f2 f3 f4 : Field} {fuel : Nat} {cs : List Value} {x : DataW H × List MemPlace} (ht : P.underlying t = some (.struct #[f0, f1, f2, f3, f4])) (h : DataW.trod enc P w base spare held fuel t cs = some x) :
    ∃ y0 y1 y2 y3 y4 n, cs.length = P.cellsOf t ∧ DataW.trod enc P w base spare held n f0.type ((cs.drop f0.offset).take (P.cellsOf f0.type)) = some y0 ∧
      DataW.trod enc P w base spare held n f1.type ((cs.drop f1.offset).take (P.cellsOf f1.type)) = some y1 ∧ DataW.trod enc P w base spare held n f2.type ((cs.drop f2.offset).take (P.cellsOf f2.type)) = some y2 ∧
      DataW.trod enc P w base spare held n f3.type ((cs.drop f3.offset).take (P.cellsOf f3.type)) = some y3 ∧ DataW.trod enc P w base spare held n f4.type ((cs.drop f4.offset).take (P.cellsOf f4.type)) = some y4 := by
  obtain ⟨xs, n, _, rfl, hl, hlen, hf⟩ := DataW.trod_struct ht h
  match xs, hlen with
  | [y0, y1, y2, y3, y4], _ => exact ⟨y0, y1, y2, y3, y4, n, hl, by simpa using hf 0 f0 rfl, by simpa using hf 1 f1 rfl, by simpa using hf 2 f2 rfl, by simpa using hf 3 f3 rfl, by simpa using hf 4 f4 rfl⟩
theorem mapM_some {α β : Type} {f : α → Option β} : ∀ {l : List α} {r : List β}, l.mapM f = some r → r.length = l.length ∧ ∀ k (hk : k < l.length) (hr : k < r.length), f l[k] = some r[k]
  | [], r, h => by simp at h; subst h; exact ⟨rfl, fun k hk => absurd hk (by simp)⟩
  | a :: l, r, h => by
    simp only [List.mapM_cons] at h
    cases ha : f a with
    | none => rw [ha] at h; simp at h
    | some b =>
      rw [ha] at h
      cases hl : l.mapM f with
      | none => rw [hl] at h; simp at h
      | some s =>
        rw [hl] at h
        simp at h
        subst h
        obtain ⟨i1, i2⟩ := mapM_some hl
        refine ⟨by simp [i1], fun k hk hr => ?_⟩
        cases k with
        | zero => exact ha
        | succ k => exact i2 k (by simpa using hk) (by simpa using hr)
theorem cells_each {a : Addr} {n : Nat} {cs : List Value} (h : W.cells? 0 a n = some cs) : cs.length = n ∧ ∀ j, j < n → W.cell? (a.add j) = some (cs.getD j undef) := by
  unfold World.cells? at h
  rw [if_pos (Nat.zero_le _)] at h
  obtain ⟨i1, i2⟩ := mapM_some h
  have hl : cs.length = n := by simpa using i1
  refine ⟨hl, fun j hj => ?_⟩
  have := i2 j (by simpa using hj) (by omega)
  rw [List.getElem_range] at this
  rw [this]
  simp [List.getElem?_eq_getElem (show j < cs.length by omega)]
set_option maxRecDepth 100000
/-- The cells cs read as the model's value m. -/
def CellsOf {α : Type} (W : World) (a : α → AV) (m : α) (cs : List Value) : Prop :=
  cs.length = (a m).cells.length ∧ ∀ j (hj : j < (a m).cells.length), Rep W (fun _ => True) G0 ((a m).cells[j]) (cs.getD j undef) ∧ (cs.getD j undef).oneCell' = true
theorem sl_open {α : Type} {a : α → AV} {t e : TypeId} {sz : Nat} (ht : Try.prog.underlying t = some (.slice e)) (hsz : Try.prog.cellsOf e = sz) (h0 : 0 < sz) (i0 : Inhabited α) (hlen : ∀ m, (a m).cells.length = sz)
    (each : ∀ (n : Nat) (cs : List Value) (x : DataW H × List MemPlace), cs.length = sz → DataW.trod enc Try.prog W 0 (fun _ => true) true n e cs = some x → ∃ m : α, CellsOf W a m cs)
    {n : Nat} {u : Value} {x : DataW H × List MemPlace} (h : DataW.trod enc Try.prog W 0 (fun _ => true) true n t [u] = some x) : ∃ l : List α, Rep W (fun _ => True) G0 (.sl sz (l.map a)) u := by
  rcases open_slice ht h with ⟨h1, _⟩ | ⟨A, len, cap, m, n', D, Pl, h1, _, hlc, hm, hmm, _, hc⟩
  · simp only [List.cons.injEq, and_true] at h1
    subst h1
    exact ⟨[], .sl none 0 (fun _ _ => .bool true) (by simp) (fun k hk => absurd hk (by simp)) (fun h => absurd h (by simp)) (fun k hk => absurd hk (by simp)) (fun _ _ => rfl)⟩
  · simp only [List.cons.injEq, and_true] at h1
    subst h1
    simp only [if_true] at hmm
    subst hmm
    rw [hsz] at hc
    have every : ∀ i, ∃ q : α × List Value, i < len → W.cells? 0 (A.add (i * sz)) sz = some q.2 ∧ CellsOf W a q.1 q.2 := fun i => by
      by_cases hi : i < len
      · obtain ⟨cs, c1, c2⟩ := hc i (by omega)
        obtain ⟨k, hk⟩ := each n' cs _ (cells_each c1).1 c2
        exact ⟨(k, cs), fun _ => ⟨c1, hk⟩⟩
      · exact ⟨(i0.default, []), fun h => absurd h hi⟩
    obtain ⟨f, hf⟩ := Classical.axiomOfChoice every
    have hl : ((List.range len).map fun i => (f i).1).length = len := by simp
    refine ⟨(List.range len).map fun i => (f i).1, ?_⟩
    have e : len = (((List.range len).map fun i => (f i).1).map a).length := by simp
    have hcell : ∀ k j, k < len → j < sz → W.cell? ((A.add (k * sz)).add j) = some ((f k).2.getD j undef) := fun k j hk hj => (cells_each (hf k hk).1).2 j hj
    have : Rep W (fun _ => True) G0 (.sl sz (((List.range len).map fun i => (f i).1).map a)) (.slice (some A) (((List.range len).map fun i => (f i).1).map a).length m) := by
      refine .sl (some A) m (fun k j => if k < len ∧ j < sz then (f k).2.getD j undef else .bool true) (by simpa using hlc) (fun k hk => ?_) (fun h0' => ?_) (fun k hk j hj => ?_) (fun k j => ?_)
      · simp only [List.getElem_map]; exact hlen _
      · have hlp : 0 < len := by simpa using h0'
        have c0 := spot_none (hcell 0 0 hlp h0)
        obtain ⟨b, off, sp⟩ := A
        have e1 : sp = none := by simpa [Addr.add] using c0.1
        subst e1
        rw [add_eq, add_eq] at c0
        refine ⟨b, off, rfl, trivial, c0.2, fun k j hk hj => ?_⟩
        have hk' : k < len := by simpa using hk
        have := hcell k j hk' hj
        rw [add_eq, add_eq] at this
        rw [if_pos ⟨hk', hj⟩, ← this]
        congr 2
        omega
      · have hk' : k < len := by simpa using hk
        simp only [List.getElem_map, List.getElem_range] at hj ⊢
        have hj' : j < sz := by rw [hlen] at hj; exact hj
        rw [if_pos ⟨hk', hj'⟩]
        exact ((hf k hk').2.2 j hj).1
      · by_cases hkj : k < len ∧ j < sz
        · rw [if_pos hkj]
          exact ((hf k hkj.1).2.2 j (by rw [hlen]; exact hkj.2)).2
        · rw [if_neg hkj]; rfl
    rw [← e] at this
    exact this
theorem Rep.one_sl {sz : Nat} {xs : List AV} {u : Value} (h : Rep W (fun _ => True) G0 (.sl sz xs) u) : u.oneCell' = true := by
  cases h; rfl
theorem list3 {l : List Value} (h : l.length = 3) : ∃ a b c, l = [a, b, c] := by
  match l, h with
  | [a, b, c], _ => exact ⟨a, b, c, rfl⟩
theorem list4 {l : List Value} (h : l.length = 4) : ∃ a b c d, l = [a, b, c, d] := by
  match l, h with
  | [a, b, c, d], _ => exact ⟨a, b, c, d, rfl⟩
theorem list9 {l : List Value} (h : l.length = 9) : ∃ a b c d e f g i j, l = [a, b, c, d, e, f, g, i, j] := by
  match l, h with
  | [a, b, c, d, e, f, g, i, j], _ => exact ⟨a, b, c, d, e, f, g, i, j, rfl⟩
theorem icell_open {n : Nat} {c : Value} {x : DataW H × List MemPlace} (h : DataW.trod enc Try.prog W 0 (fun _ => true) true n 3 [c] = some x) : ∃ z : Int, c = .int .i64 z := by
  obtain ⟨z, e, _⟩ := DataW.trod_int (k := .i64) Try.underlying3 h
  exact ⟨z, by simpa using e⟩
theorem value_each (n : Nat) (cs : List Value) (x : DataW H × List MemPlace) (hl : cs.length = 3) (h : DataW.trod enc Try.prog W 0 (fun _ => true) true n 161 cs = some x) : ∃ m : T_api_Value, CellsOf W e_api_Value m cs := by
  obtain ⟨c0, c1, c2, rfl⟩ := list3 hl
  obtain ⟨y0, y1, y2, n', _, _, h0, h1, h2⟩ := trod_struct3 Try.underlying161 h
  have e : Try.prog.cellsOf 3 = 1 := by kernel_rfl
  have e' : Try.prog.cellsOf 9 = 1 := by kernel_rfl
  simp only [e, e', List.drop_zero, List.take_succ_cons, List.take_zero, List.drop_succ_cons] at h0 h1 h2
  obtain ⟨z0, rfl⟩ := icell_open h0
  obtain ⟨z1, rfl⟩ := icell_open h1
  obtain ⟨s, e2, _⟩ := DataW.trod_string Try.underlying9 h2
  simp only [List.cons.injEq, and_true] at e2
  subst e2
  refine ⟨⟨z0, z1, s⟩, rfl, fun j hj => ?_⟩
  have hj' : j < 3 := hj
  rcases j with _ | _ | _ | j
  · exact ⟨.int _ _, rfl⟩
  · exact ⟨.int _ _, rfl⟩
  · exact ⟨.str _, rfl⟩
  · omega
theorem message_each (n : Nat) (cs : List Value) (x : DataW H × List MemPlace) (hl : cs.length = 9) (h : DataW.trod enc Try.prog W 0 (fun _ => true) true n 55 cs = some x) : ∃ m : T_api_Message, CellsOf W e_api_Message m cs := by
  obtain ⟨c0, c1, c2, c3, c4, c5, c6, c7, c8, rfl⟩ := list9 hl
  obtain ⟨y0, y1, y2, y3, y4, n', _, h0, h1, h2, h3, h4⟩ := trod_struct5 Try.underlying55 h
  have e : Try.prog.cellsOf 3 = 1 := by kernel_rfl
  have e' : Try.prog.cellsOf 53 = 5 := by kernel_rfl
  have e'' : Try.prog.cellsOf 51 = 1 := by kernel_rfl
  simp only [e, e', List.drop_zero, List.take_succ_cons, List.take_zero, List.drop_succ_cons] at h0 h1 h2 h3 h4
  obtain ⟨u0, u1, u2, u3, u4, n'', _, g0, g1, g2, g3, g4⟩ := trod_struct5 Try.underlying53 h1
  simp only [e, e'', List.drop_zero, List.take_succ_cons, List.take_zero, List.drop_succ_cons] at g0 g1 g2 g3 g4
  obtain ⟨z0, rfl⟩ := icell_open h0
  obtain ⟨z1, rfl⟩ := icell_open g0
  obtain ⟨z2, rfl⟩ := icell_open g1
  obtain ⟨z3, rfl⟩ := icell_open g2
  obtain ⟨z4, rfl⟩ := icell_open g3
  obtain ⟨z6, rfl⟩ := icell_open h2
  obtain ⟨z7, rfl⟩ := icell_open h3
  obtain ⟨z8, rfl⟩ := icell_open h4
  obtain ⟨vs, hv⟩ := sl_open (a := e_api_Value) (sz := 3) Try.underlying51 (by kernel_rfl) (by omega) inferInstance (fun _ => rfl) value_each g4
  refine ⟨⟨z0, ⟨z1, z2, z3, z4, vs⟩, z6, z7, z8⟩, rfl, fun j hj => ?_⟩
  have hj' : j < 9 := hj
  rcases j with _ | _ | _ | _ | _ | _ | _ | _ | _ | j
  · exact ⟨.int _ _, rfl⟩
  · exact ⟨.int _ _, rfl⟩
  · exact ⟨.int _ _, rfl⟩
  · exact ⟨.int _ _, rfl⟩
  · exact ⟨.int _ _, rfl⟩
  · exact ⟨hv, hv.one_sl⟩
  · exact ⟨.int _ _, rfl⟩
  · exact ⟨.int _ _, rfl⟩
  · exact ⟨.int _ _, rfl⟩
  · omega
theorem tracker_each (n : Nat) (cs : List Value) (x : DataW H × List MemPlace) (hl : cs.length = 4) (h : DataW.trod enc Try.prog W 0 (fun _ => true) true n 25 cs = some x) : ∃ m : Trk, CellsOf W aTrk m cs := by
  obtain ⟨c0, c1, c2, c3, rfl⟩ := list4 hl
  obtain ⟨y0, y1, y2, y3, n', _, _, h0, h1, h2, h3⟩ := trod_struct4 Try.underlying25 h
  have e : Try.prog.cellsOf 3 = 1 := by kernel_rfl
  have e' : Try.prog.cellsOf 22 = 1 := by kernel_rfl
  have e'' : Try.prog.cellsOf 23 = 1 := by kernel_rfl
  simp only [e, e', e'', List.drop_zero, List.take_succ_cons, List.take_zero, List.drop_succ_cons] at h0 h1 h2 h3
  obtain ⟨z0, rfl⟩ := icell_open h0
  obtain ⟨z3, rfl⟩ := icell_open h3
  obtain ⟨bs, hb⟩ := ints_open h1
  obtain ⟨ps, hp⟩ := pts_open h2
  have hb := rep_ints.2 hb
  have hp := rep_pts.2 hp
  refine ⟨⟨z0, bs, ps, z3⟩, rfl, fun j hj => ?_⟩
  have hj' : j < 4 := hj
  rcases j with _ | _ | _ | _ | j
  · exact ⟨.int _ _, rfl⟩
  · exact ⟨hb, hb.one_sl⟩
  · exact ⟨hp, hp.one_sl⟩
  · exact ⟨.int _ _, rfl⟩
  · omega

/-! ### The arguments -/
theorem slArg_open {α : Type} {a : α → AV} {t e : TypeId} {sz : Nat} (ht : Try.prog.underlying t = some (.slice e)) (hsz : Try.prog.cellsOf e = sz) (h0 : 0 < sz) (i0 : Inhabited α) (hlen : ∀ m, (a m).cells.length = sz)
    (each : ∀ (n : Nat) (cs : List Value) (x : DataW H × List MemPlace), cs.length = sz → DataW.trod enc Try.prog W 0 (fun _ => true) true n e cs = some x → ∃ m : α, CellsOf W a m cs)
    (hv : Value.okWide Try.prog W .any base t v) (h : DataW.Trod enc Try.prog W 0 (fun _ => true) true t v d p) : ∃ l : List α, Rep W (fun _ => True) G0 (.sl sz (l.map a)) v := by
  obtain ⟨A, len, cap, rfl⟩ := okWide_slice ht hv
  obtain ⟨fuel, hf⟩ := h
  exact sl_open ht hsz h0 i0 hlen each hf
theorem trks_open (hv : Value.okWide Try.prog W .any base 50 v) (h : DataW.Trod enc Try.prog W 0 (fun _ => true) true 50 v d p) : ∃ l : List Trk, Rep W (fun _ => True) G0 (.sl 4 (l.map aTrk)) v :=
  slArg_open Try.underlying50 (by kernel_rfl) (by omega) ⟨⟨0, [], [], 0⟩⟩ (fun _ => rfl) tracker_each hv h
theorem msgs_open (hv : Value.okWide Try.prog W .any base 77 v) (h : DataW.Trod enc Try.prog W 0 (fun _ => true) true 77 v d p) : ∃ l : List T_api_Message, Rep W (fun _ => True) G0 (.sl 9 (l.map e_api_Message)) v :=
  slArg_open Try.underlying77 (by kernel_rfl) (by omega) inferInstance (fun _ => rfl) message_each hv h
theorem agg_of {α : Type} {a : α → AV} {m : α} {cs : Array Value} {xs : List AV} (hm : a m = .agg xs) (h : CellsOf W a m cs.toList) : Rep W (fun _ => True) G0 (a m) (.agg cs) := by
  obtain ⟨h1, h2⟩ := h
  rw [hm] at h1 h2 ⊢
  have hl : cs.size = xs.length := by simpa [AV.cells] using h1
  have g : ∀ i, cs.toList.getD i undef = cs.getD i undef := fun i => by
    by_cases hi : i < cs.size
    · simp [Array.getD, hi]
    · simp [Array.getD, hi]
  refine .agg _ hl (fun i hi => ?_) (fun i hi => ?_)
  · have := (h2 i hi).1
    rw [g] at this
    exact this
  · have := (h2 i (show i < xs.length by rw [← hl]; exact hi)).2
    rw [g] at this
    exact this
theorem msg_open (hv : Value.okWide Try.prog W .any base 55 v) (h : DataW.Trod enc Try.prog W 0 (fun _ => true) true 55 v d p) : ∃ m : T_api_Message, Rep W (fun _ => True) G0 (e_api_Message m) v := by
  obtain ⟨cs, rfl, hsz⟩ := okWide_struct Try.underlying55 hv
  obtain ⟨fuel, hf⟩ := h
  have e9 : Try.prog.cellsOf 55 = 9 := by kernel_rfl
  obtain ⟨m, hm⟩ := message_each fuel cs.toList _ (by simpa using hsz.trans e9) hf
  exact ⟨m, agg_of rfl hm⟩
theorem byte_each (n : Nat) (cs : List Value) (x : DataW H × List MemPlace) (hl : cs.length = 1) (h : DataW.trod enc Try.prog W 0 (fun _ => true) true n 5 cs = some x) : ∃ m : {x : Int // 0 ≤ x ∧ x < 256}, CellsOf W (fun (x : {x : Int // 0 ≤ x ∧ x < 256}) => AV.int .u8 x.1) m cs := by
  obtain ⟨z, rfl, _, hw⟩ := DataW.trod_int (k := .u8) Try.underlying5 h
  have h2 : (0 : Int) ≤ z ∧ z ≤ 255 := by
    simp only [Lit.wf, Bool.and_eq_true, decide_eq_true_eq] at hw
    exact hw
  refine ⟨⟨z, by omega⟩, rfl, fun j hj => ?_⟩
  have hj' : j < 1 := hj
  rcases j with _ | j
  · exact ⟨.int _ _, rfl⟩
  · omega
theorem bytes_open (hv : Value.okWide Try.prog W .any base 89 v) (h : DataW.Trod enc Try.prog W 0 (fun _ => true) true 89 v d p) : ∃ l : List Int, (∀ x ∈ l, 0 ≤ x ∧ x < 256) ∧ Rep W (fun _ => True) G0 (.sl 1 (l.map (AV.int .u8))) v := by
  obtain ⟨l, hl⟩ := slArg_open (a := fun (x : {x : Int // 0 ≤ x ∧ x < 256}) => AV.int .u8 x.1) (sz := 1) Try.underlying89 (by kernel_rfl) (by omega) ⟨⟨0, by omega⟩⟩ (fun _ => rfl) byte_each hv h
  refine ⟨l.map (·.1), fun x hx => ?_, ?_⟩
  · obtain ⟨y, _, rfl⟩ := List.mem_map.1 hx
    exact y.2
  · rw [List.map_map]
    exact hl
theorem i64_open (hv : Value.okWide Try.prog W .any base 3 v) (h : DataW.Trod enc Try.prog W 0 (fun _ => true) true 3 v d p) : ∃ n : Int, v = .int .i64 n := okWide_int Try.underlying3 hv
end
end Go.Proofs.Ythhnhajldhnfmaa
