/- Arguments opened: what any row needs. -/
import Derived.Test.YtdbapaofibgfcaaRowL
set_option linter.unusedVariables false
set_option linter.unusedSimpArgs false
namespace Go.Proofs.Ytdbapaofibgfcaa
open Go.ChangeShapes Go.WideShapes Go.ChangeAt Go.RowKit Go.Joins Go.Deep

section
variable {H : Type} {enc : TypeId × Value → H} {W : World} {base : Nat} {v : Value} {d : DataW H} {p : List MemPlace}
theorem spot_none {a : Addr} {u : Value} (h : W.cell? a = some u) : a.spot = none ∧ a.block < W.heap.size := by
  unfold World.cell? at h
  split at h
  · rename_i c _ _ hg
    split at h
    · cases h
    · rename_i hs
      refine ⟨by cases hh : a.spot with | none => rfl | some _ => simp [hh] at hs, ?_⟩
      rcases Nat.lt_or_ge a.block W.heap.size with hlt | hge
      · exact hlt
      · rw [Array.getElem?_eq_none hge] at hg; cases hg
  · cases h
theorem add_eq (b off k : Nat) : (⟨b, off, none⟩ : Addr).add k = ⟨b, off + k, none⟩ := by
  by_cases h : k = 0 <;> simp [Addr.add, h]
theorem trod_struct5 {P : Program} {w : World} {spare : Nat → Bool} {held : Bool} {t : TypeId} {f0 f1 f2 f3 f4 : Field} {fuel : Nat} {cs : List Value} {x : DataW H × List MemPlace} (ht : P.underlying t = some (.struct #[f0, f1, f2, f3, f4])) (h : DataW.trod enc P w base spare held fuel t cs = some x) :
    ∃ y0 y1 y2 y3 y4 n, cs.length = P.cellsOf t ∧ DataW.trod enc P w base spare held n f0.type ((cs.drop f0.offset).take (P.cellsOf f0.type)) = some y0 ∧
      DataW.trod enc P w base spare held n f1.type ((cs.drop f1.offset).take (P.cellsOf f1.type)) = some y1 ∧ DataW.trod enc P w base spare held n f2.type ((cs.drop f2.offset).take (P.cellsOf f2.type)) = some y2 ∧
      DataW.trod enc P w base spare held n f3.type ((cs.drop f3.offset).take (P.cellsOf f3.type)) = some y3 ∧ DataW.trod enc P w base spare held n f4.type ((cs.drop f4.offset).take (P.cellsOf f4.type)) = some y4 := by
  obtain ⟨xs, n, _, rfl, hl, hlen, hf⟩ := DataW.trod_struct ht h
  match xs, hlen with
  | [y0, y1, y2, y3, y4], _ => exact ⟨y0, y1, y2, y3, y4, n, hl, by simpa using hf 0 f0 rfl, by simpa using hf 1 f1 rfl, by simpa using hf 2 f2 rfl, by simpa using hf 3 f3 rfl, by simpa using hf 4 f4 rfl⟩
theorem mapM_some {α β : Type} {f : α → Option β} : ∀ {l : List α} {r : List β}, l.mapM f = some r → r.length = l.length ∧ ∀ k (hk : k < l.length) (hr : k < r.length), f l[k] = some r[k]
  | [], r, h => by simp at h; subst h; exact ⟨rfl, fun k hk => absurd hk (by simp)⟩
  | a :: l, r, h => by
    simp only [List.mapM_cons] at h
    cases ha : f a with
    | none => rw [ha] at h; simp at h
    | some b =>
      rw [ha] at h
      cases hl : l.mapM f with
      | none => rw [hl] at h; simp at h
      | some s =>
        rw [hl] at h
        simp at h
        subst h
        obtain ⟨i1, i2⟩ := mapM_some hl
        refine ⟨by simp [i1], fun k hk hr => ?_⟩
        cases k with
        | zero => exact ha
        | succ k => exact i2 k (by simpa using hk) (by simpa using hr)
theorem cells_each {a : Addr} {n : Nat} {cs : List Value} (h : W.cells? 0 a n = some cs) : cs.length = n ∧ ∀ j, j < n → W.cell? (a.add j) = some (cs.getD j undef) := by
  unfold World.cells? at h
  rw [if_pos (Nat.zero_le _)] at h
  obtain ⟨i1, i2⟩ := mapM_some h
  have hl : cs.length = n := by simpa using i1
  refine ⟨hl, fun j hj => ?_⟩
  have := i2 j (by simpa using hj) (by omega)
  rw [List.getElem_range] at this
  rw [this]
  simp [List.getElem?_eq_getElem (show j < cs.length by omega)]
set_option maxRecDepth 100000
/-- The cells cs read as the model's value m. -/
def CellsOf {α : Type} (W : World) (a : α → AV) (m : α) (cs : List Value) : Prop :=
  cs.length = (a m).cells.length ∧ ∀ j (hj : j < (a m).cells.length), Rep W (fun _ => True) G0 ((a m).cells[j]) (cs.getD j undef) ∧ (cs.getD j undef).oneCell' = true
theorem sl_open {α : Type} {a : α → AV} {t e : TypeId} {sz : Nat} (ht : Try.prog.underlying t = some (.slice e)) (hsz : Try.prog.cellsOf e = sz) (h0 : 0 < sz) (i0 : Inhabited α) (hlen : ∀ m, (a m).cells.length = sz)
    (each : ∀ (n : Nat) (cs : List Value) (x : DataW H × List MemPlace), cs.length = sz → DataW.trod enc Try.prog W 0 (fun _ => true) true n e cs = some x → ∃ m : α, CellsOf W a m cs)
    {n : Nat} {u : Value} {x : DataW H × List MemPlace} (h : DataW.trod enc Try.prog W 0 (fun _ => true) true n t [u] = some x) : ∃ l : List α, Rep W (fun _ => True) G0 (.sl sz (l.map a)) u := by
  rcases open_slice ht h with ⟨h1, _⟩ | ⟨A, len, cap, m, n', D, Pl, h1, _, hlc, hm, hmm, _, hc⟩
  · simp only [List.cons.injEq, and_true] at h1
    subst h1
    exact ⟨[], .sl none 0 (fun _ _ => .bool true) (by simp) (fun k hk => absurd hk (by simp)) (fun h => absurd h (by simp)) (fun k hk => absurd hk (by simp)) (fun _ _ => rfl)⟩
  · simp only [List.cons.injEq, and_true] at h1
    subst h1
    simp only [if_true] at hmm
    subst hmm
    rw [hsz] at hc
    have every : ∀ i, ∃ q : α × List Value, i < len → W.cells? 0 (A.add (i * sz)) sz = some q.2 ∧ CellsOf W a q.1 q.2 := fun i => by
      by_cases hi : i < len
      · obtain ⟨cs, c1, c2⟩ := hc i (by omega)
        obtain ⟨k, hk⟩ := each n' cs _ (cells_each c1).1 c2
        exact ⟨(k, cs), fun _ => ⟨c1, hk⟩⟩
      · exact ⟨(i0.default, []), fun h => absurd h hi⟩
    obtain ⟨f, hf⟩ := Classical.axiomOfChoice every
    have hl : ((List.range len).map fun i => (f i).1).length = len := by simp
    refine ⟨(List.range len).map fun i => (f i).1, ?_⟩
    have e : len = (((List.range len).map fun i => (f i).1).map a).length := by simp
    have hcell : ∀ k j, k < len → j < sz → W.cell? ((A.add (k * sz)).add j) = some ((f k).2.getD j undef) := fun k j hk hj => (cells_each (hf k hk).1).2 j hj
    have : Rep W (fun _ => True) G0 (.sl sz (((List.range len).map fun i => (f i).1).map a)) (.slice (some A) (((List.range len).map fun i => (f i).1).map a).length m) := by
      refine .sl (some A) m (fun k j => if k < len ∧ j < sz then (f k).2.getD j undef else .bool true) (by simpa using hlc) (fun k hk => ?_) (fun h0' => ?_) (fun k hk j hj => ?_) (fun k j => ?_)
      · simp only [List.getElem_map]; exact hlen _
      · have hlp : 0 < len := by simpa using h0'
        have c0 := spot_none (hcell 0 0 hlp h0)
        obtain ⟨b, off, sp⟩ := A
        have e1 : sp = none := by simpa [Addr.add] using c0.1
        subst e1
        rw [add_eq, add_eq] at c0
        refine ⟨b, off, rfl, trivial, c0.2, fun k j hk hj => ?_⟩
        have hk' : k < len := by simpa using hk
        have := hcell k j hk' hj
        rw [add_eq, add_eq] at this
        rw [if_pos ⟨hk', hj⟩, ← this]
        congr 2
        omega
      · have hk' : k < len := by simpa using hk
        simp only [List.getElem_map, List.getElem_range] at hj ⊢
        have hj' : j < sz := by rw [hlen] at hj; exact hj
        rw [if_pos ⟨hk', hj'⟩]
        exact ((hf k hk').2.2 j hj).1
      · by_cases hkj : k < len ∧ j < sz
        · rw [if_pos hkj]
          exact ((hf k hkj.1).2.2 j (by rw [hlen]; exact hkj.2)).2
        · rw [if_neg hkj]; rfl
    rw [← e] at this
    exact this
theorem Rep.one_sl {sz : Nat} {xs : List AV} {u : Value} (h : Rep W (fun _ => True) G0 (.sl sz xs) u) : u.oneCell' = true := by
  cases h; rfl
theorem list3 {l : List Value} (h : l.length = 3) : ∃ a b c, l = [a, b, c] := by
  match l, h with
  | [a, b, c], _ => exact ⟨a, b, c, rfl⟩
theorem list4 {l : List Value} (h : l.length = 4) : ∃ a b c d, l = [a, b, c, d] := by
  match l, h with
  | [a, b, c, d], _ => exact ⟨a, b, c, d, rfl⟩
theorem list9 {l : List Value} (h : l.length = 9) : ∃ a b c d e f g i j, l = [a, b, c, d, e, f, g, i, j] := by
  match l, h with
  | [a, b, c, d, e, f, g, i, j], _ => exact ⟨a, b, c, d, e, f, g, i, j, rfl⟩
theorem icell_open {n : Nat} {c : Value} {x : DataW H × List MemPlace} (h : DataW.trod enc Try.prog W 0 (fun _ => true) true n 3 [c] = some x) : ∃ z : Int, c = .int .i64 z := by
  obtain ⟨z, e, _⟩ := DataW.trod_int (k := .i64) Try.underlying3 h
  exact ⟨z, by simpa using e⟩
theorem slArg_open {α : Type} {a : α → AV} {t e : TypeId} {sz : Nat} (ht : Try.prog.underlying t = some (.slice e)) (hsz : Try.prog.cellsOf e = sz) (h0 : 0 < sz) (i0 : Inhabited α) (hlen : ∀ m, (a m).cells.length = sz)
    (each : ∀ (n : Nat) (cs : List Value) (x : DataW H × List MemPlace), cs.length = sz → DataW.trod enc Try.prog W 0 (fun _ => true) true n e cs = some x → ∃ m : α, CellsOf W a m cs)
    (hv : Value.okWide Try.prog W .any base t v) (h : DataW.Trod enc Try.prog W 0 (fun _ => true) true t v d p) : ∃ l : List α, Rep W (fun _ => True) G0 (.sl sz (l.map a)) v := by
  obtain ⟨A, len, cap, rfl⟩ := okWide_slice ht hv
  obtain ⟨fuel, hf⟩ := h
  exact sl_open ht hsz h0 i0 hlen each hf
theorem agg_of {α : Type} {a : α → AV} {m : α} {cs : Array Value} {xs : List AV} (hm : a m = .agg xs) (h : CellsOf W a m cs.toList) : Rep W (fun _ => True) G0 (a m) (.agg cs) := by
  obtain ⟨h1, h2⟩ := h
  rw [hm] at h1 h2 ⊢
  have hl : cs.size = xs.length := by simpa [AV.cells] using h1
  have g : ∀ i, cs.toList.getD i undef = cs.getD i undef := fun i => by
    by_cases hi : i < cs.size
    · simp [Array.getD, hi]
    · simp [Array.getD, hi]
  refine .agg _ hl (fun i hi => ?_) (fun i hi => ?_)
  · have := (h2 i hi).1
    rw [g] at this
    exact this
  · have := (h2 i (show i < xs.length by rw [← hl]; exact hi)).2
    rw [g] at this
    exact this
theorem i64_open (hv : Value.okWide Try.prog W .any base 3 v) (h : DataW.Trod enc Try.prog W 0 (fun _ => true) true 3 v d p) : ∃ n : Int, v = .int .i64 n := okWide_int Try.underlying3 hv
theorem int_each (n : Nat) (cs : List Value) (x : DataW H × List MemPlace) (hl : cs.length = 1) (h : DataW.trod enc Try.prog W 0 (fun _ => true) true n 3 cs = some x) : ∃ m : Int, CellsOf W aI m cs := by
  match cs, hl with
  | [c], _ =>
    obtain ⟨z, rfl⟩ := icell_open h
    refine ⟨z, rfl, fun j hj => ?_⟩
    have hj' : j < 1 := hj
    rcases j with _ | j
    · exact ⟨.int _ _, rfl⟩
    · omega
end
end Go.Proofs.Ytdbapaofibgfcaa
