/- Clones of slices, for elements of any kind. -/
import Derived.Test.YtdbapaofibgfcaaAm0
import Derived.Test.YtdbapaofibgfcaaG0
set_option linter.unusedVariables false
set_option linter.unusedSimpArgs false
namespace Go.Proofs.Ytdbapaofibgfcaa
open Go.RowKit

/-- n cells. -/
abbrev Cel (n : Nat) := { l : List Value // l.length = n ∧ ∀ u ∈ l, u.oneCell' = true }
def encC {n : Nat} (x : Cel n) : List Value := x.1
theorem eokC {P : Program} {T e sz eb : Nat} {i ie : TyI} (hT : TyOk P T i) (hs : i.shape = .slc e sz eb) (he : TyOk P e ie) (hz : 0 < sz) (hzs : ie.zero.cells.size = sz) : EOk P T e sz ie.bytes (encC (n := sz)) := by
  obtain ⟨hu, hce, _⟩ := und_slc hT hs
  obtain ⟨x, h1, h2, h3, h4⟩ := he.both
  exact ⟨hu, ⟨x, ie.zero, h1, h4, by rw [h2, ← he.cells, hce], h3, hzs⟩, hz, fun x => x.2.1, fun x => x.2.2⟩
def F_clone {α : Type} (n : Nat) (l : List α) : Option (List α) := if l.length ≤ 1000000000 then some l else none
theorem clone_gen {f : FuncId} {e sz : Nat} {P : Program} {E : Env} (hP : E.P = P) (hE : Enters E f) (any : ∀ (l : List (Cel sz)) (S : Nat → Prop) (v : Value) (w : World), Sl w S sz encC v l → l.length ≤ 1000000000 → Calls P f #[v] w (RetOwn e sz encC l w)) {α : Type} {enc : α → AV} {n : Nat} {a r : List α} (hF : F_clone n a = some r) :
    ConT E f [.sl sz (List.map enc a)] e sz (List.map enc r) (.row 0) := by
  unfold F_clone at hF
  split at hF
  · rename_i hl
    injection hF with hF
    subst hF
    refine .ofRow ⟨hE, fun S w vs ⟨hn, hr⟩ => ?_⟩
    have e1 := getD1 hn
    have h0 : Rep w S G0 (.sl sz (List.map enc a)) (vs.getD 0 undef) := hr 0 (by simp)
    rw [e1, hP]
    obtain ⟨A, c, hv, hc, hlen, cell, hb, hrr, h1⟩ := h0.sl_inv
    let l : List (Cel sz) := (List.range (List.map enc a).length).map fun k => ⟨(List.range sz).map fun j => cell k j, by simp, fun u hu => by
      obtain ⟨j, _, rfl⟩ := List.mem_map.1 hu
      exact h1 k j⟩
    have hll : l.length = (List.map enc a).length := by simp [l]
    have hlk : ∀ k (hk : k < l.length), (encC l[k]) = (List.range sz).map fun j => cell k j := fun k hk => by simp [l, encC]
    have hsl : Sl w S sz encC (vs.getD 0 undef) l := by
      refine ⟨A, c, by rw [hv, hll], by rw [hll]; exact hc, fun h0 => ?_⟩
      obtain ⟨b, off, hA, hS, hlt, hcell⟩ := hb (by rw [← hll]; exact h0)
      refine ⟨b, off, hA, hS, hlt, fun k hk j u hu => ?_⟩
      rw [hlk k hk] at hu
      have hj : j < sz := by have := (List.getElem?_eq_some_iff.1 hu).1; simpa using this
      rw [List.getElem?_map, List.getElem?_range hj] at hu
      simp only [Option.map_some, Option.some.injEq] at hu
      subst hu
      exact hcell k j (by rw [← hll]; exact hk) hj
    refine (any l S _ w hsl (by rw [hll, List.length_map]; exact hl)).mono fun ed w' ⟨A', c', q1, q2, q3⟩ => ?_
    refine ⟨_, l.flatMap encC, q1, q3, ?_, hlen, fun k hk j hj => ?_, fun u hu => ?_⟩
    · have : w'.ownsRow w.heap.size e sz (.slice A' l.length c') l.length (l.flatMap encC) := q2
      rw [hll] at this
      rw [hll]
      exact this
    · have hj' : j < sz := by rw [hlen k hk] at hj; exact hj
      have hk' : k < l.length := by rw [hll]; exact hk
      have hat := flatMap_at (enc := encC (n := sz)) (fun x _ => x.2.1) k hk' j hj' (cell k j) (by rw [hlk k hk', List.getElem?_map, List.getElem?_range hj']; rfl)
      rw [List.getD_eq_getElem?_getD, hat]
      refine (hrr k hk j hj).mono q3.size (fun b hb hlt => ⟨q3.block b hlt, Or.inl hb, fun e => ?_⟩)
      have h2 : w'.ownsRow w.heap.size _ sz (.slice A' l.length c') l.length (l.flatMap encC) := q2
      rcases h2.2 with ⟨h, _⟩ | ⟨g, cap, cur, h, hg, _⟩
      · rw [h] at e; simp [Value.ownBlock] at e
      · rw [h] at e; simp only [Value.ownBlock, Option.some.injEq] at e; subst e; omega
    · obtain ⟨x, _, hx⟩ := List.mem_flatMap.1 hu
      exact x.2.2 u hx
  · cases hF
theorem ConT.close {E : Env} {f : FuncId} {args xs : List AV} {ty sz : Nat} (h : ConT E f args ty sz xs (.row 0)) (hE : E.dr = false) : Con E false f args (.sl sz xs) :=
  ⟨h.1, fun S w vs ha => (h.2.2 S w vs ha).mono fun e w' ⟨u, v, us, h1, h2, h3, h4, h5, h6, h7⟩ => by
    have hr := h7 (fun _ => some (some (v.ownBlock, v))) rfl
    have huv : u = v := hr.row_inv rfl
    subst huv
    refine ⟨u, h1, ⟨h2, fun h => absurd (hE.symm.trans h) (by simp)⟩, ?_⟩
    have hrep : EntRep w' (fun b => (S b ∨ w.heap.size ≤ b) ∧ u.ownBlock ≠ some b) G0 w.heap.size (some (u.ownBlock, u)) (.row ty sz xs) := ⟨u, us, rfl, slice_one h3, h3, h4, h5, h6⟩
    obtain ⟨s, hs, hrr⟩ := row_sl (S' := fun b => (false = false ∧ S b) ∨ w.heap.size ≤ b) hrep (fun b hb _ => hb.1.elim (fun h => Or.inl ⟨rfl, h⟩) Or.inr) (fun s g hg => by
      injection hg with hg
      injection hg with hg _
      rcases h3.2 with ⟨h, _⟩ | ⟨g', cap, cur, h, hb, _⟩
      · rw [h] at hg; simp [Value.ownBlock] at hg
      · rw [h] at hg; simp only [Value.ownBlock, Option.some.injEq] at hg; subst hg; exact Or.inr hb) G0
    injection hs with hs
    injection hs with _ hs
    rw [hs]
    exact hrr⟩
theorem ConT.sub {E : Env} {f : FuncId} {avs bvs xs : List AV} {ty sz : Nat} {res : AV} (h : SubL avs bvs) (hc : ConT E f bvs ty sz xs res) : ConT E f avs ty sz xs res :=
  ⟨hc.1, hc.2.1, fun S w vs ⟨hl, hr⟩ => hc.2.2 S w vs ⟨by rw [hl, h.len], fun i hi => (hr i (by rw [h.len]; exact hi)).sub (h.at i _ hi)⟩⟩
/-! ### Insertion -/
/-- From ⟨g, off⟩ on, X lies there. -/
def Xk (w : World) (g off : Nat) (X : List Value) : Prop := ∃ cur ty fr, w.heap[g]? = some (.cells cur ty fr) ∧ 0 < cur.size ∧ ∀ j u, X[j]? = some u → cur[off + j]? = some u
section
variable {w w' : World} {g off : Nat} {X : List Value}
theorem Xk.lt (h : Xk w g off X) : g < w.heap.size := by
  obtain ⟨cur, ty, fr, h, _⟩ := h
  exact (Array.getElem?_eq_some_iff.1 h).1
theorem Xk.cell (h : Xk w g off X) {j : Nat} {u : Value} (hu : X[j]? = some u) : w.cell? ⟨g, off + j, none⟩ = some u := by
  obtain ⟨cur, ty, fr, h, _, h2⟩ := h
  simp [World.cell?, h, h2 j u hu]
theorem Xk.grown {row : Option Nat} (h : Xk w g off X) (hb : w.grownBy w' row) (hg : some g ≠ row) : Xk w' g off X := by
  have hl := h.lt
  obtain ⟨cur, ty, fr, h, h2⟩ := h
  exact ⟨cur, ty, fr, (hb.block g hl hg).trans h, h2⟩
theorem Xk.alloc (h : Xk w g off X) (o : Obj) : Xk (w.alloc o) g off X := by
  have hl := h.lt
  obtain ⟨cur, ty, fr, h, h2⟩ := h
  exact ⟨cur, ty, fr, (Below.heap_alloc w o g hl).trans h, h2⟩
theorem Xk.shape (h : Xk w g off X) : ∃ t k, k ≠ 0 ∧ w.shape? g = some (t, k) := by
  obtain ⟨cur, ty, fr, h, h1, _⟩ := h
  exact ⟨ty, cur.size, by omega, by simp [World.shape?, h]⟩
theorem Sl.one_x {α : Type} {enc : α → List Value} {sz c : Nat} {x : α} (hc : 1 ≤ c) (h : Xk w g off (enc x)) : Sl w (fun _ => True) sz enc (.slice (some ⟨g, off, none⟩) 1 c) [x] :=
  ⟨_, c, rfl, hc, fun _ => ⟨g, off, rfl, trivial, h.lt, fun k hk j u hu => by
    have : k = 0 := by simpa using hk
    subst this
    simpa using h.cell (by simpa using hu)⟩⟩
end
theorem run_overlaps_b {P : Program} (w : World) (tS tR e : TypeId) (ht : P.underlying tS = some (.slice e)) (size : Nat) (hz : ∀ w, (Go.sizeOf e).run P w = .ok size w)
    (a b : Addr) (la ca lb cb : Nat) (hne : a.block ≠ b.block) (hsa : ∃ t k, k ≠ 0 ∧ w.shape? a.block = some (t, k)) (tB : TypeId) (kB : Nat) (hsb : w.shape? b.block = some (tB, kB)) (hkB : kB ≠ 0)
    (hfb : w.frozen? b = false) (hfe : w.frozen? { block := b.block, off := kB } = false) :
    (Extern.SlicesOverlaps.overlaps #[tS, tS] #[tR] #[.slice (some a) la ca, .slice (some b) lb cb]).run P w = .ok (.bool false) w := by
  have hnb : (a.block != b.block) = true := by simpa using hne
  have hnb' : (a.block == b.block) = false := by simpa using hne
  obtain ⟨tA, kA, hkA, hsa⟩ := hsa
  change Sem.run P (α := Value) (underlying tS >>= _) w = _
  by_cases h0 : la = 0 ∨ lb = 0 ∨ size = 0
  · simp [run_underlying ht, hz, h0]
  · cases kB with
    | zero => exact absurd rfl hkB
    | succ kB =>
      cases kA with
      | zero => exact absurd rfl hkA
      | succ kA =>
        cases hfa : w.frozen? a <;> cases hfa' : w.frozen? { block := a.block, off := kA + 1 } <;>
        simp [run_underlying ht, hz, h0, hnb, hnb', frozen, noView, viewAt, mayBeOne, stringish, shape, Sem.run, hsa, hsb, hfa, hfa', hfb, hfe]

def RetInsX {α : Type} (e : TypeId) (sz : Nat) (enc : α → List Value) (base : Nat) (v : Value) (l : List α) (w0 : World) (r : Ending) (w' : World) : Prop :=
  ∃ A c, r = .returned (.slice A l.length c) ∧ Own w' base e sz enc (.slice A l.length c) l ∧ w0.grownBy w' v.ownBlock ∧ ((Value.slice A l.length c).ownBlock = v.ownBlock ∨ (Value.slice A l.length c).ownBlock = some w0.heap.size)
def F_insert {α : Type} (n : Nat) (a : List α) (i : Int) (v : List α) : Option (List α) :=
  match v with
  | [x] => if 0 ≤ i ∧ i.toNat ≤ a.length ∧ a.length ≤ 1000000000 then some (a.take i.toNat ++ x :: a.drop i.toNat) else none
  | _ => none
theorem chunk_all {sz : Nat} (d : Value) (us : List Value) (n : Nat) (h : us.length = n * sz) : (List.range n).flatMap (fun k => (List.range sz).map fun j => us.getD (k * sz + j) d) = us := by
  induction n generalizing us with
  | zero => simp at h; subst h; rfl
  | succ n ih =>
    rw [List.range_succ_eq_map, List.flatMap_cons, List.flatMap_map]
    have h1 : (List.range sz).map (fun j => us.getD (0 * sz + j) d) = us.take sz := by
      apply List.ext_getElem
      · simp [h, Nat.succ_mul]
      · intro j h1 h2
        have hj : j < us.length := by simp at h2; omega
        simp [List.getElem?_eq_getElem hj]
    have h2 : (fun k => (List.range sz).map fun j => us.getD (k.succ * sz + j) d) = fun k => (List.range sz).map fun j => (us.drop sz).getD (k * sz + j) d := by
      funext k
      refine List.map_congr_left fun j _ => ?_
      rw [List.getD_eq_getElem?_getD, List.getD_eq_getElem?_getD, List.getElem?_drop, Nat.succ_mul, Nat.add_right_comm, Nat.add_comm (k * sz + j) sz]
    rw [h1, h2, ih (us.drop sz) (by rw [List.length_drop, h, Nat.succ_mul]; omega), List.take_append_drop]
theorem insert_gen {f : FuncId} {e sz : Nat} {P : Program} {E : Env} (hP : E.P = P) (hE : Enters E f) (hz : 0 < sz)
    (any : ∀ (l : List (Cel sz)) (x : Cel sz) (i base : Nat) (A : Option Addr) (c g off c1 : Nat) (w : World), Own w base e sz encC (.slice A l.length c) l → Xk w g off (encC x) → 1 ≤ c1 → (Value.slice A l.length c).ownBlock ≠ some g → i ≤ l.length → l.length ≤ 1000000000 → base ≤ w.heap.size →
      Calls P f #[.slice A l.length c, .int .i64 i, .slice (some ⟨g, off, none⟩) 1 c1] w (RetInsX e sz encC base (.slice A l.length c) (l.take i ++ x :: l.drop i) w)) {α : Type} {enc : α → AV} {n : Nat} {a v r : List α} {i : Int} (hF : F_insert n a i v = some r) :
    ConC false E f [.row 0, aI i, .sl sz (List.map enc v)] e sz (List.map enc a) e sz (List.map enc r) (.row 0) := by
  unfold F_insert at hF
  split at hF
  · rename_i x
    split at hF
    · rename_i hc
      obtain ⟨q0, rfl⟩ := Int.eq_ofNat_of_zero_le hc.1
      simp only [Int.toNat_natCast] at hc hF
      injection hF with hF
      subst hF
      refine ⟨hE, rfl, fun S w0 w vs v us hw0 hown hlen hre hone hvS hn hargs => ?_⟩
      have e3 : ∃ p q s, vs = #[p, q, s] := by
        obtain ⟨l⟩ := vs
        match l, hn with
        | [p, q, s], _ => exact ⟨p, q, s, rfl⟩
      obtain ⟨p, q, s, rfl⟩ := e3
      have ha := hargs (fun _ => some (some (v.ownBlock, v))) rfl
      have hp : Rep w S (fun _ => some (some (v.ownBlock, v))) (.row 0) p := ha 0 (by simp)
      have hq : Rep w S (fun _ => some (some (v.ownBlock, v))) (aI q0) q := ha 1 (by simp)
      have hs : Rep w S (fun _ => some (some (v.ownBlock, v))) (.sl sz [enc x]) s := ha 2 (by simp)
      have hpv : p = v := hp.row_inv rfl
      subst hpv
      rw [hq.int_inv]
      obtain ⟨A', c1, rfl, hc1, hxl, cell, hb, hrr, h1⟩ := hs.sl_inv
      obtain ⟨g, off, rfl, hSg, hgl, hcell⟩ := hb (by simp)
      have hxl0 : (enc x).cells.length = sz := hxl 0 (by simp)
      let X : Cel sz := ⟨(List.range sz).map (fun j => cell 0 j), by simp, fun u hu => by obtain ⟨j, _, rfl⟩ := List.mem_map.1 hu; exact h1 0 j⟩
      have hXg : ∀ j, j < sz → (encC X)[j]? = some (cell 0 j) := fun j hj => by simp [encC, X, hj]
      have hX : Xk w g off (encC X) := by
        have h0 := hcell 0 0 (by simp) hz
        simp only [Nat.zero_mul, Nat.add_zero] at h0
        have hobj : ∃ cur ty fr, w.heap[g]? = some (.cells cur ty fr) := by
          unfold World.cell? at h0
          split at h0
          · rename_i cur ty fr hh; exact ⟨cur, ty, fr, hh⟩
          · cases h0
        obtain ⟨cur, ty, fr, hh⟩ := hobj
        have hcc : ∀ j, j < sz → cur[off + j]? = some (cell 0 j) := fun j hj => by
          have := hcell 0 j (by simp) hj
          simpa [World.cell?, hh] using this
        refine ⟨cur, ty, fr, hh, ?_, fun j u hu => ?_⟩
        · have := (Array.getElem?_eq_some_iff.1 (hcc 0 hz)).1; omega
        · have hj : j < sz := by have := (List.getElem?_eq_some_iff.1 hu).1; simpa [encC, X] using this
          rw [hXg j hj] at hu
          rw [hcc j hj, hu]
      let l : List (Cel sz) := (List.range (List.map enc a).length).map fun k => ⟨(List.range sz).map fun j => us.getD (k * sz + j) (.bool true), by simp, fun u hu => by
        obtain ⟨j, _, rfl⟩ := List.mem_map.1 hu
        rw [List.getD_eq_getElem?_getD]
        cases hq : us[k * sz + j]? with
        | none => rfl
        | some u => exact hone u (List.mem_of_getElem? hq)⟩
      have hll : l.length = (List.map enc a).length := by simp [l]
      have hfl : l.flatMap encC = us := by
        have := chunk_all (sz := sz) (.bool true) us (List.map enc a).length hown.1
        rw [← this]
        simp [l, encC, List.flatMap_map]
      have ho : Own w w0.heap.size e sz encC p l := by
        show w.ownsRow _ e sz p l.length (l.flatMap encC)
        rw [hfl, hll]
        exact hown
      obtain ⟨A, c, hpe, hnc, _⟩ := ho.val
      subst hpe
      have hi : q0 ≤ l.length := by rw [hll, List.length_map]; exact hc.2.1
      rw [hP]
      refine (any l X q0 w0.heap.size A c g off c1 w ho hX (by simpa using hc1) (fun e => hvS g e hSg) hi (by rw [hll, List.length_map]; exact hc.2.2) hw0.size).mono ?_
      rintro ed w' ⟨A2, c2, rfl, ho2, hg2, hb2⟩
      have hrl : (List.take q0 l ++ X :: List.drop q0 l).length = (List.map enc (List.take q0 a ++ x :: List.drop q0 a)).length := by
        simp [hll]
      have hvb : ∀ b, (Value.slice A2 (List.take q0 l ++ X :: List.drop q0 l).length c2).ownBlock = some b → (Value.slice A l.length c).ownBlock = some b ∨ w.heap.size ≤ b := fun b hb => by
        rcases hb2 with h | h
        · exact Or.inl (h ▸ hb)
        · rw [h] at hb; injection hb with hb; exact Or.inr (by omega)
      have hown2 : w'.ownsRow w0.heap.size e sz (Value.slice A2 (List.take q0 l ++ X :: List.drop q0 l).length c2) (List.take q0 l ++ X :: List.drop q0 l).length ((List.take q0 l ++ X :: List.drop q0 l).flatMap encC) := ho2
      have hcl : ∀ y ∈ a, (enc y).cells.length = sz := fun y hy => by
        obtain ⟨k, hk, rfl⟩ := List.mem_iff_getElem.1 hy
        have := hlen k (by simpa using hk)
        simpa using this
      -- every element of the new row, with its cells
      have hel : ∀ k (hk : k < (List.take q0 l ++ X :: List.drop q0 l).length) (hk' : k < (List.take q0 a ++ x :: List.drop q0 a).length), ((List.take q0 l ++ X :: List.drop q0 l)[k] = X ∧ (List.take q0 a ++ x :: List.drop q0 a)[k] = x) ∨
          ∃ m, ∃ hm : m < l.length, ∃ hm' : m < a.length, (List.take q0 l ++ X :: List.drop q0 l)[k] = l[m] ∧ (List.take q0 a ++ x :: List.drop q0 a)[k] = a[m] := fun k hk hk' => by
        have hla : l.length = a.length := by rw [hll, List.length_map]
        by_cases h1 : k < q0
        · refine Or.inr ⟨k, by omega, by omega, ?_, ?_⟩
          · rw [List.getElem_append_left (by simp; omega)]; simp
          · rw [List.getElem_append_left (by simp; omega)]; simp
        · by_cases h2 : k = q0
          · refine Or.inl ⟨?_, ?_⟩
            · rw [List.getElem_append_right (by simp; omega)]
              simp only [List.length_take, show k - min q0 l.length = 0 by omega, List.getElem_cons_zero]
            · rw [List.getElem_append_right (by simp; omega)]
              simp only [List.length_take, show k - min q0 a.length = 0 by omega, List.getElem_cons_zero]
          · refine Or.inr ⟨k - 1, by simp at hk; omega, by simp at hk'; omega, ?_, ?_⟩
            · rw [List.getElem_append_right (by simp; omega)]
              simp only [List.length_take, show k - min q0 l.length = (k - 1 - q0) + 1 by omega, List.getElem_cons_succ, List.getElem_drop]
              congr 1
              omega
            · rw [List.getElem_append_right (by simp; omega)]
              simp only [List.length_take, show k - min q0 a.length = (k - 1 - q0) + 1 by omega, List.getElem_cons_succ, List.getElem_drop]
              congr 1
              omega
      refine ⟨_, _, (List.take q0 l ++ X :: List.drop q0 l).flatMap encC, rfl, hg2, by rw [← hrl]; exact hown2, fun h => (by cases h), hvb, fun k hk => ?_, fun k hk j hj => ?_, fun u hu => ?_, fun γ' hγ' => .row hγ' (fun g s e => by injection e with e; injection e with _ e)⟩
      · have hk' : k < (List.take q0 a ++ x :: List.drop q0 a).length := by simpa using hk
        rw [List.getElem_map]
        rcases hel k (by rw [hrl]; exact hk) hk' with ⟨_, h⟩ | ⟨m, hm, hm', _, h⟩
        · rw [h]; exact hxl0
        · rw [h]; exact hcl _ (List.getElem_mem hm')
      · have hk' : k < (List.take q0 a ++ x :: List.drop q0 a).length := by simpa using hk
        have hkl : k < (List.take q0 l ++ X :: List.drop q0 l).length := by rw [hrl]; exact hk
        have hS2 : ∀ b, S b → b < w.heap.size → w'.heap[b]? = w.heap[b]? ∧ ((S b ∨ w.heap.size ≤ b) ∧ (Value.slice A2 (List.take q0 l ++ X :: List.drop q0 l).length c2).ownBlock ≠ some b) := fun b hS hlt =>
          ⟨hg2.block b hlt (fun e => hvS b e.symm hS), Or.inl hS, fun e => by
            rcases hvb b e with h | h
            · exact hvS b h hS
            · omega⟩
        simp only [List.getElem_map] at hj ⊢
        rcases hel k hkl hk' with ⟨hX', hx'⟩ | ⟨m, hm, hm', hX', hx'⟩
        · simp only [hx'] at hj ⊢
          have hj' : j < sz := by omega
          have hat := flatMap_at (enc := encC (n := sz)) (fun y _ => y.2.1) k hkl j hj' (cell 0 j) (by rw [hX']; exact hXg j hj')
          rw [List.getD_eq_getElem?_getD, hat]
          have := hrr 0 (by simp) j hj
          exact Rep.mono this hg2.size hS2
        · simp only [hx'] at hj ⊢
          have hj' : j < sz := by rw [hcl _ (List.getElem_mem hm')] at hj; exact hj
          have hlm : (encC l[m])[j]? = some (us.getD (m * sz + j) undef) := by
            have hlt : m * sz + j < us.length := by
              rw [hown.1, ← hll]
              have : (m + 1) * sz ≤ l.length * sz := Nat.mul_le_mul_right _ hm
              rw [Nat.succ_mul] at this
              omega
            simp [l, encC, hj', List.getElem?_eq_getElem hlt]
          have hat := flatMap_at (enc := encC (n := sz)) (fun y _ => y.2.1) k hkl j hj' _ (by rw [hX']; exact hlm)
          rw [List.getD_eq_getElem?_getD, hat]
          have := hre m (by simpa using hm') j (by simpa using hj)
          simp only [List.getElem_map] at this
          exact Rep.mono this hg2.size hS2
      · obtain ⟨y, _, hy⟩ := List.mem_flatMap.1 hu
        exact y.2.2 u hy
    · cases hF
  · cases hF
end Go.Proofs.Ytdbapaofibgfcaa
