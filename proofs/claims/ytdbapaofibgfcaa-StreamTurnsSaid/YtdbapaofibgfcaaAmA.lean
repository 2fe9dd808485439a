/- The abstract walk, first part: values that stand for Go's values, and what they stand for in a world. -/
import Derived.Test.YtdbapaofibgfcaaBase
set_option linter.unusedVariables false
set_option linter.unusedSimpArgs false
namespace Go.Proofs.Ytdbapaofibgfcaa
open Go.RowKit

inductive AV where
  | any
  | int (k : IntKind) (n : Int)
  | bool (b : Bool)
  | str (s : ByteArray)
  | nilp
  | ptr (id off : Nat)
  | nils
  | sl (sz : Nat) (xs : List AV)
  | row (id : Nat)
  | elt (id sz k j : Nat)
  | fn (f : FuncId) (cap : List AV)
  | nilf
  | agg (cs : List AV)
  | tup (cs : List AV)
  | ref (cs : List AV)
deriving Inhabited

def AV.cells : AV → List AV
  | .agg cs => cs
  | x => [x]

mutual
/-- No part names a block of the call's own. -/
def AV.closed : AV → Bool
  | .ptr _ _ => false
  | .row _ => false
  | .elt _ _ _ _ => false
  | .fn _ cap => AV.closedL cap
  | .agg cs => AV.closedL cs
  | .tup cs => AV.closedL cs
  | _ => true
def AV.closedL : List AV → Bool
  | [] => true
  | x :: r => x.closed && AV.closedL r
end
theorem AV.closedL_at {l : List AV} (h : AV.closedL l = true) (i : Nat) (hi : i < l.length) : l[i].closed = true := by
  induction l generalizing i with
  | nil => simp at hi
  | cons x r ih =>
    simp only [AV.closedL, Bool.and_eq_true] at h
    cases i with
    | zero => exact h.1
    | succ i => exact ih h.2 i (by simpa using hi)

/-- What a name of a block of the call's own stands for: absent; dead; or a block and a slice's value. -/
abbrev Gam := Nat → Option (Option (Option Nat × Value))
def G0 : Gam := fun _ => none

inductive Rep (w : World) (S : Nat → Prop) : Gam → AV → Value → Prop
  | any {γ : Gam} (v : Value) : Rep w S γ .any v
  | int {γ : Gam} (k : IntKind) (n : Int) : Rep w S γ (.int k n) (.int k n)
  | bool {γ : Gam} (b : Bool) : Rep w S γ (.bool b) (.bool b)
  | str {γ : Gam} (s : ByteArray) : Rep w S γ (.str s) (.string s)
  | nilp {γ : Gam} : Rep w S γ .nilp (.pointer none)
  | ptr {γ : Gam} {id off : Nat} {v : Value} {d : Option (Option Nat × Value)} (h : γ id = some d) (hv : ∀ g s, d = some (some g, s) → v = .pointer (some ⟨g, off, none⟩)) : Rep w S γ (.ptr id off) v
  | elt {γ : Gam} {id sz k j : Nat} {v : Value} {d : Option (Option Nat × Value)} (h : γ id = some d) (hv : ∀ g s, d = some (some g, s) → v = .pointer (some ⟨g, k * sz + j, none⟩)) : Rep w S γ (.elt id sz k j) v
  | nils {γ : Gam} : Rep w S γ .nils (.slice none 0 0)
  | sl {γ : Gam} {sz : Nat} {xs : List AV} (A : Option Addr) (c : Nat) (cell : Nat → Nat → Value) (hc : xs.length ≤ c) (hlen : ∀ k (hk : k < xs.length), (xs[k]).cells.length = sz)
      (hb : 0 < xs.length → ∃ b off, A = some ⟨b, off, none⟩ ∧ S b ∧ b < w.heap.size ∧ ∀ k j, k < xs.length → j < sz → w.cell? ⟨b, off + (k * sz + j), none⟩ = some (cell k j))
      (hr : ∀ k (hk : k < xs.length) j (hj : j < (xs[k]).cells.length), Rep w S G0 ((xs[k]).cells[j]) (cell k j)) (h1 : ∀ k j, (cell k j).oneCell' = true) : Rep w S γ (.sl sz xs) (.slice A xs.length c)
  | row {γ : Gam} {id : Nat} {v : Value} {d : Option (Option Nat × Value)} (h : γ id = some d) (hv : ∀ g s, d = some (g, s) → v = s) : Rep w S γ (.row id) v
  | fn {γ : Gam} {f : FuncId} {cap : List AV} (vs : Array Value) (hl : vs.size = cap.length) (hr : ∀ i (hi : i < cap.length), Rep w S γ cap[i] (vs.getD i undef)) : Rep w S γ (.fn f cap) (.func (.func f) #[] vs)
  | nilf {γ : Gam} : Rep w S γ .nilf .nilFunc
  | agg {γ : Gam} {cs : List AV} (vs : Array Value) (hl : vs.size = cs.length) (hr : ∀ i (hi : i < cs.length), Rep w S γ cs[i] (vs.getD i undef)) (h1 : ∀ i, i < vs.size → (vs.getD i undef).oneCell' = true) : Rep w S γ (.agg cs) (.agg vs)
  | tup {γ : Gam} {cs : List AV} (vs : Array Value) (hl : vs.size = cs.length) (hr : ∀ i (hi : i < cs.length), Rep w S γ cs[i] (vs.getD i undef)) : Rep w S γ (.tup cs) (.tuple vs)
  | ref {γ : Gam} {cs : List AV} (b off : Nat) (cell : Nat → Value) (hS : S b) (hb : b < w.heap.size) (hc : ∀ j, j < cs.length → w.cell? ⟨b, off + j, none⟩ = some (cell j))
      (hr : ∀ j (hj : j < cs.length), Rep w S G0 cs[j] (cell j)) (h1 : ∀ j, j < cs.length → (cell j).oneCell' = true) : Rep w S γ (.ref cs) (.pointer (some ⟨b, off, none⟩))

section
variable {w w' : World} {S S' : Nat → Prop} {γ γ' : Gam} {av : AV} {v : Value}

theorem Rep.mono (h : Rep w S γ av v) (hz : w.heap.size ≤ w'.heap.size) (hk : ∀ b, S b → b < w.heap.size → w'.heap[b]? = w.heap[b]? ∧ S' b) : Rep w' S' γ av v := by
  induction h with
  | any => exact .any _
  | int => exact .int _ _
  | bool => exact .bool _
  | str => exact .str _
  | nilp => exact .nilp
  | ptr h hv => exact .ptr h hv
  | elt h hv => exact .elt h hv
  | nils => exact .nils
  | sl A c cell hc hlen hb hr h1 ih =>
    refine .sl A c cell hc hlen (fun h0 => ?_) (fun k hk j hj => ih k hk j hj) h1
    obtain ⟨b, off, hA, hS, hlt, hcell⟩ := hb h0
    obtain ⟨e, hS'⟩ := hk b hS hlt
    exact ⟨b, off, hA, hS', Nat.lt_of_lt_of_le hlt hz, fun k j h1 h2 => (World.cell?_of_block (w := w) (a := ⟨b, _, none⟩) e).trans (hcell k j h1 h2)⟩
  | row h hv => exact .row h hv
  | fn vs hl hr ih => exact .fn vs hl ih
  | nilf => exact .nilf
  | agg vs hl hr h1 ih => exact .agg vs hl ih h1
  | tup vs hl hr ih => exact .tup vs hl ih
  | ref b off cell hS hb hc hr h1 ih =>
    obtain ⟨e, hS'⟩ := hk b hS hb
    exact .ref b off cell hS' (Nat.lt_of_lt_of_le hb hz) (fun j hj => (World.cell?_of_block (w := w) (a := ⟨b, _, none⟩) e).trans (hc j hj)) ih h1

theorem Rep.gam (h : Rep w S γ av v) (hg : ∀ id d, γ id = some d → γ' id = some d ∨ γ' id = some none) : Rep w S γ' av v := by
  induction h with
  | any => exact .any _
  | int => exact .int _ _
  | bool => exact .bool _
  | str => exact .str _
  | nilp => exact .nilp
  | ptr h hv =>
    rcases hg _ _ h with h' | h'
    · exact .ptr h' hv
    · exact .ptr h' (fun g s e => by cases e)
  | elt h hv =>
    rcases hg _ _ h with h' | h'
    · exact .elt h' hv
    · exact .elt h' (fun g s e => by cases e)
  | nils => exact .nils
  | sl A c cell hc hlen hb hr h1 ih => exact .sl A c cell hc hlen hb hr h1
  | row h hv =>
    rcases hg _ _ h with h' | h'
    · exact .row h' hv
    · exact .row h' (fun g s e => by cases e)
  | fn vs hl hr ih => exact .fn vs hl (fun i hi => ih i hi hg)
  | nilf => exact .nilf
  | agg vs hl hr h1 ih => exact .agg vs hl (fun i hi => ih i hi hg) h1
  | tup vs hl hr ih => exact .tup vs hl (fun i hi => ih i hi hg)
  | ref b off cell hS hb hc hr h1 ih => exact .ref b off cell hS hb hc hr h1

theorem Rep.open_ (h : Rep w S G0 av v) : Rep w S γ' av v := h.gam (fun id d h => by cases h)
theorem Rep.close (h : Rep w S γ av v) (hcl : av.closed = true) : Rep w S γ' av v := by
  induction h with
  | any => exact .any _
  | int => exact .int _ _
  | bool => exact .bool _
  | str => exact .str _
  | nilp => exact .nilp
  | ptr h hv => simp [AV.closed] at hcl
  | elt h hv => simp [AV.closed] at hcl
  | nils => exact .nils
  | sl A c cell hc hlen hb hr h1 ih => exact .sl A c cell hc hlen hb hr h1
  | row h hv => simp [AV.closed] at hcl
  | fn vs hl hr ih => simp only [AV.closed] at hcl; exact .fn vs hl (fun i hi => ih i hi (AV.closedL_at hcl i hi))
  | nilf => exact .nilf
  | agg vs hl hr h1 ih => simp only [AV.closed] at hcl; exact .agg vs hl (fun i hi => ih i hi (AV.closedL_at hcl i hi)) h1
  | tup vs hl hr ih => simp only [AV.closed] at hcl; exact .tup vs hl (fun i hi => ih i hi (AV.closedL_at hcl i hi))
  | ref b off cell hS hb hc hr h1 ih => exact .ref b off cell hS hb hc hr h1

/-- A value that lies in one cell. -/
def AV.one : AV → Bool
  | .any | .agg _ | .tup _ | .ptr _ _ | .row _ | .elt _ _ _ _ => false
  | _ => true
theorem Rep.one (h : Rep w S γ av v) (h1 : av.one = true) : v.oneCell' = true := by
  cases h <;> first | rfl | simp [AV.one] at h1

theorem Rep.int_inv {k : IntKind} {n : Int} (h : Rep w S γ (.int k n) v) : v = .int k n := by cases h; rfl
theorem Rep.bool_inv {b : Bool} (h : Rep w S γ (.bool b) v) : v = .bool b := by cases h; rfl
theorem Rep.str_inv {s : ByteArray} (h : Rep w S γ (.str s) v) : v = .string s := by cases h; rfl
theorem Rep.ptr_inv {id off g : Nat} {s : Value} (h : Rep w S γ (.ptr id off) v) (hg : γ id = some (some (some g, s))) : v = .pointer (some ⟨g, off, none⟩) := by
  cases h with
  | ptr h hv => rw [hg] at h; injection h with h; exact hv g s h.symm
theorem Rep.elt_inv {id sz k j g : Nat} {s : Value} (h : Rep w S γ (.elt id sz k j) v) (hg : γ id = some (some (some g, s))) : v = .pointer (some ⟨g, k * sz + j, none⟩) := by
  cases h with
  | elt h hv => rw [hg] at h; injection h with h; exact hv g s h.symm
theorem Rep.nils_inv (h : Rep w S γ .nils v) : v = .slice none 0 0 := by cases h; rfl
theorem Rep.ref_inv {cs : List AV} (h : Rep w S γ (.ref cs) v) : ∃ b off, v = .pointer (some ⟨b, off, none⟩) ∧ S b ∧ b < w.heap.size ∧ ∃ cell : Nat → Value, (∀ j, j < cs.length → w.cell? ⟨b, off + j, none⟩ = some (cell j)) ∧ (∀ j (hj : j < cs.length), Rep w S G0 cs[j] (cell j)) ∧ ∀ j, j < cs.length → (cell j).oneCell' = true := by
  cases h with
  | ref b off cell hS hb hc hr h1 => exact ⟨b, off, rfl, hS, hb, cell, hc, hr, h1⟩
theorem Rep.row_inv {id : Nat} {g : Option Nat} {s : Value} (h : Rep w S γ (.row id) v) (hg : γ id = some (some (g, s))) : v = s := by
  cases h with
  | row h hv => rw [hg] at h; injection h with h; exact hv g s h.symm
theorem Rep.agg_inv {cs : List AV} (h : Rep w S γ (.agg cs) v) : ∃ vs : Array Value, v = .agg vs ∧ vs.size = cs.length ∧ (∀ i (hi : i < cs.length), Rep w S γ cs[i] (vs.getD i undef)) ∧ ∀ i, i < vs.size → (vs.getD i undef).oneCell' = true := by
  cases h with
  | agg vs hl hr h1 => exact ⟨vs, rfl, hl, hr, h1⟩
theorem Rep.tup_inv {cs : List AV} (h : Rep w S γ (.tup cs) v) : ∃ vs : Array Value, v = .tuple vs ∧ vs.size = cs.length ∧ ∀ i (hi : i < cs.length), Rep w S γ cs[i] (vs.getD i undef) := by
  cases h with
  | tup vs hl hr => exact ⟨vs, rfl, hl, hr⟩
theorem Rep.fn_inv {f : FuncId} {cs : List AV} (h : Rep w S γ (.fn f cs) v) : ∃ vs : Array Value, v = .func (.func f) #[] vs ∧ vs.size = cs.length ∧ ∀ i (hi : i < cs.length), Rep w S γ cs[i] (vs.getD i undef) := by
  cases h with
  | fn vs hl hr => exact ⟨vs, rfl, hl, hr⟩
theorem Rep.sl_inv {sz : Nat} {xs : List AV} (h : Rep w S γ (.sl sz xs) v) : ∃ A c, v = .slice A xs.length c ∧ xs.length ≤ c ∧ (∀ k (hk : k < xs.length), (xs[k]).cells.length = sz) ∧
    ∃ cell : Nat → Nat → Value, (0 < xs.length → ∃ b off, A = some ⟨b, off, none⟩ ∧ S b ∧ b < w.heap.size ∧ ∀ k j, k < xs.length → j < sz → w.cell? ⟨b, off + (k * sz + j), none⟩ = some (cell k j)) ∧
      (∀ k (hk : k < xs.length) j (hj : j < (xs[k]).cells.length), Rep w S G0 ((xs[k]).cells[j]) (cell k j)) ∧ ∀ k j, (cell k j).oneCell' = true := by
  cases h with
  | sl A c cell hc hlen hb hr h1 => exact ⟨A, c, rfl, hc, hlen, cell, hb, hr, h1⟩
end
end Go.Proofs.Ytdbapaofibgfcaa
