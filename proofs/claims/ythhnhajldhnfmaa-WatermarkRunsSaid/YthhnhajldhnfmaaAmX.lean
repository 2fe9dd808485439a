/- The abstract walk, first part: values that stand for Go's values, and what they stand for in a world. The abstract walk, second part: states, and regions in whatever order they are run. The abstract walk, third part: statements, and what an operation is asked. The abstract walk, fourth part: the operations, one rule each. The abstract walk, fifth part: memory. The abstract walk, sixth part: slices, aggregates, closures, calls. The abstract walk, seventh part: literals, slicing, append, make, closures. -/
import Derived.Test.YthhnhajldhnfmaaBase
import Derived.Orders
import Derived.Laws.Tables
import Derived.Laws.MakeOwn
set_option linter.unusedVariables false
set_option linter.unusedSimpArgs false
namespace Go.Proofs.Ythhnhajldhnfmaa
open Go.RowKit

inductive AV where
  | any
  | int (k : IntKind) (n : Int)
  | bool (b : Bool)
  | str (s : ByteArray)
  | nilp
  | ptr (id off : Nat)
  | nils
  | sl (sz : Nat) (xs : List AV)
  | row (id : Nat)
  | elt (id sz k j : Nat)
  | fn (f : FuncId) (cap : List AV)
  | nilf
  | agg (cs : List AV)
  | tup (cs : List AV)
  | ref (cs : List AV)
deriving Inhabited

def AV.cells : AV → List AV
  | .agg cs => cs
  | x => [x]

mutual
/-- No part names a block of the call's own. -/
def AV.closed : AV → Bool
  | .ptr _ _ => false
  | .row _ => false
  | .elt _ _ _ _ => false
  | .fn _ cap => AV.closedL cap
  | .agg cs => AV.closedL cs
  | .tup cs => AV.closedL cs
  | _ => true
def AV.closedL : List AV → Bool
  | [] => true
  | x :: r => x.closed && AV.closedL r
end
theorem AV.closedL_at {l : List AV} (h : AV.closedL l = true) (i : Nat) (hi : i < l.length) : l[i].closed = true := by
  induction l generalizing i with
  | nil => simp at hi
  | cons x r ih =>
    simp only [AV.closedL, Bool.and_eq_true] at h
    cases i with
    | zero => exact h.1
    | succ i => exact ih h.2 i (by simpa using hi)

/-- What a name of a block of the call's own stands for: absent; dead; or a block and a slice's value. -/
abbrev Gam := Nat → Option (Option (Option Nat × Value))
def G0 : Gam := fun _ => none

inductive Rep (w : World) (S : Nat → Prop) : Gam → AV → Value → Prop
  | any {γ : Gam} (v : Value) : Rep w S γ .any v
  | int {γ : Gam} (k : IntKind) (n : Int) : Rep w S γ (.int k n) (.int k n)
  | bool {γ : Gam} (b : Bool) : Rep w S γ (.bool b) (.bool b)
  | str {γ : Gam} (s : ByteArray) : Rep w S γ (.str s) (.string s)
  | nilp {γ : Gam} : Rep w S γ .nilp (.pointer none)
  | ptr {γ : Gam} {id off : Nat} {v : Value} {d : Option (Option Nat × Value)} (h : γ id = some d) (hv : ∀ g s, d = some (some g, s) → v = .pointer (some ⟨g, off, none⟩)) : Rep w S γ (.ptr id off) v
  | elt {γ : Gam} {id sz k j : Nat} {v : Value} {d : Option (Option Nat × Value)} (h : γ id = some d) (hv : ∀ g s, d = some (some g, s) → v = .pointer (some ⟨g, k * sz + j, none⟩)) : Rep w S γ (.elt id sz k j) v
  | nils {γ : Gam} : Rep w S γ .nils (.slice none 0 0)
  | sl {γ : Gam} {sz : Nat} {xs : List AV} (A : Option Addr) (c : Nat) (cell : Nat → Nat → Value) (hc : xs.length ≤ c) (hlen : ∀ k (hk : k < xs.length), (xs[k]).cells.length = sz)
      (hb : 0 < xs.length → ∃ b off, A = some ⟨b, off, none⟩ ∧ S b ∧ b < w.heap.size ∧ ∀ k j, k < xs.length → j < sz → w.cell? ⟨b, off + (k * sz + j), none⟩ = some (cell k j))
      (hr : ∀ k (hk : k < xs.length) j (hj : j < (xs[k]).cells.length), Rep w S G0 ((xs[k]).cells[j]) (cell k j)) (h1 : ∀ k j, (cell k j).oneCell' = true) : Rep w S γ (.sl sz xs) (.slice A xs.length c)
  | row {γ : Gam} {id : Nat} {v : Value} {d : Option (Option Nat × Value)} (h : γ id = some d) (hv : ∀ g s, d = some (g, s) → v = s) : Rep w S γ (.row id) v
  | fn {γ : Gam} {f : FuncId} {cap : List AV} (vs : Array Value) (hl : vs.size = cap.length) (hr : ∀ i (hi : i < cap.length), Rep w S γ cap[i] (vs.getD i undef)) : Rep w S γ (.fn f cap) (.func (.func f) #[] vs)
  | nilf {γ : Gam} : Rep w S γ .nilf .nilFunc
  | agg {γ : Gam} {cs : List AV} (vs : Array Value) (hl : vs.size = cs.length) (hr : ∀ i (hi : i < cs.length), Rep w S γ cs[i] (vs.getD i undef)) (h1 : ∀ i, i < vs.size → (vs.getD i undef).oneCell' = true) : Rep w S γ (.agg cs) (.agg vs)
  | tup {γ : Gam} {cs : List AV} (vs : Array Value) (hl : vs.size = cs.length) (hr : ∀ i (hi : i < cs.length), Rep w S γ cs[i] (vs.getD i undef)) : Rep w S γ (.tup cs) (.tuple vs)
  | ref {γ : Gam} {cs : List AV} (b off : Nat) (cell : Nat → Value) (hS : S b) (hb : b < w.heap.size) (hc : ∀ j, j < cs.length → w.cell? ⟨b, off + j, none⟩ = some (cell j))
      (hr : ∀ j (hj : j < cs.length), Rep w S G0 cs[j] (cell j)) (h1 : ∀ j, j < cs.length → (cell j).oneCell' = true) : Rep w S γ (.ref cs) (.pointer (some ⟨b, off, none⟩))

section
variable {w w' : World} {S S' : Nat → Prop} {γ γ' : Gam} {av : AV} {v : Value}

theorem Rep.mono (h : Rep w S γ av v) (hz : w.heap.size ≤ w'.heap.size) (hk : ∀ b, S b → b < w.heap.size → w'.heap[b]? = w.heap[b]? ∧ S' b) : Rep w' S' γ av v := by
  induction h with
  | any => exact .any _
  | int => exact .int _ _
  | bool => exact .bool _
  | str => exact .str _
  | nilp => exact .nilp
  | ptr h hv => exact .ptr h hv
  | elt h hv => exact .elt h hv
  | nils => exact .nils
  | sl A c cell hc hlen hb hr h1 ih =>
    refine .sl A c cell hc hlen (fun h0 => ?_) (fun k hk j hj => ih k hk j hj) h1
    obtain ⟨b, off, hA, hS, hlt, hcell⟩ := hb h0
    obtain ⟨e, hS'⟩ := hk b hS hlt
    exact ⟨b, off, hA, hS', Nat.lt_of_lt_of_le hlt hz, fun k j h1 h2 => (World.cell?_of_block (w := w) (a := ⟨b, _, none⟩) e).trans (hcell k j h1 h2)⟩
  | row h hv => exact .row h hv
  | fn vs hl hr ih => exact .fn vs hl ih
  | nilf => exact .nilf
  | agg vs hl hr h1 ih => exact .agg vs hl ih h1
  | tup vs hl hr ih => exact .tup vs hl ih
  | ref b off cell hS hb hc hr h1 ih =>
    obtain ⟨e, hS'⟩ := hk b hS hb
    exact .ref b off cell hS' (Nat.lt_of_lt_of_le hb hz) (fun j hj => (World.cell?_of_block (w := w) (a := ⟨b, _, none⟩) e).trans (hc j hj)) ih h1

theorem Rep.gam (h : Rep w S γ av v) (hg : ∀ id d, γ id = some d → γ' id = some d ∨ γ' id = some none) : Rep w S γ' av v := by
  induction h with
  | any => exact .any _
  | int => exact .int _ _
  | bool => exact .bool _
  | str => exact .str _
  | nilp => exact .nilp
  | ptr h hv =>
    rcases hg _ _ h with h' | h'
    · exact .ptr h' hv
    · exact .ptr h' (fun g s e => by cases e)
  | elt h hv =>
    rcases hg _ _ h with h' | h'
    · exact .elt h' hv
    · exact .elt h' (fun g s e => by cases e)
  | nils => exact .nils
  | sl A c cell hc hlen hb hr h1 ih => exact .sl A c cell hc hlen hb hr h1
  | row h hv =>
    rcases hg _ _ h with h' | h'
    · exact .row h' hv
    · exact .row h' (fun g s e => by cases e)
  | fn vs hl hr ih => exact .fn vs hl (fun i hi => ih i hi hg)
  | nilf => exact .nilf
  | agg vs hl hr h1 ih => exact .agg vs hl (fun i hi => ih i hi hg) h1
  | tup vs hl hr ih => exact .tup vs hl (fun i hi => ih i hi hg)
  | ref b off cell hS hb hc hr h1 ih => exact .ref b off cell hS hb hc hr h1

theorem Rep.open_ (h : Rep w S G0 av v) : Rep w S γ' av v := h.gam (fun id d h => by cases h)
theorem Rep.close (h : Rep w S γ av v) (hcl : av.closed = true) : Rep w S γ' av v := by
  induction h with
  | any => exact .any _
  | int => exact .int _ _
  | bool => exact .bool _
  | str => exact .str _
  | nilp => exact .nilp
  | ptr h hv => simp [AV.closed] at hcl
  | elt h hv => simp [AV.closed] at hcl
  | nils => exact .nils
  | sl A c cell hc hlen hb hr h1 ih => exact .sl A c cell hc hlen hb hr h1
  | row h hv => simp [AV.closed] at hcl
  | fn vs hl hr ih => simp only [AV.closed] at hcl; exact .fn vs hl (fun i hi => ih i hi (AV.closedL_at hcl i hi))
  | nilf => exact .nilf
  | agg vs hl hr h1 ih => simp only [AV.closed] at hcl; exact .agg vs hl (fun i hi => ih i hi (AV.closedL_at hcl i hi)) h1
  | tup vs hl hr ih => simp only [AV.closed] at hcl; exact .tup vs hl (fun i hi => ih i hi (AV.closedL_at hcl i hi))
  | ref b off cell hS hb hc hr h1 ih => exact .ref b off cell hS hb hc hr h1

/-- A value that lies in one cell. -/
def AV.one : AV → Bool
  | .any | .agg _ | .tup _ | .ptr _ _ | .row _ | .elt _ _ _ _ => false
  | _ => true
theorem Rep.one (h : Rep w S γ av v) (h1 : av.one = true) : v.oneCell' = true := by
  cases h <;> first | rfl | simp [AV.one] at h1

theorem Rep.int_inv {k : IntKind} {n : Int} (h : Rep w S γ (.int k n) v) : v = .int k n := by cases h; rfl
theorem Rep.bool_inv {b : Bool} (h : Rep w S γ (.bool b) v) : v = .bool b := by cases h; rfl
theorem Rep.str_inv {s : ByteArray} (h : Rep w S γ (.str s) v) : v = .string s := by cases h; rfl
theorem Rep.ptr_inv {id off g : Nat} {s : Value} (h : Rep w S γ (.ptr id off) v) (hg : γ id = some (some (some g, s))) : v = .pointer (some ⟨g, off, none⟩) := by
  cases h with
  | ptr h hv => rw [hg] at h; injection h with h; exact hv g s h.symm
theorem Rep.elt_inv {id sz k j g : Nat} {s : Value} (h : Rep w S γ (.elt id sz k j) v) (hg : γ id = some (some (some g, s))) : v = .pointer (some ⟨g, k * sz + j, none⟩) := by
  cases h with
  | elt h hv => rw [hg] at h; injection h with h; exact hv g s h.symm
theorem Rep.nils_inv (h : Rep w S γ .nils v) : v = .slice none 0 0 := by cases h; rfl
theorem Rep.ref_inv {cs : List AV} (h : Rep w S γ (.ref cs) v) : ∃ b off, v = .pointer (some ⟨b, off, none⟩) ∧ S b ∧ b < w.heap.size ∧ ∃ cell : Nat → Value, (∀ j, j < cs.length → w.cell? ⟨b, off + j, none⟩ = some (cell j)) ∧ (∀ j (hj : j < cs.length), Rep w S G0 cs[j] (cell j)) ∧ ∀ j, j < cs.length → (cell j).oneCell' = true := by
  cases h with
  | ref b off cell hS hb hc hr h1 => exact ⟨b, off, rfl, hS, hb, cell, hc, hr, h1⟩
theorem Rep.row_inv {id : Nat} {g : Option Nat} {s : Value} (h : Rep w S γ (.row id) v) (hg : γ id = some (some (g, s))) : v = s := by
  cases h with
  | row h hv => rw [hg] at h; injection h with h; exact hv g s h.symm
theorem Rep.agg_inv {cs : List AV} (h : Rep w S γ (.agg cs) v) : ∃ vs : Array Value, v = .agg vs ∧ vs.size = cs.length ∧ (∀ i (hi : i < cs.length), Rep w S γ cs[i] (vs.getD i undef)) ∧ ∀ i, i < vs.size → (vs.getD i undef).oneCell' = true := by
  cases h with
  | agg vs hl hr h1 => exact ⟨vs, rfl, hl, hr, h1⟩
theorem Rep.tup_inv {cs : List AV} (h : Rep w S γ (.tup cs) v) : ∃ vs : Array Value, v = .tuple vs ∧ vs.size = cs.length ∧ ∀ i (hi : i < cs.length), Rep w S γ cs[i] (vs.getD i undef) := by
  cases h with
  | tup vs hl hr => exact ⟨vs, rfl, hl, hr⟩
theorem Rep.fn_inv {f : FuncId} {cs : List AV} (h : Rep w S γ (.fn f cs) v) : ∃ vs : Array Value, v = .func (.func f) #[] vs ∧ vs.size = cs.length ∧ ∀ i (hi : i < cs.length), Rep w S γ cs[i] (vs.getD i undef) := by
  cases h with
  | fn vs hl hr => exact ⟨vs, rfl, hl, hr⟩
theorem Rep.sl_inv {sz : Nat} {xs : List AV} (h : Rep w S γ (.sl sz xs) v) : ∃ A c, v = .slice A xs.length c ∧ xs.length ≤ c ∧ (∀ k (hk : k < xs.length), (xs[k]).cells.length = sz) ∧
    ∃ cell : Nat → Nat → Value, (0 < xs.length → ∃ b off, A = some ⟨b, off, none⟩ ∧ S b ∧ b < w.heap.size ∧ ∀ k j, k < xs.length → j < sz → w.cell? ⟨b, off + (k * sz + j), none⟩ = some (cell k j)) ∧
      (∀ k (hk : k < xs.length) j (hj : j < (xs[k]).cells.length), Rep w S G0 ((xs[k]).cells[j]) (cell k j)) ∧ ∀ k j, (cell k j).oneCell' = true := by
  cases h with
  | sl A c cell hc hlen hb hr h1 => exact ⟨A, c, rfl, hc, hlen, cell, hb, hr, h1⟩
end
end Go.Proofs.Ythhnhajldhnfmaa
namespace Go.Proofs.Ythhnhajldhnfmaa
open Go.RowKit

/-- What lies in a block of the call's own. -/
inductive Ent where
  | box (ty : TypeId) (cells : List AV)
  | row (ty : TypeId) (sz : Nat) (xs : List AV)
  | dead
deriving Inhabited

structure AS where
  tm : List (Nat × AV)
  me : List (Nat × Ent)
deriving Inhabited

def lkV : List (Nat × AV) → Nat → AV
  | [], _ => .any
  | (u, x) :: r, t => match Nat.beq u t with | true => x | false => lkV r t
def lkE : List (Nat × Ent) → Nat → Option Ent
  | [], _ => none
  | (u, x) :: r, t => match Nat.beq u t with | true => some x | false => lkE r t
def AS.get (σ : AS) (t : Nat) : AV := lkV σ.tm t
def AS.find (σ : AS) (i : Nat) : Option Ent := lkE σ.me i
def putD (d : Option Nat) (v : AV) (l : List (Nat × AV)) : List (Nat × AV) := match d with | some d => (d, v) :: l | none => l
def AS.upd (σ : AS) (dst : Option Nat) (v : AV) (wr : List (Nat × Ent)) : AS := ⟨putD dst v σ.tm, wr ++ σ.me⟩

theorem AS.get_upd (σ : AS) (dst : Option Nat) (v : AV) (wr : List (Nat × Ent)) (t : Nat) : (σ.upd dst v wr).get t = if dst = some t then v else σ.get t := by
  cases dst with
  | none => simp [AS.upd, AS.get, putD]
  | some d =>
    simp only [AS.upd, AS.get, putD, lkV, Option.some.injEq]
    by_cases h : d = t
    · subst h; simp
    · rw [if_neg h]
      have : Nat.beq d t = false := by
        cases hb : Nat.beq d t with
        | false => rfl
        | true => exact absurd (Nat.eq_of_beq_eq_true hb) h
      rw [this]
theorem lkE_append (l m : List (Nat × Ent)) (i : Nat) : lkE (l ++ m) i = (lkE l i).or (lkE m i) := by
  induction l with
  | nil => simp [lkE]
  | cons x r ih =>
    obtain ⟨u, e⟩ := x
    simp only [List.cons_append, lkE]
    cases h : Nat.beq u i <;> simp [ih]
theorem AS.find_upd (σ : AS) (dst : Option Nat) (v : AV) (wr : List (Nat × Ent)) (i : Nat) : (σ.upd dst v wr).find i = (lkE wr i).or (σ.find i) := lkE_append _ _ _

/-- The blocks of the call's own. -/
def own (γ : Gam) (b : Nat) : Prop := ∃ id s, γ id = some (some (some b, s))
/-- The blocks that no one turns while the call runs: those that were read from (S0), and the call's own that have no name. -/
def Nw (S0 : Nat → Prop) (B b : Nat) : Prop := B ≤ b ∧ ¬ S0 b
def Sg (S0 : Nat → Prop) (B : Nat) (γ : Gam) (b : Nat) : Prop := (S0 b ∧ b < B) ∨ (Nw S0 B b ∧ ¬ own γ b)

def EntRep (w : World) (S : Nat → Prop) (γ : Gam) (B : Nat) (d : Option (Option Nat × Value)) : Ent → Prop
  | .box ty cells => ∃ g vs, d = some (some g, .slice none 0 0) ∧ Blk w g ty vs ∧ vs.size = cells.length ∧ (∀ i (hi : i < cells.length), Rep w S γ cells[i] (vs.getD i undef)) ∧ ∀ i, i < vs.size → (vs.getD i undef).oneCell' = true
  | .row ty sz xs => ∃ s vs, d = some (s.ownBlock, s) ∧ s.oneCell' = true ∧ w.ownsRow B ty sz s xs.length vs ∧ (∀ k (hk : k < xs.length), (xs[k]).cells.length = sz) ∧
      (∀ k (hk : k < xs.length) j (hj : j < (xs[k]).cells.length), Rep w S G0 ((xs[k]).cells[j]) (vs.getD (k * sz + j) undef)) ∧ ∀ u ∈ vs, u.oneCell' = true
  | .dead => d = none

/-! ### What the walk knows of the program's types -/
inductive Shape where
  | strct (fs : List (Nat × Nat × Option Bool))
  | arr (n e esz : Nat) (eagg : Option Bool)
  | slc (e esz ebytes : Nat)
  | str
  | bool
  | int (k : IntKind)
  | other
structure TyI where
  sz : Nat
  bytes : Nat
  zero : Value
  shape : Shape
def aggT (P : Program) (t : TypeId) : Option Bool := match P.underlying t with | some (.struct _) => some true | some (.array _ _) => some true | some _ => some false | none => none
def shapeOf (P : Program) : TypeDesc → Shape
  | .struct fs => .strct (fs.toList.map fun f => (f.offset, P.cellsOf f.type, aggT P f.type))
  | .array n e => .arr n e (P.cellsOf e) (aggT P e)
  | .slice e => .slc e (P.cellsOf e) (P.bytesOf e)
  | .string => .str
  | .bool => .bool
  | .int k => .int k
  | _ => .other
structure TyOk (P : Program) (T : TypeId) (i : TyI) : Prop where
  info : (P.info? T).map (fun x => (x.size, x.bytes)) = some (i.sz, i.bytes)
  zero : (P.info? T).bind (·.zero) = some i.zero
  shape : (P.underlying T).map (shapeOf P) = some i.shape
def lkT : List (Nat × TyI) → Nat → Option TyI
  | [], _ => none
  | (u, x) :: r, t => match Nat.beq u t with | true => some x | false => lkT r t
structure Env where
  P : Program
  tab : List (Nat × TyI)
  ok : ∀ T i, lkT tab T = some i → TyOk P T i
  mixed : P.follows .mixedOrders = true

/-- What stays fixed while a call is walked. -/
structure Cx where
  E : Env
  S0 : Nat → Prop
  w0 : World
  nt : Nat
  Fr : Nat → Prop
  w1 : World
def Cx.call (E : Env) (S : Nat → Prop) (w : World) (nt : Nat) : Cx := ⟨E, fun b => S b ∧ b < w.heap.size, w, nt, fun _ => False, w⟩
abbrev Cx.P (cx : Cx) : Program := cx.E.P

def MeOk (w : World) (S : Nat → Prop) (γ : Gam) (B : Nat) (d : Option (Option (Option Nat × Value))) : Option Ent → Prop
  | none => d = none
  | some e => ∃ x, d = some x ∧ EntRep w S γ B x e

structure StG (cx : Cx) (γ : Gam) (σ : AS) (a : Act) (w : World) : Prop where
  tm : ∀ t, Rep w (Sg cx.S0 cx.w0.heap.size γ) γ (σ.get t) (a.tmps.getD t undef)
  me : ∀ id, MeOk w (Sg cx.S0 cx.w0.heap.size γ) γ cx.w0.heap.size (γ id) (σ.find id)
  inj : ∀ id id' b s s', γ id = some (some (some b, s)) → γ id' = some (some (some b, s')) → id = id'
  ge : ∀ b, own γ b → Nw cx.S0 cx.w0.heap.size b ∧ b < w.heap.size
  below : Below cx.w0.heap.size cx.w0 w
  size : a.tmps.size = cx.nt
  defers : a.defers = []
  gh : ∀ b, cx.S0 b → b < w.heap.size
  fr : ∀ b, cx.Fr b → ¬ own γ b ∧ b < w.heap.size ∧ w.heap[b]? = cx.w1.heap[b]?
def St (cx : Cx) (σ : AS) (a : Act) (w : World) : Prop := ∃ γ, StG cx γ σ a w

theorem St.congr {cx : Cx} {σ τ : AS} {a : Act} {w : World} (h : St cx σ a w) (h1 : ∀ t, τ.get t = σ.get t) (h2 : ∀ i, τ.find i = σ.find i) : St cx τ a w := by
  obtain ⟨γ, h⟩ := h
  exact ⟨γ, fun t => by rw [h1]; exact h.tm t, fun i => by rw [h2]; exact h.me i, h.inj, h.ge, h.below, h.size, h.defers, h.gh, h.fr⟩

/-! ### Operations -/
structure Tr where
  val : AV
  ids : List Nat
  wr : List (Nat × Ent)
deriving Inhabited

def dstOf (ops : Array Oper) (i : Nat) : Option Nat := (ops[i]?).bind (·.dst)
def looks (ops : Array Oper) (i : Nat) : List Nat := match ops[i]? with | some o => o.looksAt ops | none => []

def OpSound (cx : Cx) (ops : Array Oper) (i : Nat) (σ σ' : AS) : Prop :=
  ∀ a w Q K, St cx σ a w → (∀ a' w', St cx σ' a' w' → K a' w') → wpOp cx.P ops Q i K a w
/-- Operation i, run in a state that is as σ where it looks, yields what tr says. -/
def Step (cx : Cx) (ops : Array Oper) (i : Nat) (σ : AS) (tr : Tr) : Prop :=
  (∀ id e, lkE tr.wr id = some e → id ∈ tr.ids) ∧
  ∀ τ : AS, (∀ t ∈ looks ops i, τ.get t = σ.get t) → (∀ id ∈ tr.ids, τ.find id = σ.find id) → OpSound cx ops i τ (τ.upd (dstOf ops i) tr.val tr.wr)

/-- Two ways to write one state. -/
def Ext (σ τ : AS) : Prop := (∀ t, σ.get t = τ.get t) ∧ ∀ i, σ.find i = τ.find i
theorem Ext.refl (σ : AS) : Ext σ σ := ⟨fun _ => rfl, fun _ => rfl⟩
theorem Ext.upd {σ τ : AS} (h : Ext σ τ) (d : Option Nat) (v : AV) (wr : List (Nat × Ent)) : Ext (σ.upd d v wr) (τ.upd d v wr) :=
  ⟨fun t => by rw [AS.get_upd, AS.get_upd, h.1], fun i => by rw [AS.find_upd, AS.find_upd, h.2]⟩
theorem Ext.trans {a b c : AS} (h : Ext a b) (k : Ext b c) : Ext a c := ⟨fun t => (h.1 t).trans (k.1 t), fun i => (h.2 i).trans (k.2 i)⟩
inductive Run (cx : Cx) (ops : Array Oper) : Nat → AS → List Tr → AS → Prop
  | done {i : Nat} {σ σ' : AS} (h : ops.size ≤ i) (hx : Ext σ' σ) : Run cx ops i σ [] σ'
  | step {i : Nat} {σ σ1 σ' : AS} {tr : Tr} {trs : List Tr} (h : i < ops.size) (hs : Step cx ops i σ tr) (hx : Ext σ1 (σ.upd (dstOf ops i) tr.val tr.wr)) (hr : Run cx ops (i + 1) σ1 trs σ') : Run cx ops i σ (tr :: trs) σ'

theorem wpOp_none {P : Program} {ops : Array Oper} {Q : Exit → Act → World → Prop} {i : Nat} {K : Act → World → Prop} {a : Act} {w : World} (h : ops.size ≤ i) (hk : K a w) : wpOp P ops Q i K a w := by
  unfold wpOp
  rw [Array.getElem?_eq_none h]
  exact hk

/-- In the order of the text. -/
theorem Run.wpOps {cx : Cx} {ops : Array Oper} {i : Nat} {σ σ' : AS} {trs : List Tr} (h : Run cx ops i σ trs σ') {Q : Exit → Act → World → Prop} (hQ : ∀ a w, St cx σ' a w → Q .normal a w) (hi : i ≤ ops.size) :
    ∀ a w, St cx σ a w → wpOps cx.P ops Q (List.range' i (ops.size - i)) a w := by
  induction h with
  | done h hx =>
    intro a w hs
    rw [show ops.size - _ = 0 by omega]
    exact hQ a w (hs.congr hx.1 hx.2)
  | @step i σ σ1 σ' tr trs h hstep hx hr ih =>
    intro a w hst
    rw [show ops.size - i = (ops.size - (i + 1)) + 1 by omega, List.range'_succ, wpOps_cons]
    exact hstep.2 σ (fun _ _ => rfl) (fun _ _ => rfl) a w Q _ hst (fun a' w' hs' => ih hQ (by omega) a' w' (hs'.congr hx.1 hx.2))

/-! ### Any order -/
section
variable (dst : Nat → Option Nat) (tr : Nat → Tr)
/-- The state behind those operations of the first k that X has. -/
def foldX (X : Nat → Bool) (σ : AS) : Nat → AS
  | 0 => σ
  | k + 1 => if X k = true then (foldX X σ k).upd (dst k) (tr k).val (tr k).wr else foldX X σ k
variable {dst tr}
theorem getX_succ (X : Nat → Bool) (σ : AS) (k t : Nat) : (foldX dst tr X σ (k + 1)).get t = if X k = true ∧ dst k = some t then (tr k).val else (foldX dst tr X σ k).get t := by
  unfold foldX
  by_cases h : X k = true
  · rw [if_pos h, AS.get_upd]
    by_cases h2 : dst k = some t
    · rw [if_pos h2, if_pos ⟨h, h2⟩]
    · rw [if_neg h2, if_neg (fun h3 => h2 h3.2)]; cases k <;> rfl
  · rw [if_neg h, if_neg (fun h3 => h h3.1)]; cases k <;> rfl
theorem findX_succ (X : Nat → Bool) (σ : AS) (k i : Nat) : (foldX dst tr X σ (k + 1)).find i = if X k = true then (lkE (tr k).wr i).or ((foldX dst tr X σ k).find i) else (foldX dst tr X σ k).find i := by
  conv => lhs; unfold foldX
  by_cases h : X k = true
  · rw [if_pos h, if_pos h, AS.find_upd]
  · rw [if_neg h, if_neg h]
theorem getX_same (X Y : Nat → Bool) (σ : AS) (k t : Nat) (h : ∀ j, j < k → dst j = some t → X j = Y j) : (foldX dst tr X σ k).get t = (foldX dst tr Y σ k).get t := by
  induction k with
  | zero => rfl
  | succ k ih =>
    rw [getX_succ, getX_succ, ih (fun j hj => h j (by omega))]
    by_cases hd : dst k = some t
    · rw [h k (by omega) hd]
    · rw [if_neg (fun h => hd h.2), if_neg (fun h => hd h.2)]
theorem getX_later (X : Nat → Bool) (σ : AS) (m k t : Nat) (hm : m ≤ k) (h : ∀ j, m ≤ j → j < k → dst j = some t → X j = false) : (foldX dst tr X σ k).get t = (foldX dst tr X σ m).get t := by
  induction k with
  | zero => rw [show m = 0 by omega]
  | succ k ih =>
    rcases Nat.lt_or_ge k m with h' | h'
    · rw [show m = k + 1 by omega]
    · rw [getX_succ, if_neg, ih h' (fun j h1 h2 => h j h1 (by omega))]
      rintro ⟨h1, h2⟩
      rw [h k h' (by omega) h2] at h1
      cases h1
theorem findX_same (X Y : Nat → Bool) (σ : AS) (k i : Nat) (h : ∀ j, j < k → lkE (tr j).wr i ≠ none → X j = Y j) : (foldX dst tr X σ k).find i = (foldX dst tr Y σ k).find i := by
  induction k with
  | zero => rfl
  | succ k ih =>
    rw [findX_succ, findX_succ, ih (fun j hj => h j (by omega))]
    cases hw : lkE (tr k).wr i with
    | none => simp
    | some e => rw [h k (by omega) (by simp [hw])]
theorem findX_later (X : Nat → Bool) (σ : AS) (m k i : Nat) (hm : m ≤ k) (h : ∀ j, m ≤ j → j < k → lkE (tr j).wr i ≠ none → X j = false) : (foldX dst tr X σ k).find i = (foldX dst tr X σ m).find i := by
  induction k with
  | zero => rw [show m = 0 by omega]
  | succ k ih =>
    rcases Nat.lt_or_ge k m with h' | h'
    · rw [show m = k + 1 by omega]
    · rw [findX_succ, ih h' (fun j h1 h2 => h j h1 (by omega))]
      cases hw : lkE (tr k).wr i with
      | none => simp
      | some e => rw [h k h' (by omega) (by simp [hw])]; simp
end

/-- 'k n', with n worked out first. -/
def forced {α : Type} (n : Nat) (k : Nat → α) : α := match n with | 0 => k 0 | m + 1 => k (m + 1)
theorem forced_eq {α : Type} (n : Nat) (k : Nat → α) : forced n k = k n := by cases n <;> rfl
/-- Which operations stand before one, as a number's bits. -/
def clo1 (look : Nat → Nat) (o : Oper) : Nat := o.after.toList.foldl (fun s e => if Region.binds .any e then s ||| (2 ^ e.on ||| look e.on) else s) 0
def cloL : List Oper → List Nat → List Nat
  | [], acc => acc
  | o :: r, acc => forced (clo1 (fun i => acc.getD i 0) o) fun v => cloL r (acc ++ [v])

theorem clo1_bit (look : Nat → Nat) (l : List Edge) (s i : Nat) (h : (l.foldl (fun s e => if Region.binds .any e then s ||| (2 ^ e.on ||| look e.on) else s) s).testBit i = true) :
    s.testBit i = true ∨ ∃ e ∈ l, Region.binds .any e = true ∧ (e.on = i ∨ (look e.on).testBit i = true) := by
  induction l generalizing s with
  | nil => exact Or.inl h
  | cons e r ih =>
    rw [List.foldl_cons] at h
    rcases ih _ h with h | ⟨e', he, h⟩
    · by_cases hb : Region.binds .any e = true
      · rw [if_pos hb, Nat.testBit_or, Nat.testBit_or, Nat.testBit_two_pow] at h
        simp only [Bool.or_eq_true, decide_eq_true_eq] at h
        rcases h with h | h | h
        · exact Or.inl h
        · exact Or.inr ⟨e, by simp, hb, Or.inl h⟩
        · exact Or.inr ⟨e, by simp, hb, Or.inr h⟩
      · rw [if_neg hb] at h; exact Or.inl h
    · exact Or.inr ⟨e', by simp [he], h⟩

/-- X has, with an operation, all that stand directly before it. -/
def Down (ops : Array Oper) (X : Nat → Bool) : Prop := ∀ j o, ops[j]? = some o → X j = true → ∀ e ∈ o.after, Region.binds .any e = true → X e.on = true

theorem cloL_bit {ops : Array Oper} {X : Nat → Bool} (hX : Down ops X) : ∀ (l : List Oper) (acc : List Nat), (∀ m o, l[m]? = some o → ops[acc.length + m]? = some o) →
    (∀ j i, (acc.getD j 0).testBit i = true → X j = true → X i = true) → ∀ j i, ((cloL l acc).getD j 0).testBit i = true → X j = true → X i = true
  | [], acc, _, h => h
  | o :: r, acc, hl, h => by
    unfold cloL
    rw [forced_eq]
    refine cloL_bit hX r _ (fun m o' ho => ?_) (fun j i hb hj => ?_)
    · have := hl (m + 1) o' (by simpa using ho)
      rw [List.length_append, List.length_singleton]
      rw [show acc.length + 1 + m = acc.length + (m + 1) by omega]
      exact this
    · rcases Nat.lt_trichotomy j acc.length with hlt | heq | hgt
      · rw [List.getD_eq_getElem?_getD, List.getElem?_append_left hlt, ← List.getD_eq_getElem?_getD] at hb
        exact h j i hb hj
      · subst heq
        rw [List.getD_eq_getElem?_getD, List.getElem?_append_right (Nat.le_refl _)] at hb
        simp only [Nat.sub_self, List.getElem?_cons_zero, Option.getD_some] at hb
        have ho := hl 0 o (by simp)
        rw [Nat.add_zero] at ho
        rcases clo1_bit (fun i => acc.getD i 0) o.after.toList 0 i hb with hb | ⟨e, he, hbe, hon⟩
        · simp at hb
        · have hXe := hX _ o ho hj e (by simpa using he) hbe
          rcases hon with hon | hon
          · rw [← hon]; exact hXe
          · exact h _ _ hon hXe
      · rw [List.getD_eq_getElem?_getD, List.getElem?_eq_none (by simp; omega)] at hb
        simp at hb

def wrIds (wr : List (Nat × Ent)) : List Nat := wr.map (·.1)
theorem lkE_mem {wr : List (Nat × Ent)} {i : Nat} (h : lkE wr i ≠ none) : i ∈ wrIds wr := by
  induction wr with
  | nil => simp [lkE] at h
  | cons x r ih =>
    obtain ⟨u, e⟩ := x
    simp only [lkE] at h
    cases hb : Nat.beq u i with
    | true => have := Nat.eq_of_beq_eq_true hb; subst this; simp [wrIds]
    | false => rw [hb] at h; have := ih h; simp [wrIds] at this ⊢; exact Or.inr this

def memB (n : Nat) : List Nat → Bool
  | [] => false
  | x :: r => match Nat.beq x n with | true => true | false => memB n r
theorem memB_iff (n : Nat) (l : List Nat) : memB n l = true ↔ n ∈ l := by
  induction l with
  | nil => simp [memB]
  | cons x r ih =>
    simp only [memB, List.mem_cons]
    cases h : Nat.beq x n with
    | true => have := Nat.eq_of_beq_eq_true h; simp [this]
    | false => have := Nat.ne_of_beq_eq_false h; simp [ih]; omega
def memO (d : Option Nat) (l : List Nat) : Bool := match d with | some d => memB d l | none => false
def meet (l m : List Nat) : Bool := l.any fun x => memB x m
theorem meet_iff (l m : List Nat) : meet l m = true ↔ ∃ x, x ∈ l ∧ x ∈ m := by simp [meet, memB_iff]
def sameO (a b : Option Nat) : Bool := match a, b with | some a, some b => Nat.beq a b | _, _ => false
/-- Two operations of which the order counts. -/
def clash (ops : Array Oper) (tr : Nat → Tr) (i j : Nat) : Bool :=
  memO (dstOf ops i) (looks ops j) || memO (dstOf ops j) (looks ops i) || sameO (dstOf ops i) (dstOf ops j) || meet (wrIds (tr i).wr) (tr j).ids || meet (wrIds (tr j).wr) (tr i).ids
def cfree (ops : Array Oper) (trs : List Tr) : Bool :=
  let cl := cloL ops.toList []
  (List.range ops.size).all fun j => (List.range j).all fun i => !clash ops (fun k => trs.getD k default) i j || (cl.getD j 0).testBit i
def edgesOk (ops : Array Oper) : Bool := (List.range ops.size).all fun j => match ops[j]? with | some o => o.after.all fun e => !Region.binds .any e || Nat.blt e.on j | none => true

theorem Run.length {cx : Cx} {ops : Array Oper} {i : Nat} {σ σ' : AS} {trs : List Tr} (h : Run cx ops i σ trs σ') (hi : i ≤ ops.size) : trs.length = ops.size - i := by
  induction h with
  | done h hx => simp; omega
  | step h hs hx hr ih => have := ih (by omega); simp; omega
theorem Step.ext {cx : Cx} {ops : Array Oper} {i : Nat} {σ τ : AS} {tr : Tr} (h : Step cx ops i σ tr) (hx : Ext τ σ) : Step cx ops i τ tr :=
  ⟨h.1, fun ρ h1 h2 => h.2 ρ (fun t ht => (h1 t ht).trans (hx.1 t)) (fun id hid => (h2 id hid).trans (hx.2 id))⟩
theorem Run.steps {cx : Cx} {ops : Array Oper} {σ0 : AS} {tr : Nat → Tr} {i : Nat} {σ σ' : AS} {trs : List Tr} (h : Run cx ops i σ trs σ') (hi : i ≤ ops.size) (htr : ∀ j, j < trs.length → tr (i + j) = trs.getD j default)
    (hσ : Ext σ (foldX (dstOf ops) tr (fun _ => true) σ0 i)) : (∀ j, i ≤ j → j < ops.size → Step cx ops j (foldX (dstOf ops) tr (fun _ => true) σ0 j) (tr j)) ∧ Ext σ' (foldX (dstOf ops) tr (fun _ => true) σ0 ops.size) := by
  induction h with
  | @done i σ σ' h hx => exact ⟨fun j h1 h2 => by omega, by rw [show ops.size = i by omega]; exact hx.trans hσ⟩
  | @step i σ σ1 σ' tr1 trs h hs hx hr ih =>
    have e0 : tr i = tr1 := by have := htr 0 (by simp); simpa using this
    have hσ' : Ext σ1 (foldX (dstOf ops) tr (fun _ => true) σ0 (i + 1)) := by
      refine hx.trans ?_
      unfold foldX
      rw [if_pos rfl, e0]
      exact hσ.upd _ _ _
    obtain ⟨h1, h2⟩ := ih (by omega) (fun j hj => by have := htr (j + 1) (by simp; omega); rw [show i + 1 + j = i + (j + 1) by omega, this]; simp) hσ'
    refine ⟨fun j hj1 hj2 => ?_, h2⟩
    rcases Nat.eq_or_lt_of_le hj1 with rfl | hlt
    · rw [e0]; exact hs.ext ⟨fun t => (hσ.1 t).symm, fun i => (hσ.2 i).symm⟩
    · exact h1 j hlt hj2

theorem wpAny_of {cx : Cx} {ops : Array Oper} {σ0 : AS} {tr : Nat → Tr} {Q : Exit → Act → World → Prop}
    (hstep : ∀ j, j < ops.size → Step cx ops j (foldX (dstOf ops) tr (fun _ => true) σ0 j) (tr j))
    (hcf : ∀ i j, i < j → j < ops.size → clash ops tr i j = true → ((cloL ops.toList []).getD j 0).testBit i = true)
    (hed : ∀ j o, ops[j]? = some o → ∀ e ∈ o.after, Region.binds .any e = true → e.on < j)
    (hQ : ∀ a w, St cx (foldX (dstOf ops) tr (fun _ => true) σ0 ops.size) a w → Q .normal a w) :
    ∀ (fuel : Nat) (L : Array Bool), L.size = ops.size → (L.toList.filter (! ·)).length = fuel → Down ops (fun i => L.getD i false) → ∀ a w, St cx (foldX (dstOf ops) tr (fun i => L.getD i false) σ0 ops.size) a w →
      wpAny cx.P .any ops Q fuel L a w := by
  intro fuel
  have hlast : ∀ (L : Array Bool), L.size = ops.size → Down ops (fun i => L.getD i false) → Region.ready .any ops L = [] → ∀ j, j < ops.size → L.getD j false = true := by
    intro L hL hdown hnil j
    induction j using Nat.strongRecOn with
    | _ j ih =>
      intro hj
      cases hLj : L.getD j false with
      | true => rfl
      | false =>
        have hm : j ∈ Region.ready .any ops L := mem_ready.2 ⟨by
          have : j < L.size := by omega
          simp only [Array.getD, this, dif_pos] at hLj ⊢
          exact hLj, ops[j], Array.getElem?_eq_getElem hj, fun e he hb => by
            have hlt := hed j ops[j] (Array.getElem?_eq_getElem hj) e he hb
            exact ih e.on hlt (by omega)⟩
        rw [hnil] at hm
        cases hm
  have hend : ∀ (L : Array Bool), L.size = ops.size → Down ops (fun i => L.getD i false) → Region.ready .any ops L = [] → ∀ a w, St cx (foldX (dstOf ops) tr (fun i => L.getD i false) σ0 ops.size) a w → Q .normal a w := by
    intro L hL hdown hnil a w hst
    have hall := hlast L hL hdown hnil
    exact hQ a w (hst.congr (fun t => getX_same _ _ _ _ _ (fun j hj _ => (hall j hj).symm)) (fun i => findX_same _ _ _ _ _ (fun j hj _ => (hall j hj).symm)))
  induction fuel with
  | zero =>
    intro L hL hcount hdown a w hst
    have hnil : Region.ready .any ops L = [] := by
      cases hr : Region.ready .any ops L with
      | nil => rfl
      | cons i r =>
        have hm : i ∈ Region.ready .any ops L := by rw [hr]; simp
        obtain ⟨h0, o, ho, _⟩ := mem_ready.1 hm
        have hi : i < L.size := by rw [hL]; exact (Array.getElem?_eq_some_iff.1 ho).1
        have h0' : L[i] = false := by simpa [Array.getD, hi] using h0
        have : L[i] ∈ L.toList.filter (! ·) := List.mem_filter.2 ⟨by simp, by rw [h0']; rfl⟩
        rw [List.length_eq_zero_iff.1 hcount] at this
        cases this
    exact ⟨hnil, hend L hL hdown hnil a w hst⟩
  | succ fuel ih =>
    intro L hL hcount hdown a w hst
    refine ⟨fun hnil => hend L hL hdown hnil a w hst, fun i hi => ?_⟩
    obtain ⟨h0, o, ho, hdeps⟩ := mem_ready.1 hi
    have hin : i < ops.size := (Array.getElem?_eq_some_iff.1 ho).1
    have hiL : i < L.size := by omega
    have hLi : L.getD i false = false := by simp only [Array.getD, hiL, dif_pos] at h0 ⊢; exact h0
    generalize hX : (fun i => L.getD i false) = X at *
    have hXi : X i = false := by rw [← hX]; exact hLi
    have hXX : ∀ j, L.getD j false = X j := fun j => by rw [← hX]
    let X' : Nat → Bool := fun j => (L.setIfInBounds i true).getD j false
    have hX'i : X' i = true := by show (L.setIfInBounds i true).getD i false = true; simp [hiL]
    have hX'n : ∀ j, j ≠ i → X' j = X j := fun j hj => by
      show (L.setIfInBounds i true).getD j false = X j
      rw [getD_set_ne false (Ne.symm hj)]; exact hXX j
    have hdown' : Down ops X' := fun j oj hoj hj e he hb => by
      by_cases hji : j = i
      · subst hji
        rw [ho] at hoj
        injection hoj with hoj
        subst hoj
        have h1 := hdeps e he hb
        by_cases hei : e.on = j
        · rw [hei]; exact hX'i
        · rw [hX'n _ hei, ← hXX]; exact h1
      · rw [hX'n j hji] at hj
        have h1 := hdown j oj hoj hj e he hb
        by_cases hei : e.on = i
        · rw [hei]; exact hX'i
        · rw [hX'n _ hei]; exact h1
    have bit : ∀ Y : Nat → Bool, Down ops Y → ∀ j k, ((cloL ops.toList []).getD j 0).testBit k = true → Y j = true → Y k = true := fun Y hY =>
      cloL_bit hY ops.toList [] (fun m o h => by simpa using h) (fun j k h => by simp at h)
    -- those later than i that clash with it have not run; those earlier that clash have
    have later : ∀ j, i < j → j < ops.size → clash ops tr i j = true → X j = false := fun j h1 h2 hc => by
      cases hj : X j with
      | false => rfl
      | true => have := bit X hdown j i (hcf i j h1 h2 hc) hj; rw [hXi] at this; cases this
    have earlier : ∀ j, j < i → clash ops tr j i = true → X j = true := fun j h1 hc => by
      have := bit X' hdown' i j (hcf j i h1 hin hc) hX'i
      rwa [hX'n j (by omega)] at this
    have agree1 : ∀ t ∈ looks ops i, (foldX (dstOf ops) tr X σ0 ops.size).get t = (foldX (dstOf ops) tr (fun _ => true) σ0 i).get t := fun t ht => by
      rw [getX_later X σ0 i ops.size t (by omega) (fun j h1 h2 hd => by
        rcases Nat.eq_or_lt_of_le h1 with rfl | hlt
        · exact hXi
        · exact later j hlt h2 (by simp only [clash, Bool.or_eq_true]; refine Or.inl (Or.inl (Or.inl (Or.inr ?_))); rw [hd]; exact (memB_iff _ _).2 ht))]
      exact getX_same _ _ _ _ _ (fun j hj hd => earlier j hj (by simp only [clash, Bool.or_eq_true]; refine Or.inl (Or.inl (Or.inl (Or.inl ?_))); rw [hd]; exact (memB_iff _ _).2 ht))
    have agree2 : ∀ id ∈ (tr i).ids, (foldX (dstOf ops) tr X σ0 ops.size).find id = (foldX (dstOf ops) tr (fun _ => true) σ0 i).find id := fun id hid => by
      rw [findX_later X σ0 i ops.size id (by omega) (fun j h1 h2 hd => by
        rcases Nat.eq_or_lt_of_le h1 with rfl | hlt
        · exact hXi
        · exact later j hlt h2 (by simp only [clash, Bool.or_eq_true]; exact Or.inr ((meet_iff _ _).2 ⟨id, lkE_mem hd, hid⟩)))]
      exact findX_same _ _ _ _ _ (fun j hj hd => earlier j hj (by simp only [clash, Bool.or_eq_true]; exact Or.inl (Or.inr ((meet_iff _ _).2 ⟨id, lkE_mem hd, hid⟩))))
    refine (hstep i hin).2 _ agree1 agree2 a w Q _ hst (fun a' w' hst' => ?_)
    have hstepi := (hstep i hin).1
    refine ih (L.setIfInBounds i true) (by simp [hL]) ?_ hdown' a' w' (hst'.congr (fun t => ?_) (fun id => ?_))
    · have hsplit : L.toList = L.toList.take i ++ false :: L.toList.drop (i + 1) := by
        have hLi' : L.toList[i]'(by simpa using hiL) = false := by simpa [Array.getD, hiL] using hLi
        rw [← hLi', List.getElem_cons_drop, List.take_append_drop]
      have hset : (L.setIfInBounds i true).toList = L.toList.take i ++ true :: L.toList.drop (i + 1) := by
        rw [Array.toList_setIfInBounds, List.set_eq_take_append_cons_drop, if_pos (by simpa using hiL)]
      rw [hset]
      rw [hsplit] at hcount
      simp only [List.filter_append, List.length_append, List.filter_cons, Bool.not_false, if_true, List.length_cons, Bool.not_true, Bool.false_eq_true, if_false] at hcount ⊢
      omega
    · rw [AS.get_upd]
      by_cases hd : dstOf ops i = some t
      · rw [if_pos hd, getX_later X' σ0 (i + 1) ops.size t (by omega) (fun j h1 h2 hdj => by
          rw [hX'n j (by omega)]
          exact later j (by omega) h2 (by simp only [clash, Bool.or_eq_true]; refine Or.inl (Or.inl (Or.inr ?_)); rw [hd, hdj]; simp [sameO])), getX_succ, if_pos ⟨hX'i, hd⟩]
      · rw [if_neg hd]
        exact getX_same _ _ _ _ _ (fun j hj hdj => hX'n j (fun e => hd (e ▸ hdj)))
    · rw [AS.find_upd]
      cases hw : lkE (tr i).wr id with
      | some e =>
        rw [findX_later X' σ0 (i + 1) ops.size id (by omega) (fun j h1 h2 hdj => by
          rw [hX'n j (by omega)]
          exact later j (by omega) h2 (by simp only [clash, Bool.or_eq_true]; exact Or.inr ((meet_iff _ _).2 ⟨id, lkE_mem hdj, hstepi id e hw⟩))), findX_succ, if_pos hX'i, hw]
        rfl
      | none =>
        rw [Option.none_or]
        exact findX_same _ _ _ _ _ (fun j hj hdj => hX'n j (fun e => hdj (e ▸ hw)))

end Go.Proofs.Ythhnhajldhnfmaa
namespace Go.Proofs.Ythhnhajldhnfmaa
open Go.RowKit

/-- σ says at least what τ says. -/
def Le (cx : Cx) (σ τ : AS) : Prop := ∀ a w, St cx σ a w → St cx τ a w
theorem Le.refl (cx : Cx) (σ : AS) : Le cx σ σ := fun _ _ h => h
theorem Le.trans {cx : Cx} {a b c : AS} (h : Le cx a b) (k : Le cx b c) : Le cx a c := fun _ _ s => k _ _ (h _ _ s)

def lift (cx : Cx) (Q : Exit → AS → Prop) : Exit → Act → World → Prop := fun e a w => ∃ σ, Q e σ ∧ St cx σ a w
def WP (cx : Cx) (c : Code) (Q : Exit → AS → Prop) (σ : AS) : Prop := ∀ a w, St cx σ a w → c.wp cx.P (lift cx Q) a w
def thenA (next : AS → Prop) (Q : Exit → AS → Prop) : Exit → AS → Prop
  | .normal, σ => next σ
  | e, σ => Q e σ
def inBlockA (id : Nat) (Q : Exit → AS → Prop) : Exit → AS → Prop
  | .exit id', σ => if id' = id then Q .normal σ else Q (.exit id') σ
  | e, σ => Q e σ

theorem exists_least (p : Nat → Prop) (h : ∃ n, p n) : ∃ n, p n ∧ ∀ m, p m → n ≤ m := by
  obtain ⟨n, hn⟩ := h
  induction n using Nat.strongRecOn with
  | _ n ih =>
    by_cases hm : ∃ m, m < n ∧ p m
    · obtain ⟨m, h1, h2⟩ := hm; exact ih m h1 h2
    · exact ⟨n, hn, fun m h2 => Nat.le_of_not_lt fun h1 => hm ⟨m, h1, h2⟩⟩

section
variable {cx : Cx} {Q : Exit → AS → Prop} {σ τ : AS}
theorem WP.weaken {c : Code} (h : Le cx σ τ) (k : WP cx c Q τ) : WP cx c Q σ := fun a w hs => k a w (h a w hs)
theorem WP.mono {c : Code} {Q' : Exit → AS → Prop} (h : WP cx c Q σ) (k : ∀ e σ, Q e σ → Q' e σ) : WP cx c Q' σ := fun a w hs => wp_mono (h a w hs) (fun e a w ⟨σ, h1, h2⟩ => ⟨σ, k e σ h1, h2⟩)
theorem WP.skip (h : Q .normal σ) : WP cx .skip Q σ := fun a w hs => wp_skip ⟨σ, h, hs⟩
theorem WP.ret (h : Q .ret σ) : WP cx .ret Q σ := fun a w hs => wp_ret ⟨σ, h, hs⟩
theorem WP.exit {id : Nat} (h : Q (.exit id) σ) : WP cx (.exit id) Q σ := fun a w hs => wp_exit ⟨σ, h, hs⟩
theorem WP.seq {x y : Code} (h : WP cx x (thenA (WP cx y Q) Q) σ) : WP cx (.seq x y) Q σ := fun a w hs => by
  refine wp_seq (wp_mono (h a w hs) (fun e a w ⟨τ, h1, h2⟩ => ?_))
  cases e with
  | normal => exact h1 a w h2
  | _ => exact ⟨τ, h1, h2⟩
theorem WP.block {id : Nat} {c : Code} (h : WP cx c (inBlockA id Q) σ) : WP cx (.block id c) Q σ := fun a w hs => by
  refine wp_block (wp_mono (h a w hs) (fun e a w ⟨τ, h1, h2⟩ => ?_))
  cases e with
  | exit id' =>
    simp only [inBlockA] at h1
    simp only [Exit.inBlock]
    by_cases hid : id' = id
    · rw [if_pos hid] at h1 ⊢; exact ⟨τ, h1, h2⟩
    · rw [if_neg hid] at h1 ⊢; exact ⟨τ, h1, h2⟩
  | _ => exact ⟨τ, h1, h2⟩
theorem WP.loop {c : Code} (I : Nat → AS → Prop) (n : Nat) (h0 : I n σ) (round : ∀ n σ, I n σ → WP cx c (thenA (fun σ' => ∃ m, m < n ∧ I m σ') Q) σ) : WP cx (.loop c) Q σ := fun a w hs => by
  classical
  let R : Act → World → Nat → Prop := fun a w n => ∃ σ, I n σ ∧ St cx σ a w
  let μ : Act → World → Nat := fun a w => if h : ∃ n, R a w n then Classical.choose (exists_least _ h) else 0
  refine wp_loop (fun a w => ∃ n, R a w n) μ ⟨n, σ, h0, hs⟩ (fun a w hI => ?_)
  have hμ : μ a w = Classical.choose (exists_least _ hI) := dif_pos hI
  obtain ⟨τ, hIτ, hst⟩ := (Classical.choose_spec (exists_least _ hI)).1
  refine wp_mono (round _ τ hIτ a w hst) (fun e a' w' ⟨τ', h1, h2⟩ => ?_)
  cases e with
  | normal =>
    obtain ⟨m, hm, hI'⟩ := h1
    have hex : ∃ n, R a' w' n := ⟨m, τ', hI', h2⟩
    refine ⟨hex, ?_⟩
    have hle : μ a' w' ≤ m := by
      show (if h : ∃ n, R a' w' n then Classical.choose (exists_least _ h) else 0) ≤ m
      rw [dif_pos hex]
      exact (Classical.choose_spec (exists_least _ hex)).2 m ⟨τ', hI', h2⟩
    omega
  | _ => exact ⟨τ', h1, h2⟩
end

/-- What a literal stands for. -/
def AV.ofV : Value → AV
  | .int k n => .int k n
  | .bool b => .bool b
  | .string s => .str s
  | .pointer none => .nilp
  | .slice none 0 0 => .nils
  | .nilFunc => .nilf
  | .tuple cs => if cs.size = 0 then .tup [] else .any
  | _ => .any
def constV : Value → AV
  | .agg cs => .agg (cs.toList.map AV.ofV)
  | v => AV.ofV v
def AS.eval (σ : AS) : Operand → AV
  | .tmp t => σ.get t
  | .const v => constV v
  | .func f => .fn f []
  | .global _ => .any

theorem rep_ofV (w : World) (S : Nat → Prop) (γ : Gam) (v : Value) : Rep w S γ (AV.ofV v) v := by
  unfold AV.ofV
  split
  · exact .int _ _
  · exact .bool _
  · exact .str _
  · exact .nilp
  · exact .nils
  · exact .nilf
  · rename_i cs
    by_cases h : cs.size = 0
    · rw [if_pos h]
      have : cs = #[] := Array.eq_empty_of_size_eq_zero h
      subst this
      exact .tup #[] rfl (fun i hi => by simp at hi)
    · rw [if_neg h]; exact .any _
  · exact .any _

/-- A literal's cells fit one cell each. -/
def aggOk : Value → Bool
  | .agg cs => cs.all (·.oneCell')
  | _ => true
theorem rep_const (w : World) (S : Nat → Prop) (γ : Gam) (v : Value) (h : aggOk v = true) : Rep w S γ (constV v) v := by
  unfold constV
  split
  · rename_i cs
    refine .agg cs (by simp) (fun i hi => ?_) (fun i hi => ?_)
    · have hi' : i < cs.size := by simpa using hi
      simp only [List.getElem_map, Array.getElem_toList]
      have : cs.getD i undef = cs[i] := by simp [Array.getD, hi']
      rw [this]
      exact rep_ofV w S γ _
    · have : cs.getD i undef = cs[i] := by simp [Array.getD, hi]
      rw [this]
      simp only [aggOk, Array.all_eq_true] at h
      exact h i hi
  · exact rep_ofV w S γ _

def opdOk : Operand → Bool
  | .const v => aggOk v
  | _ => true

section
variable {cx : Cx} {γ : Gam} {σ τ : AS} {a : Act} {w : World}
theorem StG.ev (h : StG cx γ σ a w) (x : Operand) (hx : opdOk x = true) : Rep w (Sg cx.S0 cx.w0.heap.size γ) γ (σ.eval x) (a.eval x) := by
  cases x with
  | tmp t => exact h.tm t
  | const v => exact rep_const _ _ _ _ hx
  | global g => exact .any _
  | func f => exact .fn #[] rfl (fun i hi => by simp at hi)

theorem getD_put (a : Act) (d : Option Nat) (v : Value) (t : Nat) (hd : ∀ x, d = some x → x < a.tmps.size) : (a.put d v).tmps.getD t undef = if d = some t then v else a.tmps.getD t undef := by
  cases d with
  | none => simp [Act.put]
  | some d =>
    have hlt := hd d rfl
    simp only [Act.put, Option.some.injEq]
    by_cases h : d = t
    · subst h; simp [hlt]
    · rw [if_neg h]
      simp [Array.getElem?_setIfInBounds_ne h]
theorem put_size (a : Act) (d : Option Nat) (v : Value) : (a.put d v).tmps.size = a.tmps.size := by cases d <;> simp [Act.put]
theorem put_defers (a : Act) (d : Option Nat) (v : Value) : (a.put d v).defers = a.defers := by cases d <;> rfl

theorem EntRep.move {w' : World} {S S' : Nat → Prop} {γ' : Gam} {B : Nat} {d : Option (Option Nat × Value)} {e : Ent} (h : EntRep w S γ B d e) (hz : w.heap.size ≤ w'.heap.size)
    (hk : ∀ b, S b → b < w.heap.size → w'.heap[b]? = w.heap[b]? ∧ S' b) (hγ : ∀ id d, γ id = some d → γ' id = some d ∨ γ' id = some none) (hblk : ∀ g s, d = some (some g, s) → w'.heap[g]? = w.heap[g]?) : EntRep w' S' γ' B d e := by
  cases e with
  | box ty cells =>
    obtain ⟨g, vs, hd, hb, hs, hr, h1⟩ := h
    exact ⟨g, vs, hd, (hblk g _ hd).trans hb, hs, fun i hi => ((hr i hi).mono hz hk).gam hγ, h1⟩
  | row ty sz xs =>
    obtain ⟨s, vs, hd, h1, hown, hc, hr, ho⟩ := h
    refine ⟨s, vs, hd, h1, ⟨hown.1, hown.2.elim Or.inl (fun ⟨g, cap, cur, hv, hg, hh, r⟩ => Or.inr ⟨g, cap, cur, hv, hg, ?_, r⟩)⟩, hc, fun k hk' j hj => (hr k hk' j hj).mono hz hk, ho⟩
    subst hv
    exact (hblk g _ hd).trans hh
  | dead => exact h

/-- The one step from state to state. -/
theorem StG.step (h : StG cx γ σ a w) {w' : World} {γ' : Gam} {dst : Option Nat} {av : AV} {v : Value} {wr : List (Nat × Ent)} (hd : ∀ x, dst = some x → x < cx.nt) (hz : w.heap.size ≤ w'.heap.size)
    (hk : ∀ b, Sg cx.S0 cx.w0.heap.size γ b → b < w.heap.size → w'.heap[b]? = w.heap[b]? ∧ Sg cx.S0 cx.w0.heap.size γ' b)
    (hγ : ∀ id d, γ id = some d → γ' id = some d ∨ γ' id = some none)
    (hsame : ∀ id, lkE wr id = none → γ' id = γ id ∧ ∀ g s, γ id = some (some (some g, s)) → w'.heap[g]? = w.heap[g]?)
    (hnew : ∀ id e, lkE wr id = some e → ∃ x, γ' id = some x ∧ EntRep w' (Sg cx.S0 cx.w0.heap.size γ') γ' cx.w0.heap.size x e)
    (hinj : ∀ id id' b s s', γ' id = some (some (some b, s)) → γ' id' = some (some (some b, s')) → id = id')
    (hge : ∀ b, own γ' b → Nw cx.S0 cx.w0.heap.size b ∧ b < w'.heap.size) (hb : Below cx.w0.heap.size cx.w0 w')
    (hv : Rep w' (Sg cx.S0 cx.w0.heap.size γ') γ' av v) (hk0 : ∀ b, ¬ own γ b → b < w.heap.size → w'.heap[b]? = w.heap[b]? ∧ ¬ own γ' b) : StG cx γ' (σ.upd dst av wr) (a.put dst v) w' := by
  refine ⟨fun t => ?_, fun id => ?_, hinj, hge, hb, by rw [put_size]; exact h.size, by rw [put_defers]; exact h.defers, fun b hb => Nat.lt_of_lt_of_le (h.gh b hb) hz, fun b hb => ?_⟩
  rotate_right
  · obtain ⟨f2, f3, f4⟩ := h.fr b hb
    obtain ⟨k1, k2⟩ := hk0 b f2 f3
    exact ⟨k2, Nat.lt_of_lt_of_le f3 hz, k1.trans f4⟩
  · rw [AS.get_upd, getD_put a dst v t (fun x hx => by rw [h.size]; exact hd x hx)]
    by_cases ht : dst = some t
    · rw [if_pos ht, if_pos ht]; exact hv
    · rw [if_neg ht, if_neg ht]; exact ((h.tm t).mono hz hk).gam hγ
  · rw [AS.find_upd]
    cases hw : lkE wr id with
    | some e => exact hnew id e hw
    | none =>
      rw [Option.none_or]
      obtain ⟨h1, h2⟩ := hsame id hw
      rw [h1]
      have := h.me id
      cases hf : σ.find id with
      | none => rw [hf] at this; exact this
      | some e =>
        rw [hf] at this
        obtain ⟨x, hx, he⟩ := this
        exact ⟨x, hx, he.move hz hk hγ (fun g s hxs => h2 g s (by rw [hx, hxs]))⟩

/-- A value, the world as it was. -/
theorem StG.put (h : StG cx γ σ a w) {dst : Option Nat} {av : AV} {v : Value} (hd : ∀ x, dst = some x → x < cx.nt) (hv : Rep w (Sg cx.S0 cx.w0.heap.size γ) γ av v) : StG cx γ (σ.upd dst av []) (a.put dst v) w :=
  h.step hd (Nat.le_refl _) (fun b hb _ => ⟨rfl, hb⟩) (fun id d hd => Or.inl hd) (fun id _ => ⟨rfl, fun _ _ _ => rfl⟩) (fun id e he => by simp [lkE] at he) h.inj h.ge h.below hv (fun b hb _ => ⟨rfl, hb⟩)
/-- New memory without a name, and draws. -/
theorem StG.grow (h : StG cx γ σ a w) {w' : World} {dst : Option Nat} {av : AV} {v : Value} (hd : ∀ x, dst = some x → x < cx.nt) (hb : Below w.heap.size w w') (hv : Rep w' (Sg cx.S0 cx.w0.heap.size γ) γ av v) : StG cx γ (σ.upd dst av []) (a.put dst v) w' := by
  refine h.step hd hb.size (fun b hS hlt => ⟨hb.block b hlt, hS⟩) (fun id d hd => Or.inl hd) (fun id _ => ⟨rfl, fun g s hg => hb.block g (h.ge g ⟨id, s, hg⟩).2⟩) (fun id e he => by simp [lkE] at he) h.inj
    (fun b hb' => ⟨(h.ge b hb').1, Nat.lt_of_lt_of_le (h.ge b hb').2 hb.size⟩) (h.below.trans (hb.mono h.below.size)) hv (fun b hno hlt => ⟨hb.block b hlt, hno⟩)

/-- γ, with one name more. -/
def Gam.set (γ : Gam) (id : Nat) (x : Option (Option Nat × Value)) : Gam := fun i => if i = id then some x else γ i
theorem Gam.set_self (γ : Gam) (id : Nat) (x : Option (Option Nat × Value)) : γ.set id x id = some x := by simp [Gam.set]
theorem Gam.set_ne (γ : Gam) (id : Nat) (x : Option (Option Nat × Value)) {i : Nat} (h : i ≠ id) : γ.set id x i = γ i := by simp [Gam.set, h]

/-- A new block with a name. -/
theorem StG.name (h : StG cx γ σ a w) {w' : World} {dst : Option Nat} {av : AV} {v : Value} {id g : Nat} {e : Ent} {s : Value} (hd : ∀ x, dst = some x → x < cx.nt) (hn : σ.find id = none) (hb : Below w.heap.size w w') (hg : w.heap.size ≤ g) (hg' : g < w'.heap.size)
    (he : EntRep w' (Sg cx.S0 cx.w0.heap.size (γ.set id (some (some g, s)))) (γ.set id (some (some g, s))) cx.w0.heap.size (some (some g, s)) e)
    (hv : Rep w' (Sg cx.S0 cx.w0.heap.size (γ.set id (some (some g, s)))) (γ.set id (some (some g, s))) av v) : StG cx (γ.set id (some (some g, s))) (σ.upd dst av [(id, e)]) (a.put dst v) w' := by
  have hγid : γ id = none := by have := h.me id; rw [hn] at this; exact this
  have hold : ∀ i x, γ i = some x → i ≠ id := fun i x hx e => by subst e; rw [hγid] at hx; cases hx
  refine h.step hd hb.size (fun b hS hlt => ⟨hb.block b hlt, ?_⟩) (fun i x hx => Or.inl ?_) (fun i hi => ?_) (fun i e' hi => ?_) (fun i j b s1 s2 h1 h2 => ?_) (fun b hbo => ?_) (h.below.trans (hb.mono h.below.size)) hv (fun b hno hlt => ⟨hb.block b hlt, fun ⟨i, s', hi⟩ => ?_⟩)
  rotate_right
  · by_cases hid : i = id
    · subst hid; rw [Gam.set_self] at hi; injection hi with hi; injection hi with hi; injection hi with hi _; injection hi with hi; omega
    · rw [Gam.set_ne _ _ _ hid] at hi; exact hno ⟨i, s', hi⟩
  · rcases hS with hS | ⟨h1, h2⟩
    · exact Or.inl hS
    · refine Or.inr ⟨h1, fun ⟨i, s', hi⟩ => ?_⟩
      by_cases hid : i = id
      · subst hid; rw [Gam.set_self] at hi; injection hi with hi; injection hi with hi; injection hi with hi _; injection hi with hi; omega
      · rw [Gam.set_ne _ _ _ hid] at hi; exact h2 ⟨i, s', hi⟩
  · rw [Gam.set_ne _ _ _ (hold i x hx)]; exact hx
  · have hid : i ≠ id := fun e => by subst e; simp [lkE] at hi
    refine ⟨Gam.set_ne _ _ _ hid, fun g' s' hg' => hb.block g' (h.ge g' ⟨i, s', hg'⟩).2⟩
  · have hid : i = id := by
      simp only [lkE] at hi
      cases hbq : Nat.beq id i with
      | true => exact (Nat.eq_of_beq_eq_true hbq).symm
      | false => rw [hbq] at hi; cases hi
    subst hid
    simp only [lkE, Nat.beq_refl, Option.some.injEq] at hi
    subst hi
    exact ⟨_, Gam.set_self _ _ _, he⟩
  · by_cases h1' : i = id
    · by_cases h2' : j = id
      · rw [h1', h2']
      · subst h1'
        rw [Gam.set_self] at h1
        rw [Gam.set_ne _ _ _ h2'] at h2
        injection h1 with h1; injection h1 with h1; injection h1 with h1 _; injection h1 with h1
        have := (h.ge b ⟨j, s2, h2⟩).2
        omega
    · by_cases h2' : j = id
      · subst h2'
        rw [Gam.set_self] at h2
        rw [Gam.set_ne _ _ _ h1'] at h1
        injection h2 with h2; injection h2 with h2; injection h2 with h2 _; injection h2 with h2
        have := (h.ge b ⟨i, s1, h1⟩).2
        omega
      · rw [Gam.set_ne _ _ _ h1'] at h1
        rw [Gam.set_ne _ _ _ h2'] at h2
        exact h.inj i j b s1 s2 h1 h2
  · obtain ⟨i, s', hi⟩ := hbo
    by_cases h1' : i = id
    · subst h1'
      rw [Gam.set_self] at hi
      injection hi with hi; injection hi with hi; injection hi with hi _; injection hi with hi
      have := h.below.size
      subst hi
      exact ⟨⟨by omega, fun h0 => by have := h.gh _ h0; omega⟩, hg'⟩
    · rw [Gam.set_ne _ _ _ h1'] at hi
      have := h.ge b ⟨i, s', hi⟩
      exact ⟨this.1, Nat.lt_of_lt_of_le this.2 hb.size⟩
end

/-- An operation, met in a state that is as σ in its operands and in the blocks named. -/
def OpRule (cx : Cx) (o : Oper) (σ : AS) (av : AV) (ids : List Nat) (wr : List (Nat × Ent)) : Prop :=
  (∀ id e, lkE wr id = some e → id ∈ ids) ∧
  ∀ τ : AS, (∀ x ∈ o.op.operands, τ.eval x = σ.eval x) → (∀ id ∈ ids, τ.find id = σ.find id) → ∀ a w Q K, St cx τ a w → (∀ a' w', St cx (τ.upd o.dst av wr) a' w' → K a' w') → o.wp cx.P a w K Q
def dok (cx : Cx) (o : Oper) : Bool := match o.dst with | some d => Nat.blt d cx.nt | none => true
theorem dok_iff {cx : Cx} {o : Oper} (h : dok cx o = true) : ∀ x, o.dst = some x → x < cx.nt := fun x hx => by
  unfold dok at h; rw [hx] at h; simpa using h

theorem OpRule.step {cx : Cx} {ops : Array Oper} {i : Nat} {o : Oper} {σ : AS} {av : AV} {ids : List Nat} {wr : List (Nat × Ent)} (ho : ops[i]? = some o) (hg : o.guard = none) (h : OpRule cx o σ av ids wr) : Step cx ops i σ ⟨av, ids, wr⟩ := by
  refine ⟨h.1, fun τ h1 h2 a w Q K hst hK => ?_⟩
  have hd : dstOf ops i = o.dst := by simp [dstOf, ho]
  have hl : looks ops i = o.looksAt ops := by simp [looks, ho]
  unfold wpOp
  simp only [ho]
  rw [if_pos (by simp [Region.wanted, hg])]
  refine Or.inl (h.2 τ (fun x hx => ?_) h2 a w Q K hst (by rw [hd] at hK; exact hK))
  cases x with
  | tmp t =>
    refine h1 t ?_
    rw [hl]
    exact List.mem_append_left _ (List.mem_filterMap.2 ⟨.tmp t, by simpa using hx, rfl⟩)
  | _ => rfl
theorem OpRule.step_guard {cx : Cx} {ops : Array Oper} {i g t : Nat} {c want : Bool} {o : Oper} {σ : AS} {av : AV} {ids : List Nat} {wr : List (Nat × Ent)} (ho : ops[i]? = some o) (hg : o.guard = some (g, want)) (ht : dstOf ops g = some t) (hv : σ.get t = .bool c) (hc : c = want)
    (h : OpRule cx o σ av ids wr) : Step cx ops i σ ⟨av, ids, wr⟩ := by
  refine ⟨h.1, fun τ h1 h2 a w Q K hst hK => ?_⟩
  have hd : dstOf ops i = o.dst := by simp [dstOf, ho]
  have hl : looks ops i = o.looksAt ops := by simp [looks, ho]
  have htl : t ∈ looks ops i := by
    rw [hl]
    refine List.mem_append_right _ ?_
    simp only [hg]
    have : (ops[g]?).bind (·.dst) = some t := ht
    simp [this]
  have hval : a.tmps.getD t undef = .bool c := by
    obtain ⟨γ, hs⟩ := hst
    have := hs.tm t
    rw [h1 t htl, hv] at this
    exact this.bool_inv
  unfold wpOp
  simp only [ho]
  have hw : Region.wanted o (yielded ops a.tmps) = true := by
    have ht' : (ops[g]?).bind (·.dst) = some t := ht
    simp only [Region.wanted, hg, yielded]
    rw [ht']
    rw [Array.getD_eq_getD_getElem?] at hval
    cases hq : a.tmps[t]? with
    | none => rw [hq] at hval; simp [undef] at hval
    | some u => rw [hq] at hval; simp at hval; subst hval; simp [hq, hc]
  rw [if_pos hw]
  refine Or.inl (h.2 τ (fun x hx => ?_) h2 a w Q K hst (by rw [hd] at hK; exact hK))
  cases x with
  | tmp t =>
    refine h1 t ?_
    rw [hl]
    exact List.mem_append_left _ (List.mem_filterMap.2 ⟨.tmp t, by simpa using hx, rfl⟩)
  | _ => rfl
/-- The operation is passed over. -/
theorem step_skipped {cx : Cx} {ops : Array Oper} {i g t : Nat} {want : Bool} {o : Oper} {σ : AS} (ho : ops[i]? = some o) (hok : dok cx o = true) (hg : o.guard = some (g, want)) (ht : dstOf ops g = some t) (hv : (∃ c, σ.get t = .bool c ∧ c ≠ want) ∨ σ.get t = .tup []) : Step cx ops i σ ⟨.tup [], [], []⟩ := by
  refine ⟨fun id e he => by simp [lkE] at he, fun τ h1 h2 a w Q K hst hK => ?_⟩
  have hd : dstOf ops i = o.dst := by simp [dstOf, ho]
  have hl : looks ops i = o.looksAt ops := by simp [looks, ho]
  have ht' : (ops[g]?).bind (·.dst) = some t := ht
  have htl : t ∈ looks ops i := by
    rw [hl]
    refine List.mem_append_right _ ?_
    simp only [hg]
    simp [ht']
  obtain ⟨γ, hs⟩ := hst
  have htm := hs.tm t
  rw [h1 t htl] at htm
  unfold wpOp
  simp only [ho]
  have hw : ¬ Region.wanted o (yielded ops a.tmps) = true := by
    simp only [Region.wanted, hg, yielded]
    rw [ht']
    rcases hv with ⟨c, hc, hne⟩ | hc
    · rw [hc] at htm
      have := htm.bool_inv
      rw [Array.getD_eq_getD_getElem?] at this
      cases hq : a.tmps[t]? with
      | none => simp [hq]
      | some u => rw [hq] at this; simp at this; subst this; simp [hq, hne]
    · rw [hc] at htm
      obtain ⟨vs, hvs, _, _⟩ := htm.tup_inv
      rw [Array.getD_eq_getD_getElem?] at hvs
      cases hq : a.tmps[t]? with
      | none => simp [hq]
      | some u => rw [hq] at hvs; simp at hvs; subst hvs; simp [hq]
  rw [if_neg hw]
  refine hK _ _ ⟨γ, ?_⟩
  rw [hd]
  exact hs.put (dok_iff hok) (.tup #[] rfl (fun i hi => by simp at hi))

/-- From operation i on: what Post asks of the traces (in the text's order) and of the last state. -/
def Exec (cx : Cx) (ops : Array Oper) (i : Nat) (σ : AS) (trs : List Tr) (Post : List Tr → AS → Prop) : Prop := ∃ trs' σ', Run cx ops i σ trs' σ' ∧ Post (trs.reverse ++ trs') σ'
section
variable {cx : Cx} {ops : Array Oper} {i : Nat} {σ : AS} {trs : List Tr} {Post : List Tr → AS → Prop}
theorem Exec.done (h : ops.size ≤ i) (hp : Post trs.reverse σ) : Exec cx ops i σ trs Post := ⟨[], σ, .done h (Ext.refl _), by simpa using hp⟩
theorem Exec.cons {tr : Tr} (h : i < ops.size) (hs : Step cx ops i σ tr) (k : Exec cx ops (i + 1) (σ.upd (dstOf ops i) tr.val tr.wr) (tr :: trs) Post) : Exec cx ops i σ trs Post := by
  obtain ⟨trs', σ', hr, hp⟩ := k
  exact ⟨tr :: trs', σ', .step h hs (Ext.refl _) hr, by simpa using hp⟩
theorem Exec.ext {σ' : AS} (h : Ext σ' σ) (k : Exec cx ops i σ' trs Post) : Exec cx ops i σ trs Post := by
  obtain ⟨trs', τ, hr, hp⟩ := k
  have hs : Ext σ σ' := ⟨fun t => (h.1 t).symm, fun i => (h.2 i).symm⟩
  cases hr with
  | done hle hx => exact ⟨[], τ, .done hle (hx.trans h), hp⟩
  | step hlt hst hx hr => exact ⟨_, τ, .step hlt (hst.ext hs) (hx.trans (h.upd _ _ _)) hr, hp⟩
theorem Exec.op {o : Oper} {av : AV} {ids : List Nat} {wr : List (Nat × Ent)} (ho : ops[i]? = some o) (hg : o.guard = none) (h : OpRule cx o σ av ids wr) (k : Exec cx ops (i + 1) (σ.upd o.dst av wr) (⟨av, ids, wr⟩ :: trs) Post) : Exec cx ops i σ trs Post :=
  Exec.cons (Array.getElem?_eq_some_iff.1 ho).1 (OpRule.step ho hg h) (by
    have hd : dstOf ops i = o.dst := by simp [dstOf, ho]
    rw [hd]; exact k)
theorem Exec.guard {g t : Nat} {c want : Bool} {o : Oper} (ho : ops[i]? = some o) (hg : o.guard = some (g, want)) (ht : dstOf ops g = some t) (hv : σ.get t = .bool c) (hok : dok cx o = true)
    (h1 : c = want → ∃ av ids wr, OpRule cx o σ av ids wr ∧ Exec cx ops (i + 1) (σ.upd o.dst av wr) (⟨av, ids, wr⟩ :: trs) Post)
    (h2 : c ≠ want → Exec cx ops (i + 1) (σ.upd o.dst (.tup []) []) (⟨.tup [], [], []⟩ :: trs) Post) : Exec cx ops i σ trs Post := by
  have hd : dstOf ops i = o.dst := by simp [dstOf, ho]
  by_cases hc : c = want
  · obtain ⟨av, ids, wr, hr, k⟩ := h1 hc
    exact Exec.cons (Array.getElem?_eq_some_iff.1 ho).1 (OpRule.step_guard ho hg ht hv hc hr) (by rw [hd]; exact k)
  · exact Exec.cons (Array.getElem?_eq_some_iff.1 ho).1 (step_skipped ho hok hg ht (Or.inl ⟨c, hv, hc⟩)) (by rw [hd]; exact h2 hc)
theorem Exec.passed {g t : Nat} {want : Bool} {o : Oper} (ho : ops[i]? = some o) (hg : o.guard = some (g, want)) (ht : dstOf ops g = some t) (hv : σ.get t = .tup []) (hok : dok cx o = true)
    (k : Exec cx ops (i + 1) (σ.upd o.dst (.tup []) []) (⟨.tup [], [], []⟩ :: trs) Post) : Exec cx ops i σ trs Post := by
  have hd : dstOf ops i = o.dst := by simp [dstOf, ho]
  exact Exec.cons (Array.getElem?_eq_some_iff.1 ho).1 (step_skipped ho hok hg ht (Or.inr hv)) (by rw [hd]; exact k)
end

section
variable {cx : Cx} {Q : Exit → AS → Prop} {σ : AS} {id : Nat} {ops : Array Oper}
theorem WP.region (h : Exec cx ops 0 σ [] (fun _ σ' => Q .normal σ')) : WP cx (.region id ops false) Q σ := fun a w hs => by
  obtain ⟨trs, σ', hr, hp⟩ := h
  refine wp_region ?_
  have := hr.wpOps (Q := lift cx Q) (fun a w hs => ⟨σ', hp, hs⟩) (Nat.zero_le _) a w hs
  rw [List.range_eq_range']
  simpa using this
theorem WP.region_draw (he : edgesOk ops = true) (h : Exec cx ops 0 σ [] (fun trs σ' => cfree ops trs = true ∧ Q .normal σ')) : WP cx (.region id ops true) Q σ := fun a w hs => by
  obtain ⟨trs, σ', hr, hc, hp⟩ := h
  simp only [List.reverse_nil, List.nil_append] at hc hp
  refine wp_region_any cx.E.mixed ?_
  obtain ⟨h1, h2⟩ := hr.steps (σ0 := σ) (tr := fun k => trs.getD k default) (Nat.zero_le _) (fun j _ => by simp) (Ext.refl _)
  refine wpAny_of (fun j hj => h1 j (Nat.zero_le _) hj) (fun i j hij hj hcl => ?_) (fun j o ho e he' hb => ?_) (fun a w hs => ⟨σ', hp, hs.congr h2.1 h2.2⟩) ops.size _ (by simp) (by simp) (fun j o _ hj => by
    simp only [Array.getD_eq_getD_getElem?, Array.getElem?_replicate] at hj
    split at hj <;> simp at hj) a _ ?_
  · simp only [cfree, List.all_eq_true, List.mem_range, Bool.or_eq_true, Bool.not_eq_true'] at hc
    rcases hc j hj i hij with h | h
    · rw [hcl] at h; cases h
    · exact h
  · simp only [edgesOk, List.all_eq_true, List.mem_range] at he
    have := he j (Array.getElem?_eq_some_iff.1 ho).1
    rw [ho] at this
    simp only [Array.all_eq_true_iff_forall_mem, Bool.or_eq_true, Bool.not_eq_true'] at this
    rcases this e he' with h | h
    · rw [hb] at h; cases h
    · simpa using h
  · have hs' : St cx σ a { w with drawn := w.drawn + 1 } := by
      obtain ⟨γ, hs⟩ := hs
      have hbl : Below w.heap.size w { w with drawn := w.drawn + 1 } := ⟨rfl, rfl, rfl, Nat.le_refl _, fun _ _ => rfl⟩
      have := hs.grow (dst := none) (av := .any) (v := undef) (fun x hx => by cases hx) hbl (.any _)
      exact ⟨γ, this⟩
    refine hs'.congr (fun t => ?_) (fun i => ?_)
    · have : ∀ k, (foldX (dstOf ops) (fun k => trs.getD k default) (fun i => (Array.replicate ops.size false).getD i false) σ k).get t = σ.get t := fun k =>
        getX_later _ _ 0 k t (Nat.zero_le _) (fun j _ _ _ => by simp only [Array.getD_eq_getD_getElem?, Array.getElem?_replicate]; split <;> simp)
      exact this _
    · have : ∀ k, (foldX (dstOf ops) (fun k => trs.getD k default) (fun i => (Array.replicate ops.size false).getD i false) σ k).find i = σ.find i := fun k =>
        findX_later _ _ 0 k i (Nat.zero_le _) (fun j _ _ _ => by simp only [Array.getD_eq_getD_getElem?, Array.getElem?_replicate]; split <;> simp)
      exact this _
theorem WP.cond {c : Operand} {x y : Code} {b : Bool} (hok : opdOk c = true) (hc : σ.eval c = .bool b) (ht : b = true → WP cx x Q σ) (hf : b = false → WP cx y Q σ) : WP cx (.cond c x y) Q σ := fun a w hs => by
  obtain ⟨γ, h⟩ := hs
  have he := h.ev c hok
  rw [hc] at he
  exact wp_cond_split he.bool_inv (fun h' => ht h' a w ⟨γ, h⟩) (fun h' => hf h' a w ⟨γ, h⟩)
end
end Go.Proofs.Ythhnhajldhnfmaa
namespace Go.Proofs.Ythhnhajldhnfmaa
open Go.RowKit

section
variable {cx : Cx} {o : Oper} {σ : AS}

theorem rule_val {av : AV} {ids : List Nat} (hd : dok cx o = true)
    (h : ∀ τ γ a w, (∀ x ∈ o.op.operands, τ.eval x = σ.eval x) → (∀ id ∈ ids, τ.find id = σ.find id) → StG cx γ τ a w → ∃ v, (execOp a.eval o).run cx.P w = .ok (.value v) w ∧ Rep w (Sg cx.S0 cx.w0.heap.size γ) γ av v) : OpRule cx o σ av ids [] := by
  refine ⟨fun id e he => by simp [lkE] at he, fun τ h1 h2 a w Q K ⟨γ, hst⟩ hK => ?_⟩
  obtain ⟨v, hr, hv⟩ := h τ γ a w h1 h2 hst
  unfold Oper.wp
  rw [hr]
  exact hK _ _ ⟨γ, hst.put (dok_iff hd) hv⟩
theorem rule_grow {av : AV} {ids : List Nat} (hd : dok cx o = true)
    (h : ∀ τ γ a w, (∀ x ∈ o.op.operands, τ.eval x = σ.eval x) → (∀ id ∈ ids, τ.find id = σ.find id) → StG cx γ τ a w → ∃ v w', (execOp a.eval o).run cx.P w = .ok (.value v) w' ∧ Below w.heap.size w w' ∧ Rep w' (Sg cx.S0 cx.w0.heap.size γ) γ av v) : OpRule cx o σ av ids [] := by
  refine ⟨fun id e he => by simp [lkE] at he, fun τ h1 h2 a w Q K ⟨γ, hst⟩ hK => ?_⟩
  obtain ⟨v, w', hr, hb, hv⟩ := h τ γ a w h1 h2 hst
  unfold Oper.wp
  rw [hr]
  exact hK _ _ ⟨γ, hst.grow (dok_iff hd) hb hv⟩

theorem r_move {x : Operand} {av : AV} (ho : o.op = .move x) (hd : dok cx o = true) (hxo : opdOk x = true) (hx : σ.eval x = av) : OpRule cx o σ av [] [] :=
  rule_val hd fun τ γ a w h1 _ hst => ⟨a.eval x, by simp [execOp, ho], by
    have := hst.ev x hxo
    rwa [h1 x (by simp [ho, Op.operands]), hx] at this⟩
theorem r_assign {x : Operand} {av : AV} (ho : o.op = .assign x) (hd : dok cx o = true) (hxo : opdOk x = true) (hx : σ.eval x = av) : OpRule cx o σ av [] [] :=
  rule_val hd fun τ γ a w h1 _ hst => ⟨a.eval x, by simp [execOp, ho], by
    have := hst.ev x hxo
    rwa [h1 x (by simp [ho, Op.operands]), hx] at this⟩

def AV.toV : AV → Value
  | .int k n => .int k n
  | .bool b => .bool b
  | _ => undef
/-- Arithmetic and comparisons of integers. -/
def binI : BinOp → IntKind → Int → Int → Option AV
  | .add, k, a, b => some (.int k (k.wrap (a + b)))
  | .sub, k, a, b => some (.int k (k.wrap (a - b)))
  | .mul, k, a, b => some (.int k (k.wrap (a * b)))
  | .eql, _, a, b => some (.bool (decide (a = b)))
  | .neq, _, a, b => some (.bool (!decide (a = b)))
  | .lss, _, a, b => some (.bool (decide (a < b)))
  | .leq, _, a, b => some (.bool (decide (a ≤ b)))
  | .gtr, _, a, b => some (.bool (decide (b < a)))
  | .geq, _, a, b => some (.bool (decide (b ≤ a)))
  | _, _, _, _ => none
theorem r_binI {op : BinOp} {x y : Operand} {t t2 : TypeId} {k : IntKind} {a b : Int} {av : AV} (ho : o.op = .binOp op t x y t2) (hd : dok cx o = true) (hxo : opdOk x = true) (hyo : opdOk y = true) (hx : σ.eval x = .int k a) (hy : σ.eval y = .int k b) (hc : binI op k a b = some av) :
    OpRule cx o σ av [] [] :=
  rule_val hd fun τ γ ac w h1 _ hst => by
    have e1 := hst.ev x hxo
    rw [h1 x (by simp [ho, Op.operands]), hx] at e1
    have e2 := hst.ev y hyo
    rw [h1 y (by simp [ho, Op.operands]), hy] at e2
    have f1 := e1.int_inv
    have f2 := e2.int_inv
    refine ⟨av.toV, ?_, ?_⟩
    · cases op <;> simp only [binI, Option.some.injEq, reduceCtorEq] at hc <;> subst hc <;>
        first
          | (simp [execOp, ho, f1, f2, eqGuard, binOp, Op.intArith, Op.intCmp, pure, AV.toV]; done)
          | (simp [execOp, ho, f1, f2, eqGuard, binOp, Op.intArith, Op.intCmp, pure, AV.toV]; rfl)
          | (simp [execOp, ho, f1, f2, eqGuard, binOp, Op.intArith, Op.intCmp, pure, AV.toV]; rw [Bool.eq_iff_iff]; simp)
    · cases op <;> simp only [binI, Option.some.injEq, reduceCtorEq] at hc <;> subst hc <;> first | exact .int _ _ | exact .bool _
theorem r_add {x y : Operand} {t t2 : TypeId} {k : IntKind} {a b c : Int} (ho : o.op = .binOp .add t x y t2) (hd : dok cx o = true) (hxo : opdOk x = true) (hyo : opdOk y = true) (hx : σ.eval x = .int k a) (hy : σ.eval y = .int k b) (hc : k.wrap (a + b) = c) : OpRule cx o σ (.int k c) [] [] :=
  hc ▸ r_binI ho hd hxo hyo hx hy rfl
theorem r_sub {x y : Operand} {t t2 : TypeId} {k : IntKind} {a b c : Int} (ho : o.op = .binOp .sub t x y t2) (hd : dok cx o = true) (hxo : opdOk x = true) (hyo : opdOk y = true) (hx : σ.eval x = .int k a) (hy : σ.eval y = .int k b) (hc : k.wrap (a - b) = c) : OpRule cx o σ (.int k c) [] [] :=
  hc ▸ r_binI ho hd hxo hyo hx hy rfl
theorem r_mul {x y : Operand} {t t2 : TypeId} {k : IntKind} {a b c : Int} (ho : o.op = .binOp .mul t x y t2) (hd : dok cx o = true) (hxo : opdOk x = true) (hyo : opdOk y = true) (hx : σ.eval x = .int k a) (hy : σ.eval y = .int k b) (hc : k.wrap (a * b) = c) : OpRule cx o σ (.int k c) [] [] :=
  hc ▸ r_binI ho hd hxo hyo hx hy rfl
theorem r_rem {x y : Operand} {t t2 : TypeId} {k : IntKind} {a b c : Int} (ho : o.op = .binOp .rem t x y t2) (hd : dok cx o = true) (hxo : opdOk x = true) (hyo : opdOk y = true) (hx : σ.eval x = .int k a) (hy : σ.eval y = .int k b) (hb : b ≠ 0) (hc : a.tmod b = c) : OpRule cx o σ (.int k c) [] [] :=
  rule_val hd fun τ γ ac w h1 _ hst => by
    have e1 := hst.ev x hxo
    rw [h1 x (by simp [ho, Op.operands]), hx] at e1
    have e2 := hst.ev y hyo
    rw [h1 y (by simp [ho, Op.operands]), hy] at e2
    exact ⟨.int k c, by simp [execOp, ho, e1.int_inv, e2.int_inv, eqGuard, binOp, Op.intDiv, pure, hb, hc], .int _ _⟩
theorem r_quo {x y : Operand} {t t2 : TypeId} {k : IntKind} {a b c : Int} (ho : o.op = .binOp .quo t x y t2) (hd : dok cx o = true) (hxo : opdOk x = true) (hyo : opdOk y = true) (hx : σ.eval x = .int k a) (hy : σ.eval y = .int k b) (hb : b ≠ 0) (hc : k.wrap (a.tdiv b) = c) : OpRule cx o σ (.int k c) [] [] :=
  rule_val hd fun τ γ ac w h1 _ hst => by
    have e1 := hst.ev x hxo
    rw [h1 x (by simp [ho, Op.operands]), hx] at e1
    have e2 := hst.ev y hyo
    rw [h1 y (by simp [ho, Op.operands]), hy] at e2
    exact ⟨.int k c, by simp [execOp, ho, e1.int_inv, e2.int_inv, eqGuard, binOp, Op.intDiv, pure, hb, hc], .int _ _⟩

theorem r_not {x : Operand} {t : TypeId} {b : Bool} (ho : o.op = .unOp .not t x) (hd : dok cx o = true) (hxo : opdOk x = true) (hx : σ.eval x = .bool b) : OpRule cx o σ (.bool (!b)) [] [] :=
  rule_val hd fun τ γ ac w h1 _ hst => by
    have e1 := hst.ev x hxo
    rw [h1 x (by simp [ho, Op.operands]), hx] at e1
    exact ⟨.bool (!b), by simp [execOp, ho, e1.bool_inv, Op.unary, pure], .bool _⟩
theorem r_neg {x : Operand} {t : TypeId} {k : IntKind} {a c : Int} (ho : o.op = .unOp .neg t x) (hd : dok cx o = true) (hxo : opdOk x = true) (hx : σ.eval x = .int k a) (hc : k.wrap (0 - a) = c) : OpRule cx o σ (.int k c) [] [] :=
  rule_val hd fun τ γ ac w h1 _ hst => by
    have e1 := hst.ev x hxo
    rw [h1 x (by simp [ho, Op.operands]), hx] at e1
    exact ⟨.int k c, by simp [execOp, ho, e1.int_inv, Op.unary, Op.intArith, pure, ← hc], .int _ _⟩
theorem r_pick_true {c x y : Operand} {av : AV} {b : Bool} (ho : o.op = .pick c x y) (hd : dok cx o = true) (hco : opdOk c = true) (hxo : opdOk x = true) (hc : σ.eval c = .bool b) (hb : b = true) (hx : σ.eval x = av) : OpRule cx o σ av [] [] :=
  rule_val hd fun τ γ ac w h1 _ hst => by
    have e1 := hst.ev c hco
    rw [h1 c (by simp [ho, Op.operands]), hc] at e1
    have e2 := hst.ev x hxo
    rw [h1 x (by simp [ho, Op.operands]), hx] at e2
    exact ⟨ac.eval x, by simp [execOp, ho, e1.bool_inv, asBool, hb, pure], e2⟩
theorem r_pick_false {c x y : Operand} {av : AV} {b : Bool} (ho : o.op = .pick c x y) (hd : dok cx o = true) (hco : opdOk c = true) (hyo : opdOk y = true) (hc : σ.eval c = .bool b) (hb : b = false) (hy : σ.eval y = av) : OpRule cx o σ av [] [] :=
  rule_val hd fun τ γ ac w h1 _ hst => by
    have e1 := hst.ev c hco
    rw [h1 c (by simp [ho, Op.operands]), hc] at e1
    have e2 := hst.ev y hyo
    rw [h1 y (by simp [ho, Op.operands]), hy] at e2
    exact ⟨ac.eval y, by simp [execOp, ho, e1.bool_inv, asBool, hb, pure], e2⟩
/-- Comparison of bools. -/
theorem r_eqB {x y : Operand} {t t2 : TypeId} {a b : Bool} (ho : o.op = .binOp .eql t x y t2) (hd : dok cx o = true) (hxo : opdOk x = true) (hyo : opdOk y = true) (hx : σ.eval x = .bool a) (hy : σ.eval y = .bool b) (ht : cx.P.underlying t = some .bool) : OpRule cx o σ (.bool (a == b)) [] [] :=
  rule_val hd fun τ γ ac w h1 _ hst => by
    have e1 := hst.ev x hxo
    rw [h1 x (by simp [ho, Op.operands]), hx] at e1
    have e2 := hst.ev y hyo
    rw [h1 y (by simp [ho, Op.operands]), hy] at e2
    have hq : ∀ n : Nat, (Op.equalIn (n + 1) t (.bool a) (.bool b)).run cx.P w = .ok (a == b) w := fun n => by simp [Op.equalIn, run_underlying ht, pure]
    exact ⟨.bool (a == b), by simp [execOp, ho, e1.bool_inv, e2.bool_inv, eqGuard, binOp, Op.equal, Op.maxDepth, hq 9999, pure], .bool _⟩
theorem r_neB {x y : Operand} {t t2 : TypeId} {a b : Bool} (ho : o.op = .binOp .neq t x y t2) (hd : dok cx o = true) (hxo : opdOk x = true) (hyo : opdOk y = true) (hx : σ.eval x = .bool a) (hy : σ.eval y = .bool b) (ht : cx.P.underlying t = some .bool) : OpRule cx o σ (.bool (!(a == b))) [] [] :=
  rule_val hd fun τ γ ac w h1 _ hst => by
    have e1 := hst.ev x hxo
    rw [h1 x (by simp [ho, Op.operands]), hx] at e1
    have e2 := hst.ev y hyo
    rw [h1 y (by simp [ho, Op.operands]), hy] at e2
    have hq : ∀ n : Nat, (Op.equalIn (n + 1) t (.bool a) (.bool b)).run cx.P w = .ok (a == b) w := fun n => by simp [Op.equalIn, run_underlying ht, pure]
    exact ⟨.bool (!(a == b)), by simp [execOp, ho, e1.bool_inv, e2.bool_inv, eqGuard, binOp, Op.equal, Op.maxDepth, hq 9999, pure], .bool _⟩

/-! ### Types -/
theorem TyOk.size {P : Program} {T : TypeId} {i : TyI} (h : TyOk P T i) (w : World) : (sizeOf T).run P w = .ok i.sz w := by
  have := h.info
  cases hq : P.info? T with
  | none => rw [hq] at this; simp at this
  | some x => rw [hq] at this; simp at this; simp [sizeOf, typeInfo, hq, this.1]
theorem TyOk.cells {P : Program} {T : TypeId} {i : TyI} (h : TyOk P T i) : P.cellsOf T = i.sz := by
  have := h.info
  cases hq : P.info? T with
  | none => rw [hq] at this; simp at this
  | some x => rw [hq] at this; simp at this; simp [Program.cellsOf, hq, this.1]
theorem TyOk.zeroV {P : Program} {T : TypeId} {i : TyI} (h : TyOk P T i) (w : World) : (zeroValue T).run P w = .ok i.zero w := by
  have := h.zero
  cases hq : P.info? T with
  | none => rw [hq] at this; simp at this
  | some x => rw [hq] at this; simp at this; simp [zeroValue, typeInfo, hq, this]
theorem TyOk.und {P : Program} {T : TypeId} {i : TyI} (h : TyOk P T i) : ∃ d, P.underlying T = some d ∧ shapeOf P d = i.shape := by
  have := h.shape
  cases hq : P.underlying T with
  | none => rw [hq] at this; simp at this
  | some d => rw [hq] at this; simp at this; exact ⟨d, rfl, this⟩
def Shape.agg : Shape → Bool
  | .strct _ => true
  | .arr _ _ _ _ => true
  | _ => false
theorem TyOk.agg {P : Program} {T : TypeId} {i : TyI} (h : TyOk P T i) (w : World) : (isAgg T).run P w = .ok i.shape.agg w := by
  obtain ⟨d, hd, hs⟩ := h.und
  rw [← hs]
  cases d <;> simp [isAgg, run_underlying hd, shapeOf, Shape.agg, pure]
theorem run_isAggT {P : Program} {T : TypeId} {b : Bool} (h : aggT P T = some b) (w : World) : (isAgg T).run P w = .ok b w := by
  unfold aggT at h
  split at h
  · rename_i fs hq; injection h with h; subst h; simp [isAgg, run_underlying hq, pure]
  · rename_i n e hq; injection h with h; subst h; simp [isAgg, run_underlying hq, pure]
  · rename_i d h1 h2 hq
    injection h with h
    subst h
    cases d <;> first | exact (h1 _ rfl).elim | exact (h2 _ _ rfl).elim | simp [isAgg, run_underlying hq, pure]
  · cases h

end
end Go.Proofs.Ythhnhajldhnfmaa
namespace Go.Proofs.Ythhnhajldhnfmaa
open Go.RowKit

theorem run_newRow (P : Program) (w : World) (e : TypeId) (cs : Array Value) : (newRow e cs).run P w = .ok ⟨w.heap.size, 0, none⟩ (w.alloc (.cells cs e)) := by
  rfl

section
variable {cx : Cx} {o : Oper} {σ : AS}

/-- The names that a value's first layer has. -/
def AV.ids : AV → List Nat
  | .ptr id _ => [id]
  | .row id => [id]
  | .elt id _ _ _ => [id]
  | _ => []
/-- Its cells can be laid into memory. -/
def okc (σ : AS) : AV → Bool
  | .any => false
  | .tup _ => false
  | .ptr id _ => match σ.find id with | some (.box _ _) => true | _ => false
  | .row id => match σ.find id with | some (.row _ _ _) => true | _ => false
  | .elt _ _ _ _ => false
  | _ => true
theorem cells_rep {cx : Cx} {γ : Gam} {τ σ : AS} {a : Act} {w : World} (h : StG cx γ τ a w) {av : AV} {v : Value} (hv : Rep w (Sg cx.S0 cx.w0.heap.size γ) γ av v) (ho : okc σ av = true) (hids : ∀ id ∈ av.ids, τ.find id = σ.find id) :
    v.cells.size = av.cells.length ∧ (∀ i (hi : i < av.cells.length), Rep w (Sg cx.S0 cx.w0.heap.size γ) γ av.cells[i] (v.cells.getD i undef)) ∧ ∀ i, i < v.cells.size → (v.cells.getD i undef).oneCell' = true := by
  have single : av.cells = [av] → v.oneCell' = true → v.cells.size = av.cells.length ∧ (∀ i (hi : i < av.cells.length), Rep w (Sg cx.S0 cx.w0.heap.size γ) γ av.cells[i] (v.cells.getD i undef)) ∧ ∀ i, i < v.cells.size → (v.cells.getD i undef).oneCell' = true := by
    intro hc h1
    have hvc : v.cells = #[v] := by cases v <;> first | rfl | simp [Value.oneCell'] at h1
    refine ⟨by rw [hvc, hc]; rfl, fun i hi => ?_, fun i hi => ?_⟩
    · have hi0 : i = 0 := by rw [hc] at hi; simpa using hi
      subst hi0
      simp only [hc, hvc]
      exact hv
    · have hi0 : i = 0 := by rw [hvc] at hi; simpa using hi
      subst hi0
      simp only [hvc]
      exact h1
  cases av with
  | any => simp [okc] at ho
  | tup cs => simp [okc] at ho
  | elt id sz k j => simp [okc] at ho
  | agg cs =>
    obtain ⟨vs, rfl, hl, hr, h1⟩ := hv.agg_inv
    exact ⟨hl, hr, h1⟩
  | ptr id off =>
    have hf := hids id (by simp [AV.ids])
    have hme := h.me id
    simp only [okc] at ho
    split at ho
    · rename_i ty cs hfs
      rw [hf, hfs] at hme
      obtain ⟨x, hx, g, vs, hxe, _⟩ := hme
      subst hxe
      have := hv.ptr_inv hx
      exact single rfl (by rw [this]; rfl)
    · cases ho
  | row id =>
    have hf := hids id (by simp [AV.ids])
    have hme := h.me id
    simp only [okc] at ho
    split at ho
    · rename_i ty sz xs hfs
      rw [hf, hfs] at hme
      obtain ⟨x, hx, s, vs, hxe, hone, _⟩ := hme
      subst hxe
      have := hv.row_inv hx
      exact single rfl (by rw [this]; exact hone)
    · cases ho
  | _ => exact single rfl (hv.one rfl)

theorem r_alloc {T d : Nat} {i : TyI} (ho : o.op = .alloc T) (hdst : o.dst = some d) (hd : dok cx o = true) (hT : lkT cx.E.tab T = some i) (hn : σ.find d = none) (hz : i.zero.cells.all (·.oneCell') = true) :
    OpRule cx o σ (.ptr d 0) [d] [(d, .box T (i.zero.cells.toList.map AV.ofV))] := by
  refine ⟨fun id e he => ?_, fun τ h1 h2 a w Q K ⟨γ, hst⟩ hK => ?_⟩
  · simp only [lkE] at he
    cases hb : Nat.beq d id with
    | true => simp [Nat.eq_of_beq_eq_true hb]
    | false => rw [hb] at he; cases he
  have hok := cx.E.ok T i hT
  have hrun : (execOp a.eval o).run cx.P w = .ok (.value (.pointer (some ⟨w.heap.size, 0, none⟩))) (w.alloc (.cells i.zero.cells T)) := by
    simp [execOp, ho, Instr.alloc, hok.zeroV, newVar, run_newRow, pure]
  unfold Oper.wp
  rw [hrun]
  refine hK _ _ ⟨_, hst.name (id := d) (g := w.heap.size) (s := .slice none 0 0) (e := .box T (i.zero.cells.toList.map AV.ofV)) (dok_iff hd) (by rw [h2 d (by simp)]; exact hn) ((Below.refl _ _).alloc (Nat.le_refl _) _) (Nat.le_refl _) (by simp) ?_ ?_⟩
  · refine ⟨w.heap.size, i.zero.cells, rfl, Blk.new w _ _, by simp, fun j hj => ?_, fun j hj => ?_⟩
    · have hj' : j < i.zero.cells.size := by simpa using hj
      have : i.zero.cells.getD j undef = i.zero.cells[j] := by simp [Array.getD, hj']
      simp only [List.getElem_map, Array.getElem_toList, this]
      exact rep_ofV _ _ _ _
    · have : i.zero.cells.getD j undef = i.zero.cells[j] := by simp [Array.getD, hj]
      rw [this]
      simp only [Array.all_eq_true] at hz
      exact hz j hj
  · exact .ptr (Gam.set_self _ _ _) (fun g s e => by injection e with e; injection e with e _; injection e with e; rw [e])

theorem r_box {T d : Nat} {x : Operand} {av : AV} (ho : o.op = .box T x) (hdst : o.dst = some d) (hd : dok cx o = true) (hxo : opdOk x = true) (hx : σ.eval x = av) (hc : okc σ av = true) (hn : σ.find d = none) :
    OpRule cx o σ (.ptr d 0) (d :: av.ids) [(d, .box T av.cells)] := by
  refine ⟨fun id e he => ?_, fun τ h1 h2 a w Q K ⟨γ, hst⟩ hK => ?_⟩
  · simp only [lkE] at he
    cases hb : Nat.beq d id with
    | true => simp [Nat.eq_of_beq_eq_true hb]
    | false => rw [hb] at he; cases he
  have hev := hst.ev x hxo
  rw [h1 x (by simp [ho, Op.operands]), hx] at hev
  obtain ⟨c1, c2, c3⟩ := cells_rep hst hev hc (fun id hid => h2 id (by simp [hid]))
  have hrun : (execOp a.eval o).run cx.P w = .ok (.value (.pointer (some ⟨w.heap.size, 0, none⟩))) (w.alloc (.cells (a.eval x).cells T)) := by
    simp [execOp, ho, Instr.box, newVar, run_newRow, pure]
  unfold Oper.wp
  rw [hrun]
  have hγd : γ d = none := by have := hst.me d; rw [h2 d (by simp), hn] at this; exact this
  have hbl : Below w.heap.size w (w.alloc (.cells (a.eval x).cells T)) := (Below.refl _ _).alloc (Nat.le_refl _) _
  refine hK _ _ ⟨_, hst.name (id := d) (g := w.heap.size) (s := .slice none 0 0) (e := .box T av.cells) (dok_iff hd) (by rw [h2 d (by simp)]; exact hn) hbl (Nat.le_refl _) (by simp) ?_ ?_⟩
  · refine ⟨w.heap.size, (a.eval x).cells, rfl, Blk.new w _ _, c1, fun j hj => ?_, c3⟩
    refine ((c2 j hj).mono hbl.size (fun b hS hlt => ⟨hbl.block b hlt, ?_⟩)).gam (fun id x hx => Or.inl ?_)
    · rcases hS with hS | ⟨h1, h2⟩
      · exact Or.inl hS
      · refine Or.inr ⟨h1, fun ⟨i, s', hi⟩ => ?_⟩
        by_cases hid : i = d
        · subst hid; rw [Gam.set_self] at hi; injection hi with hi; injection hi with hi; injection hi with hi _; injection hi with hi; omega
        · rw [Gam.set_ne _ _ _ hid] at hi; exact h2 ⟨i, s', hi⟩
    · rw [Gam.set_ne]
      · exact hx
      · rintro rfl; rw [hγd] at hx; cases hx
  · exact .ptr (Gam.set_self _ _ _) (fun g s e => by injection e with e; injection e with e _; injection e with e; rw [e])

theorem und_strct {P : Program} {T : TypeId} {i : TyI} {fs : List (Nat × Nat × Option Bool)} (h : TyOk P T i) (hs : i.shape = .strct fs) : ∃ Fs, P.underlying T = some (.struct Fs) ∧ fs = Fs.toList.map fun f => (f.offset, P.cellsOf f.type, aggT P f.type) := by
  obtain ⟨d, hd, he⟩ := h.und
  rw [hs] at he
  cases d <;> simp only [shapeOf, Shape.strct.injEq, reduceCtorEq] at he
  exact ⟨_, hd, he.symm⟩
theorem run_fieldAt {P : Program} {T : TypeId} {i : TyI} {fs : List (Nat × Nat × Option Bool)} {f fo fsz : Nat} {ag : Option Bool} (h : TyOk P T i) (hs : i.shape = .strct fs) (hf : fs[f]? = some (fo, fsz, ag)) (hz : fsz ≠ 0) (b off : Nat) (w : World) :
    (Instr.fieldAt T (.pointer (some ⟨b, off, none⟩)) f).run P w = .ok (.pointer (some ⟨b, off + fo, none⟩)) w := by
  obtain ⟨Fs, hF, rfl⟩ := und_strct h hs
  simp only [List.getElem?_map, Option.map_eq_some_iff, Prod.mk.injEq] at hf
  obtain ⟨fd, hfd, h1, h2, _⟩ := hf
  have hfd' : Fs[f]? = some fd := by simpa using hfd
  have hsz : ∃ info, P.info? fd.type = some info ∧ info.size = fsz := by
    unfold Program.cellsOf at h2
    cases hq : P.info? fd.type with
    | none => rw [hq] at h2; simp at h2; exact absurd h2.symm hz
    | some info => rw [hq] at h2; simp at h2; exact ⟨info, rfl, h2⟩
  obtain ⟨info, hi, hi2⟩ := hsz
  have hsize : (sizeOf fd.type).run P w = .ok fsz w := by simp [sizeOf, typeInfo, hi, hi2]
  simp [Instr.fieldAt, run_underlying hF, hfd', Instr.sureAddr, fieldPlace, hsize, hz, pure, Addr.add_lit, h1]

theorem r_fieldAddr {T id off f fo fsz : Nat} {x : Operand} {i : TyI} {fs : List (Nat × Nat × Option Bool)} {ag : Option Bool} {ty : TypeId} {cs : List AV} (ho : o.op = .fieldAddr T x f) (hd : dok cx o = true) (hxo : opdOk x = true) (hx : σ.eval x = .ptr id off) (hT : lkT cx.E.tab T = some i) (hs : i.shape = .strct fs) (hf : fs[f]? = some (fo, fsz, ag))
    (hz : fsz ≠ 0) (hl : σ.find id = some (.box ty cs)) : OpRule cx o σ (.ptr id (off + fo)) [id] [] :=
  rule_val hd fun τ γ a w h1 h2 hst => by
    have hev := hst.ev x hxo
    rw [h1 x (by simp [ho, Op.operands]), hx] at hev
    have hme := hst.me id
    rw [h2 id (by simp), hl] at hme
    obtain ⟨d, hd', g, vs, hde, _⟩ := hme
    subst hde
    have e := hev.ptr_inv hd'
    refine ⟨.pointer (some ⟨g, off + fo, none⟩), ?_, .ptr hd' (fun g' s e => by injection e with e; injection e with e _; injection e with e; rw [e])⟩
    simp [execOp, ho, e, run_fieldAt (cx.E.ok T i hT) hs hf hz, pure]
theorem r_fieldAddr_elt {T id sz k j f fo fsz : Nat} {x : Operand} {i : TyI} {fs : List (Nat × Nat × Option Bool)} {ag : Option Bool} {ty : TypeId} {xs : List AV} (ho : o.op = .fieldAddr T x f) (hd : dok cx o = true) (hxo : opdOk x = true) (hx : σ.eval x = .elt id sz k j) (hT : lkT cx.E.tab T = some i) (hs : i.shape = .strct fs) (hf : fs[f]? = some (fo, fsz, ag))
    (hz : fsz ≠ 0) (hl : σ.find id = some (.row ty sz xs)) (hk : k < xs.length) : OpRule cx o σ (.elt id sz k (j + fo)) [id] [] :=
  rule_val hd fun τ γ a w h1 h2 hst => by
    have hev := hst.ev x hxo
    rw [h1 x (by simp [ho, Op.operands]), hx] at hev
    have hme := hst.me id
    rw [h2 id (by simp), hl] at hme
    obtain ⟨d, hd', s, vs, hde, _, hown, _⟩ := hme
    subst hde
    have hg : ∃ g, s.ownBlock = some g := by
      rcases hown.2 with ⟨rfl, h0⟩ | ⟨g, cap, cur, rfl, _⟩
      · omega
      · exact ⟨g, rfl⟩
    obtain ⟨g, hg⟩ := hg
    rw [hg] at hd'
    have e := hev.elt_inv hd'
    refine ⟨.pointer (some ⟨g, k * sz + (j + fo), none⟩), ?_, .elt hd' (fun g' s e => by injection e with e; injection e with e _; injection e with e; rw [e])⟩
    simp [execOp, ho, e, run_fieldAt (cx.E.ok T i hT) hs hf hz, pure, Nat.add_assoc]
theorem rep_ref_drop {w : World} {S : Nat → Prop} {γ : Gam} {cs : List AV} {b off k : Nat} {cell : Nat → Value} (hS : S b) (hb : b < w.heap.size) (hc : ∀ j, j < cs.length → w.cell? ⟨b, off + j, none⟩ = some (cell j)) (hr : ∀ j (hj : j < cs.length), Rep w S G0 cs[j] (cell j))
    (h1 : ∀ j, j < cs.length → (cell j).oneCell' = true) : Rep w S γ (.ref (cs.drop k)) (.pointer (some ⟨b, off + k, none⟩)) := by
  refine .ref b (off + k) (fun j => cell (k + j)) hS hb (fun j hj => ?_) (fun j hj => ?_) (fun j hj => ?_)
  · rw [List.length_drop] at hj
    have := hc (k + j) (by omega)
    rwa [← Nat.add_assoc] at this
  · rw [List.length_drop] at hj
    rw [List.getElem_drop]
    exact hr (k + j) (by omega)
  · rw [List.length_drop] at hj
    exact h1 (k + j) (by omega)
theorem r_fieldAddr_ref {T f fo fsz : Nat} {x : Operand} {i : TyI} {fs : List (Nat × Nat × Option Bool)} {ag : Option Bool} {cs : List AV} (ho : o.op = .fieldAddr T x f) (hd : dok cx o = true) (hxo : opdOk x = true) (hx : σ.eval x = .ref cs) (hT : lkT cx.E.tab T = some i) (hs : i.shape = .strct fs) (hf : fs[f]? = some (fo, fsz, ag))
    (hz : fsz ≠ 0) : OpRule cx o σ (.ref (cs.drop fo)) [] [] :=
  rule_val hd fun τ γ a w h1 h2 hst => by
    have hev := hst.ev x hxo
    rw [h1 x (by simp [ho, Op.operands]), hx] at hev
    obtain ⟨b, off, e, hS, hb, cell, hc, hr, h1c⟩ := hev.ref_inv
    refine ⟨.pointer (some ⟨b, off + fo, none⟩), ?_, rep_ref_drop hS hb hc hr h1c⟩
    simp [execOp, ho, e, run_fieldAt (cx.E.ok T i hT) hs hf hz, pure]

/-! ### Loads -/
theorem run_loadVar_agg {P : Program} {T : TypeId} {i : TyI} (h : TyOk P T i) (ha : i.shape.agg = true) (w : World) (ad : Addr) (cs : List Value) (hl : cs.length = i.sz) (hc : ∀ j v, cs[j]? = some v → w.cell? (ad.add j) = some v) : (loadVar T ad).run P w = .ok (.agg cs.toArray) w := by
  have := run_loadCells_list (P := P) w ad cs hc
  rw [hl] at this
  simp [loadVar, h.agg, ha, h.size, this, pure]
theorem run_loadVar_one {P : Program} {T : TypeId} {i : TyI} (h : TyOk P T i) (ha : i.shape.agg = false) (w : World) (ad : Addr) (v : Value) (hc : w.cell? ad = some v) : (loadVar T ad).run P w = .ok v w := by
  simp [loadVar, h.agg, ha, load, Sem.run, hc]
theorem blk_cells {w : World} {g : Nat} {ty : TypeId} {vs : Array Value} (h : Blk w g ty vs) (j : Nat) (hj : j < vs.size) : w.cell? ⟨g, j, none⟩ = some (vs.getD j undef) := by
  rw [h.cell, Array.getElem?_eq_getElem hj]
  simp [Array.getD, hj]

theorem r_load_agg {T id off : Nat} {x : Operand} {i : TyI} {ty : TypeId} {cs : List AV} (ho : o.op = .load T x) (hd : dok cx o = true) (hxo : opdOk x = true) (hx : σ.eval x = .ptr id off) (hT : lkT cx.E.tab T = some i) (ha : i.shape.agg = true) (hl : σ.find id = some (.box ty cs)) (hn : off + i.sz ≤ cs.length) :
    OpRule cx o σ (.agg ((cs.drop off).take i.sz)) [id] [] :=
  rule_val hd fun τ γ a w h1 h2 hst => by
    have hev := hst.ev x hxo
    rw [h1 x (by simp [ho, Op.operands]), hx] at hev
    have hme := hst.me id
    rw [h2 id (by simp), hl] at hme
    obtain ⟨d, hd', g, vs, hde, hb, hsz, hr, hone⟩ := hme
    subst hde
    have e := hev.ptr_inv hd'
    have hlen : ((List.range i.sz).map fun j => vs.getD (off + j) undef).length = i.sz := by simp
    have hrun := run_loadVar_agg (cx.E.ok T i hT) ha w ⟨g, off, none⟩ ((List.range i.sz).map fun j => vs.getD (off + j) undef) hlen (fun j v hj => by
      obtain ⟨hj1, hj2⟩ := List.getElem?_eq_some_iff.1 hj
      rw [hlen] at hj1
      simp only [List.getElem_map, List.getElem_range] at hj2
      rw [Addr.add_lit, blk_cells hb _ (by omega), hj2])
    refine ⟨.agg ((List.range i.sz).map fun j => vs.getD (off + j) undef).toArray, by simp only [execOp, ho, e, Instr.loadAt, Instr.sureAddr, Sem.run_bind, Sem.run_pure, Result.andThen_ok, hrun], .agg _ (by simp; omega) (fun j hj => ?_) (fun j hj => ?_)⟩
    · rw [List.length_take, List.length_drop] at hj
      simp only [List.getElem_take, List.getElem_drop]
      have : ((List.range i.sz).map fun j => vs.getD (off + j) undef).toArray.getD j undef = vs.getD (off + j) undef := by
        have hj' : j < i.sz := by omega
        simp [hj']
      rw [this]
      exact hr (off + j) (by omega)
    · have hj' : j < i.sz := by simpa using hj
      have : ((List.range i.sz).map fun j => vs.getD (off + j) undef).toArray.getD j undef = vs.getD (off + j) undef := by
        simp [hj']
      rw [this]
      exact hone _ (by omega)
theorem r_load_one {T id off : Nat} {x : Operand} {i : TyI} {ty : TypeId} {cs : List AV} {av : AV} (ho : o.op = .load T x) (hd : dok cx o = true) (hxo : opdOk x = true) (hx : σ.eval x = .ptr id off) (hT : lkT cx.E.tab T = some i) (ha : i.shape.agg = false) (hl : σ.find id = some (.box ty cs)) (hc : cs[off]? = some av) :
    OpRule cx o σ av [id] [] :=
  rule_val hd fun τ γ a w h1 h2 hst => by
    have hev := hst.ev x hxo
    rw [h1 x (by simp [ho, Op.operands]), hx] at hev
    have hme := hst.me id
    rw [h2 id (by simp), hl] at hme
    obtain ⟨d, hd', g, vs, hde, hb, hsz, hr, hone⟩ := hme
    subst hde
    have e := hev.ptr_inv hd'
    obtain ⟨hlt, hc'⟩ := List.getElem?_eq_some_iff.1 hc
    have hrun := run_loadVar_one (cx.E.ok T i hT) ha w ⟨g, off, none⟩ (vs.getD off undef) (blk_cells hb off (by omega))
    refine ⟨vs.getD off undef, by simp only [execOp, ho, e, Instr.loadAt, Instr.sureAddr, Sem.run_bind, Sem.run_pure, Result.andThen_ok, hrun], ?_⟩
    have := hr off hlt
    rwa [hc'] at this
theorem r_load_ref_agg {T : Nat} {x : Operand} {i : TyI} {cs : List AV} (ho : o.op = .load T x) (hd : dok cx o = true) (hxo : opdOk x = true) (hx : σ.eval x = .ref cs) (hT : lkT cx.E.tab T = some i) (ha : i.shape.agg = true) (hn : i.sz ≤ cs.length) :
    OpRule cx o σ (.agg (cs.take i.sz)) [] [] :=
  rule_val hd fun τ γ a w h1 h2 hst => by
    have hev := hst.ev x hxo
    rw [h1 x (by simp [ho, Op.operands]), hx] at hev
    obtain ⟨b, off, e, hS, hb, cell, hc, hr, h1c⟩ := hev.ref_inv
    have hlen : ((List.range i.sz).map cell).length = i.sz := by simp
    have hrun := run_loadVar_agg (cx.E.ok T i hT) ha w ⟨b, off, none⟩ ((List.range i.sz).map cell) hlen (fun j v hj => by
      obtain ⟨hj1, hj2⟩ := List.getElem?_eq_some_iff.1 hj
      rw [hlen] at hj1
      simp only [List.getElem_map, List.getElem_range] at hj2
      rw [Addr.add_lit, hc _ (by omega), hj2])
    refine ⟨.agg ((List.range i.sz).map cell).toArray, by simp only [execOp, ho, e, Instr.loadAt, Instr.sureAddr, Sem.run_bind, Sem.run_pure, Result.andThen_ok, hrun], .agg _ (by simp; omega) (fun j hj => ?_) (fun j hj => ?_)⟩
    · rw [List.length_take] at hj
      simp only [List.getElem_take]
      have : ((List.range i.sz).map cell).toArray.getD j undef = cell j := by
        have hj' : j < i.sz := by omega
        simp [hj']
      rw [this]
      exact (hr j (by omega)).open_
    · have hj' : j < i.sz := by simpa using hj
      have : ((List.range i.sz).map cell).toArray.getD j undef = cell j := by simp [hj']
      rw [this]
      exact h1c _ (by omega)
theorem r_load_ref_one {T : Nat} {x : Operand} {i : TyI} {av : AV} {cs : List AV} (ho : o.op = .load T x) (hd : dok cx o = true) (hxo : opdOk x = true) (hx : σ.eval x = .ref (av :: cs)) (hT : lkT cx.E.tab T = some i) (ha : i.shape.agg = false) :
    OpRule cx o σ av [] [] :=
  rule_val hd fun τ γ a w h1 h2 hst => by
    have hev := hst.ev x hxo
    rw [h1 x (by simp [ho, Op.operands]), hx] at hev
    obtain ⟨b, off, e, hS, hb, cell, hc, hr, h1c⟩ := hev.ref_inv
    have hrun := run_loadVar_one (cx.E.ok T i hT) ha w ⟨b, off, none⟩ (cell 0) (by simpa using hc 0 (by simp))
    exact ⟨cell 0, by simp only [execOp, ho, e, Instr.loadAt, Instr.sureAddr, Sem.run_bind, Sem.run_pure, Result.andThen_ok, hrun], (hr 0 (by simp)).open_⟩

/-! ### Stores -/
theorem run_storeVar {P : Program} {T : TypeId} {i : TyI} (h : TyOk P T i) (w : World) (g off : Nat) (ty : TypeId) (vs : Array Value) (v : Value) (hb : Blk w g ty vs) (hl : v.cells.size = i.sz) (hfit : off + i.sz ≤ vs.size) (h1 : ∀ u ∈ v.cells.toList, u.oneCell' = true) :
    (storeVar T ⟨g, off, none⟩ v).run P w = .ok () (w.setRow g (vs.toList.take off ++ v.cells.toList ++ vs.toList.drop (off + i.sz)).toArray) := by
  have := run_storeCells_at P g off ty v.cells.toList 0 vs w hb (by simp [hl]; omega) h1
  simp only [Nat.add_zero, Array.length_toList, hl] at this
  simp [storeVar, h.size, hl, this]

theorem r_store {T id off : Nat} {x y : Operand} {i : TyI} {ty : TypeId} {cs cs' : List AV} {av : AV} (ho : o.op = .store T x y) (hd : dok cx o = true) (hxo : opdOk x = true) (hyo : opdOk y = true) (hx : σ.eval x = .ptr id off) (hy : σ.eval y = av) (hT : lkT cx.E.tab T = some i) (hl : σ.find id = some (.box ty cs)) (hn : off + i.sz ≤ cs.length)
    (hav : av.cells.length = i.sz) (hc : okc σ av = true) (hcs : cs.take off ++ av.cells ++ cs.drop (off + i.sz) = cs') : OpRule cx o σ (.tup []) (id :: av.ids) [(id, .box ty cs')] := by
  refine ⟨fun id' e he => ?_, fun τ h1 h2 a w Q K ⟨γ, hst⟩ hK => ?_⟩
  · simp only [lkE] at he
    cases hb : Nat.beq id id' with
    | true => simp [Nat.eq_of_beq_eq_true hb]
    | false => rw [hb] at he; cases he
  have hev := hst.ev x hxo
  rw [h1 x (by simp [ho, Op.operands]), hx] at hev
  have hevy := hst.ev y hyo
  rw [h1 y (by simp [ho, Op.operands]), hy] at hevy
  have hme := hst.me id
  rw [h2 id (by simp), hl] at hme
  obtain ⟨d, hd', g, vs, hde, hb, hsz, hr, hone⟩ := hme
  subst hde
  have e := hev.ptr_inv hd'
  obtain ⟨c1, c2, c3⟩ := cells_rep hst hevy hc (fun id hid => h2 id (by simp [hid]))
  have hone' : ∀ u ∈ (a.eval y).cells.toList, u.oneCell' = true := fun u hu => by
    obtain ⟨j, hj, rfl⟩ := List.mem_iff_getElem.1 hu
    have hj' : j < (a.eval y).cells.size := by simpa using hj
    have := c3 j hj'
    simpa [Array.getD, hj'] using this
  have hrun := run_storeVar (cx.E.ok T i hT) w g off ty vs (a.eval y) hb (c1.trans hav) (by omega) hone'
  unfold Oper.wp
  have hex : (execOp a.eval o).run cx.P w = .ok .skip (w.setRow g (vs.toList.take off ++ (a.eval y).cells.toList ++ vs.toList.drop (off + i.sz)).toArray) := by
    simp only [execOp, ho, e, Instr.storeAt, Instr.sureAddr, Sem.run_bind, Sem.run_pure, Result.andThen_ok, hrun]
  rw [hex]
  have hblk := setRow_heap w g vs (vs.toList.take off ++ (a.eval y).cells.toList ++ vs.toList.drop (off + i.sz)).toArray ty (0, 0) hb
  have hoth : ∀ k, k ≠ g → (w.setRow g (vs.toList.take off ++ (a.eval y).cells.toList ++ vs.toList.drop (off + i.sz)).toArray).heap[k]? = w.heap[k]? := fun k hk => setRow_other w g k _ hk
  have hgo : own γ g := ⟨id, _, hd'⟩
  have hgl := hst.ge g hgo
  have hns : ∀ b, Sg cx.S0 cx.w0.heap.size γ b → b ≠ g := fun b hS e => by
    subst e
    rcases hS with ⟨_, h⟩ | ⟨_, h⟩
    · have := hgl.1.1; omega
    · exact h hgo
  generalize hw' : w.setRow g (vs.toList.take off ++ (a.eval y).cells.toList ++ vs.toList.drop (off + i.sz)).toArray = w' at *
  have hz : w.heap.size ≤ w'.heap.size := by rw [← hw']; simp
  refine hK _ _ ⟨γ, hst.step (dok_iff hd) hz (fun b hS hlt => ⟨hoth b (hns b hS), hS⟩) (fun id d h => Or.inl h) (fun id' hid' => ⟨rfl, fun g' s hg' => hoth g' ?_⟩) (fun id' e' he' => ?_) hst.inj (fun b hbo => ⟨(hst.ge b hbo).1, Nat.lt_of_lt_of_le (hst.ge b hbo).2 hz⟩) ?_ (.tup #[] rfl (fun i hi => by simp at hi)) (fun b hno _ => ⟨hoth b (fun e => hno (e ▸ hgo)), hno⟩)⟩
  · rintro rfl
    have := hst.inj _ _ _ _ _ hg' hd'
    subst this
    simp [lkE] at hid'
  · have hid : id' = id := by
      simp only [lkE] at he'
      cases hbq : Nat.beq id id' with
      | true => exact (Nat.eq_of_beq_eq_true hbq).symm
      | false => rw [hbq] at he'; cases he'
    subst hid
    simp only [lkE, Nat.beq_refl, Option.some.injEq] at he'
    subst he'
    have hmv : ∀ {av v}, Rep w (Sg cx.S0 cx.w0.heap.size γ) γ av v → Rep w' (Sg cx.S0 cx.w0.heap.size γ) γ av v := fun h => h.mono hz (fun b hS _ => ⟨hoth b (hns b hS), hS⟩)
    have hcl : cs'.length = cs.length := by rw [← hcs]; simp; omega
    have hvl : (vs.toList.take off ++ (a.eval y).cells.toList ++ vs.toList.drop (off + i.sz)).toArray.size = vs.size := by
      simp; omega
    have hat : ∀ j (hj : j < cs.length), (vs.toList.take off ++ (a.eval y).cells.toList ++ vs.toList.drop (off + i.sz)).toArray.getD j undef = if j < off then vs.getD j undef else if j < off + i.sz then (a.eval y).cells.getD (j - off) undef else vs.getD j undef := fun j hj => by
      simp only [Array.getD_eq_getD_getElem?, List.getElem?_toArray]
      congr 1
      by_cases h1 : j < off
      · rw [if_pos h1]
        rw [List.append_assoc, List.getElem?_append_left (by simp; omega), List.getElem?_take_of_lt h1]
        simp
      · rw [if_neg h1]
        by_cases h2 : j < off + i.sz
        · rw [if_pos h2, List.append_assoc, List.getElem?_append_right (by simp; omega), List.getElem?_append_left (by simp; omega)]
          rw [show j - (List.take off vs.toList).length = j - off by simp; omega]
          simp
        · rw [if_neg h2, List.getElem?_append_right (by simp; omega), List.getElem?_drop]
          rw [show off + i.sz + (j - (List.take off vs.toList ++ (a.eval y).cells.toList).length) = j by simp; omega]
          simp
    refine ⟨_, hd', g, _, rfl, hblk, by omega, fun j hj => ?_, fun j hj => ?_⟩
    · rw [hat j (by omega)]
      have hcj : cs'[j] = if h1 : j < off then cs[j]'(by omega) else if h2 : j < off + i.sz then av.cells[j - off]'(by omega) else cs[j]'(by omega) := by
        subst hcs
        by_cases h1 : j < off
        · rw [dif_pos h1, List.getElem_append_left (by simp; omega), List.getElem_append_left (by simp; omega), List.getElem_take]
        · rw [dif_neg h1]
          by_cases h2 : j < off + i.sz
          · rw [dif_pos h2, List.getElem_append_left (by simp; omega), List.getElem_append_right (by simp; omega)]
            congr 1
            simp; omega
          · rw [dif_neg h2, List.getElem_append_right (by simp; omega), List.getElem_drop]
            congr 1
            simp; omega
      rw [hcj]
      by_cases h1 : j < off
      · rw [if_pos h1, dif_pos h1]; exact hmv (hr j (by omega))
      · rw [if_neg h1, dif_neg h1]
        by_cases h2 : j < off + i.sz
        · rw [if_pos h2, dif_pos h2]; exact hmv (c2 (j - off) (by omega))
        · rw [if_neg h2, dif_neg h2]; exact hmv (hr j (by omega))
    · rw [hvl] at hj
      rw [hat j (by omega)]
      by_cases h1 : j < off
      · rw [if_pos h1]; exact hone j hj
      · rw [if_neg h1]
        by_cases h2 : j < off + i.sz
        · rw [if_pos h2]; exact c3 (j - off) (by omega)
        · rw [if_neg h2]; exact hone j hj
  · refine hst.below.trans ⟨by rw [← hw']; rfl, by rw [← hw']; rfl, by rw [← hw']; rfl, hz, fun k hk => hoth k (by have := hgl.1.1; omega)⟩
end
end Go.Proofs.Ythhnhajldhnfmaa
namespace Go.Proofs.Ythhnhajldhnfmaa
open Go.RowKit

theorem und_slc {P : Program} {T : TypeId} {i : TyI} {e esz eb : Nat} (h : TyOk P T i) (hs : i.shape = .slc e esz eb) : P.underlying T = some (.slice e) ∧ P.cellsOf e = esz ∧ P.bytesOf e = eb := by
  obtain ⟨d, hd, he⟩ := h.und
  rw [hs] at he
  cases d <;> simp only [shapeOf, Shape.slc.injEq, reduceCtorEq] at he
  obtain ⟨rfl, h2, h3⟩ := he
  exact ⟨hd, h2, h3⟩
theorem size_of_cells {P : Program} {e esz : Nat} (h : P.cellsOf e = esz) (hz : esz ≠ 0) (w : World) : (sizeOf e).run P w = .ok esz w := by
  unfold Program.cellsOf at h
  cases hq : P.info? e with
  | none => rw [hq] at h; simp at h; exact absurd h.symm hz
  | some info => rw [hq] at h; simp at h; simp [sizeOf, typeInfo, hq, h]

section
variable {cx : Cx} {o : Oper} {σ : AS}

theorem r_indexAddr_sl {T : Nat} {x y : Operand} {i : TyI} {e sz eb : Nat} {xs : List AV} {k : IntKind} {n : Int} {m : Nat} {el : AV} (ho : o.op = .indexAddr T x y) (hd : dok cx o = true) (hxo : opdOk x = true) (hyo : opdOk y = true) (hx : σ.eval x = .sl sz xs) (hy : σ.eval y = .int k n)
    (hT : lkT cx.E.tab T = some i) (hs : i.shape = .slc e sz eb) (hz : sz ≠ 0) (hn : n = (m : Int)) (he : xs[m]? = some el) : OpRule cx o σ (.ref el.cells) [] [] :=
  rule_val hd fun τ γ a w h1 h2 hst => by
    have hev := hst.ev x hxo
    rw [h1 x (by simp [ho, Op.operands]), hx] at hev
    have hevy := hst.ev y hyo
    rw [h1 y (by simp [ho, Op.operands]), hy] at hevy
    obtain ⟨hm, hel⟩ := List.getElem?_eq_some_iff.1 he
    obtain ⟨A, c, ex, hc, hlen, cell, hb, hr, h1c⟩ := hev.sl_inv
    obtain ⟨b, off, rfl, hS, hlt, hcell⟩ := hb (by omega)
    obtain ⟨hu, hce, _⟩ := und_slc (cx.E.ok T i hT) hs
    have hl := hlen m hm
    rw [hel] at hl
    refine ⟨.pointer (some ⟨b, off + m * sz, none⟩), ?_, .ref b (off + m * sz) (fun j => cell m j) hS hlt (fun j hj => ?_) (fun j hj => ?_) (fun j hj => h1c m j)⟩
    · subst hn
      simp [execOp, ho, ex, hevy.int_inv, Instr.indexAt, asIntOf, run_underlying hu, size_of_cells hce hz, hm, pure, Addr.add_lit]
    · have := hcell m j hm (by omega)
      rwa [← Nat.add_assoc] at this
    · have hj' : j < (xs[m]).cells.length := by rw [hel]; exact hj
      have := hr m hm j hj'
      simp only [hel] at this
      exact this
theorem r_indexAddr_row {T id : Nat} {x y : Operand} {i : TyI} {e sz eb : Nat} {ty : TypeId} {xs : List AV} {k : IntKind} {n : Int} {m : Nat} (ho : o.op = .indexAddr T x y) (hd : dok cx o = true) (hxo : opdOk x = true) (hyo : opdOk y = true) (hx : σ.eval x = .row id) (hy : σ.eval y = .int k n)
    (hl : σ.find id = some (.row ty sz xs)) (hT : lkT cx.E.tab T = some i) (hs : i.shape = .slc e sz eb) (hz : sz ≠ 0) (hn : n = (m : Int)) (hm : m < xs.length) : OpRule cx o σ (.elt id sz m 0) [id] [] :=
  rule_val hd fun τ γ a w h1 h2 hst => by
    have hev := hst.ev x hxo
    rw [h1 x (by simp [ho, Op.operands]), hx] at hev
    have hevy := hst.ev y hyo
    rw [h1 y (by simp [ho, Op.operands]), hy] at hevy
    have hme := hst.me id
    rw [h2 id (by simp), hl] at hme
    obtain ⟨d, hd', s, vs, hde, _, hown, _⟩ := hme
    subst hde
    obtain ⟨hu, hce, _⟩ := und_slc (cx.E.ok T i hT) hs
    have ex := hev.row_inv hd'
    rcases hown.2 with ⟨rfl, h0⟩ | ⟨g, cap, cur, rfl, _⟩
    · omega
    refine ⟨.pointer (some ⟨g, m * sz, none⟩), ?_, .elt hd' (fun g' s e => by injection e with e; injection e with e _; simp only [Value.ownBlock, Option.some.injEq] at e; rw [← e]; rfl)⟩
    subst hn
    simp [execOp, ho, ex, hevy.int_inv, Instr.indexAt, asIntOf, run_underlying hu, size_of_cells hce hz, hm, pure, Addr.add_lit]

/-! ### Elements of the call's own rows -/
theorem row_cells {w : World} {B ty sz n : Nat} {s : Value} {vs : List Value} {g : Nat} (h : w.ownsRow B ty sz s n vs) (hg : s.ownBlock = some g) (j : Nat) (hj : j < n * sz) : w.cell? ⟨g, j, none⟩ = some (vs.getD j undef) := by
  obtain ⟨hl, h⟩ := h
  rcases h with ⟨rfl, h0⟩ | ⟨g', cap, cur, rfl, hb, hh, hn, hm, hs, ht⟩
  · simp [Value.ownBlock] at hg
  · simp only [Value.ownBlock, Option.some.injEq] at hg
    subst hg
    have hsz : n * sz ≤ cap * sz := Nat.mul_le_mul_right _ hn
    rw [cell_of_row w g' j cur ty (0, 0) hh, ← ht]
    rw [List.getD_eq_getElem?_getD, List.getElem?_take_of_lt hj]
    simp only [Array.getElem?_toList]
    rw [Array.getElem?_eq_getElem (by omega)]
    rfl
theorem r_load_elt_agg {T id sz k : Nat} {x : Operand} {i : TyI} {ty : TypeId} {xs : List AV} {el : AV} (ho : o.op = .load T x) (hd : dok cx o = true) (hxo : opdOk x = true) (hx : σ.eval x = .elt id sz k 0) (hT : lkT cx.E.tab T = some i) (ha : i.shape.agg = true) (hl : σ.find id = some (.row ty sz xs)) (hsz : i.sz = sz) (he : xs[k]? = some el) :
    OpRule cx o σ (.agg el.cells) [id] [] :=
  rule_val hd fun τ γ a w h1 h2 hst => by
    have hev := hst.ev x hxo
    rw [h1 x (by simp [ho, Op.operands]), hx] at hev
    have hme := hst.me id
    rw [h2 id (by simp), hl] at hme
    obtain ⟨d, hd', s, vs, hde, _, hown, hlen, hr, hone⟩ := hme
    subst hde
    obtain ⟨hk, hel⟩ := List.getElem?_eq_some_iff.1 he
    have hg : ∃ g, s.ownBlock = some g := by
      rcases hown.2 with ⟨rfl, h0⟩ | ⟨g, cap, cur, rfl, _⟩
      · omega
      · exact ⟨g, rfl⟩
    obtain ⟨g, hg⟩ := hg
    rw [hg] at hd'
    have e := hev.elt_inv hd'
    have hle := hlen k hk
    rw [hel] at hle
    have hin : ∀ j, j < sz → k * sz + j < xs.length * sz := fun j hj => by
      have : (k + 1) * sz ≤ xs.length * sz := Nat.mul_le_mul_right _ hk
      rw [Nat.succ_mul] at this
      omega
    have hln : ((List.range i.sz).map fun j => vs.getD (k * sz + j) undef).length = i.sz := by simp
    have hrun := run_loadVar_agg (cx.E.ok T i hT) ha w ⟨g, k * sz + 0, none⟩ ((List.range i.sz).map fun j => vs.getD (k * sz + j) undef) hln (fun j v hj => by
      obtain ⟨hj1, hj2⟩ := List.getElem?_eq_some_iff.1 hj
      rw [hln] at hj1
      simp only [List.getElem_map, List.getElem_range] at hj2
      rw [Addr.add_lit, Nat.add_zero, row_cells hown hg _ (hin j (by omega)), hj2])
    refine ⟨.agg ((List.range i.sz).map fun j => vs.getD (k * sz + j) undef).toArray, by simp only [execOp, ho, e, Instr.loadAt, Instr.sureAddr, Sem.run_bind, Sem.run_pure, Result.andThen_ok, hrun], .agg _ (by simp; omega) (fun j hj => ?_) (fun j hj => ?_)⟩
    · have : ((List.range i.sz).map fun j => vs.getD (k * sz + j) undef).toArray.getD j undef = vs.getD (k * sz + j) undef := by
        have hj' : j < i.sz := by omega
        simp [hj']
      rw [this]
      have hj' : j < (xs[k]).cells.length := by rw [hel]; exact hj
      have := hr k hk j hj'
      simp only [hel] at this
      exact this.open_
    · have hj' : j < i.sz := by simpa using hj
      have : ((List.range i.sz).map fun j => vs.getD (k * sz + j) undef).toArray.getD j undef = vs.getD (k * sz + j) undef := by simp [hj']
      rw [this]
      have hb : k * sz + j < vs.length := by rw [hown.1]; exact hin j (by omega)
      rw [List.getD_eq_getElem?_getD, List.getElem?_eq_getElem hb]
      exact hone _ (List.getElem_mem hb)
theorem r_load_elt_one {T id sz k j : Nat} {x : Operand} {i : TyI} {ty : TypeId} {xs : List AV} {el av : AV} (ho : o.op = .load T x) (hd : dok cx o = true) (hxo : opdOk x = true) (hx : σ.eval x = .elt id sz k j) (hT : lkT cx.E.tab T = some i) (ha : i.shape.agg = false) (hl : σ.find id = some (.row ty sz xs)) (he : xs[k]? = some el) (hc : el.cells[j]? = some av) :
    OpRule cx o σ av [id] [] :=
  rule_val hd fun τ γ a w h1 h2 hst => by
    have hev := hst.ev x hxo
    rw [h1 x (by simp [ho, Op.operands]), hx] at hev
    have hme := hst.me id
    rw [h2 id (by simp), hl] at hme
    obtain ⟨d, hd', s, vs, hde, _, hown, hlen, hr, hone⟩ := hme
    subst hde
    obtain ⟨hk, hel⟩ := List.getElem?_eq_some_iff.1 he
    obtain ⟨hj, hcj⟩ := List.getElem?_eq_some_iff.1 hc
    have hg : ∃ g, s.ownBlock = some g := by
      rcases hown.2 with ⟨rfl, h0⟩ | ⟨g, cap, cur, rfl, _⟩
      · omega
      · exact ⟨g, rfl⟩
    obtain ⟨g, hg⟩ := hg
    rw [hg] at hd'
    have e := hev.elt_inv hd'
    have hle := hlen k hk
    rw [hel] at hle
    have hin : k * sz + j < xs.length * sz := by
      have : (k + 1) * sz ≤ xs.length * sz := Nat.mul_le_mul_right _ hk
      rw [Nat.succ_mul] at this
      omega
    have hrun := run_loadVar_one (cx.E.ok T i hT) ha w ⟨g, k * sz + j, none⟩ _ (row_cells hown hg _ hin)
    refine ⟨vs.getD (k * sz + j) undef, by simp only [execOp, ho, e, Instr.loadAt, Instr.sureAddr, Sem.run_bind, Sem.run_pure, Result.andThen_ok, hrun], ?_⟩
    have hj' : j < (xs[k]).cells.length := by rw [hel]; exact hj
    have := hr k hk j hj'
    simp only [hel, hcj] at this
    exact this.open_

/-! ### Aggregates by value -/
theorem getElem?_of_getD {vs : Array Value} {j : Nat} (h : j < vs.size) : vs[j]? = some (vs.getD j undef) := by
  rw [Array.getD_eq_getD_getElem?, Array.getElem?_eq_getElem h]; rfl
theorem r_field_one {T f fo fsz : Nat} {x : Operand} {i : TyI} {fs : List (Nat × Nat × Option Bool)} {cs : List AV} {av : AV} (ho : o.op = .field T x f) (hd : dok cx o = true) (hxo : opdOk x = true) (hx : σ.eval x = .agg cs) (hT : lkT cx.E.tab T = some i) (hs : i.shape = .strct fs) (hf : fs[f]? = some (fo, fsz, some false)) (hc : cs[fo]? = some av) :
    OpRule cx o σ av [] [] :=
  rule_val hd fun τ γ a w h1 h2 hst => by
    have hev := hst.ev x hxo
    rw [h1 x (by simp [ho, Op.operands]), hx] at hev
    obtain ⟨vs, e, hl, hr, h1c⟩ := hev.agg_inv
    obtain ⟨Fs, hF, rfl⟩ := und_strct (cx.E.ok T i hT) hs
    simp only [List.getElem?_map, Option.map_eq_some_iff, Prod.mk.injEq] at hf
    obtain ⟨fd, hfd, e1, e2, e3⟩ := hf
    have hfd' : Fs[f]? = some fd := by simpa using hfd
    obtain ⟨hlt, hc'⟩ := List.getElem?_eq_some_iff.1 hc
    have hagg := run_isAggT e3 w
    have hget := getElem?_of_getD (vs := vs) (j := fo) (by omega)
    refine ⟨vs.getD fo undef, ?_, ?_⟩
    · simp only [execOp, ho, e, Instr.field, Sem.run_bind, Sem.run_pure, Result.andThen_ok, run_underlying hF, hfd', asAgg, part, hagg, e1, hget]
      rfl
    · have := hr fo hlt
      rwa [hc'] at this
theorem r_field_agg {T f fo fsz : Nat} {x : Operand} {i : TyI} {fs : List (Nat × Nat × Option Bool)} {cs : List AV} (ho : o.op = .field T x f) (hd : dok cx o = true) (hxo : opdOk x = true) (hx : σ.eval x = .agg cs) (hT : lkT cx.E.tab T = some i) (hs : i.shape = .strct fs) (hf : fs[f]? = some (fo, fsz, some true)) (hz : fsz ≠ 0) (hc : fo + fsz ≤ cs.length) :
    OpRule cx o σ (.agg ((cs.drop fo).take fsz)) [] [] :=
  rule_val hd fun τ γ a w h1 h2 hst => by
    have hev := hst.ev x hxo
    rw [h1 x (by simp [ho, Op.operands]), hx] at hev
    obtain ⟨vs, e, hl, hr, h1c⟩ := hev.agg_inv
    obtain ⟨Fs, hF, rfl⟩ := und_strct (cx.E.ok T i hT) hs
    simp only [List.getElem?_map, Option.map_eq_some_iff, Prod.mk.injEq] at hf
    obtain ⟨fd, hfd, e1, e2, e3⟩ := hf
    have hfd' : Fs[f]? = some fd := by simpa using hfd
    have hagg := run_isAggT e3 w
    have hsz := size_of_cells e2 hz w
    have hx : ∀ j, j < fsz → (vs.extract fo (fo + fsz)).getD j undef = vs.getD (fo + j) undef := fun j hj => by
      rw [Array.getD_eq_getD_getElem?, Array.getD_eq_getD_getElem?, Array.getElem?_extract, if_pos (by omega)]
    refine ⟨.agg (vs.extract fo (fo + fsz)), ?_, .agg _ (by simp; omega) (fun j hj => ?_) (fun j hj => ?_)⟩
    · simp only [execOp, ho, e, Instr.field, Sem.run_bind, Sem.run_pure, Result.andThen_ok, run_underlying hF, hfd', asAgg, part, hagg, e1, if_true, hsz]
    · rw [List.length_take, List.length_drop] at hj
      rw [hx j (by omega)]
      simp only [List.getElem_take, List.getElem_drop]
      exact hr (fo + j) (by omega)
    · have hj' : j < fsz := by simp at hj; omega
      rw [hx j hj']
      exact h1c _ (by omega)
theorem r_index_one {T n e esz : Nat} {x y : Operand} {i : TyI} {cs : List AV} {av : AV} {k : IntKind} {m : Int} {q : Nat} (ho : o.op = .index T x y) (hd : dok cx o = true) (hxo : opdOk x = true) (hyo : opdOk y = true) (hx : σ.eval x = .agg cs) (hy : σ.eval y = .int k m) (hT : lkT cx.E.tab T = some i)
    (hs : i.shape = .arr n e esz (some false)) (hz : esz ≠ 0) (hm : m = (q : Int)) (hq : q < n) (hc : cs[q * esz]? = some av) : OpRule cx o σ av [] [] :=
  rule_val hd fun τ γ a w h1 h2 hst => by
    have hev := hst.ev x hxo
    rw [h1 x (by simp [ho, Op.operands]), hx] at hev
    have hevy := hst.ev y hyo
    rw [h1 y (by simp [ho, Op.operands]), hy] at hevy
    obtain ⟨vs, ex, hl, hr, h1c⟩ := hev.agg_inv
    obtain ⟨d, hdu, he⟩ := (cx.E.ok T i hT).und
    rw [hs] at he
    cases d <;> simp only [shapeOf, Shape.arr.injEq, reduceCtorEq] at he
    obtain ⟨hn, rfl, e2, e3⟩ := he
    subst hn
    obtain ⟨hlt, hc'⟩ := List.getElem?_eq_some_iff.1 hc
    have hagg := run_isAggT e3 w
    have hget := getElem?_of_getD (vs := vs) (j := q * esz) (by omega)
    subst hm
    have hres := hr (q * esz) hlt
    rw [hc'] at hres
    generalize vs.getD (q * esz) undef = u at *
    exact ⟨u, by simp [execOp, ho, ex, hevy.int_inv, Instr.index, asIntOf, run_underlying hdu, size_of_cells e2 hz, hq, part, hagg, hget, pure], hres⟩
theorem r_index_agg {T n e esz : Nat} {x y : Operand} {i : TyI} {cs : List AV} {k : IntKind} {m : Int} {q : Nat} (ho : o.op = .index T x y) (hd : dok cx o = true) (hxo : opdOk x = true) (hyo : opdOk y = true) (hx : σ.eval x = .agg cs) (hy : σ.eval y = .int k m) (hT : lkT cx.E.tab T = some i)
    (hs : i.shape = .arr n e esz (some true)) (hz : esz ≠ 0) (hm : m = (q : Int)) (hq : q < n) (hc : q * esz + esz ≤ cs.length) : OpRule cx o σ (.agg ((cs.drop (q * esz)).take esz)) [] [] :=
  rule_val hd fun τ γ a w h1 h2 hst => by
    have hev := hst.ev x hxo
    rw [h1 x (by simp [ho, Op.operands]), hx] at hev
    have hevy := hst.ev y hyo
    rw [h1 y (by simp [ho, Op.operands]), hy] at hevy
    obtain ⟨vs, ex, hl, hr, h1c⟩ := hev.agg_inv
    obtain ⟨d, hdu, he⟩ := (cx.E.ok T i hT).und
    rw [hs] at he
    cases d <;> simp only [shapeOf, Shape.arr.injEq, reduceCtorEq] at he
    obtain ⟨rfl, rfl, e2, e3⟩ := he
    have hagg := run_isAggT e3 w
    have hxx : ∀ j, j < esz → (vs.extract (q * esz) (q * esz + esz)).getD j undef = vs.getD (q * esz + j) undef := fun j hj => by
      rw [Array.getD_eq_getD_getElem?, Array.getD_eq_getD_getElem?, Array.getElem?_extract, if_pos (by omega)]
    subst hm
    refine ⟨.agg (vs.extract (q * esz) (q * esz + esz)), ?_, .agg _ (by simp; omega) (fun j hj => ?_) (fun j hj => ?_)⟩
    · simp [execOp, ho, ex, hevy.int_inv, Instr.index, asIntOf, run_underlying hdu, size_of_cells e2 hz, hq, part, hagg, pure]
    · rw [List.length_take, List.length_drop] at hj
      rw [hxx j (by omega)]
      simp only [List.getElem_take, List.getElem_drop]
      exact hr (q * esz + j) (by omega)
    · have hj' : j < esz := by simp at hj; omega
      rw [hxx j hj']
      exact h1c _ (by omega)
theorem r_extract {x : Operand} {ix : Nat} {cs : List AV} {av : AV} (ho : o.op = .extract x ix) (hd : dok cx o = true) (hxo : opdOk x = true) (hx : σ.eval x = .tup cs) (hc : cs[ix]? = some av) : OpRule cx o σ av [] [] :=
  rule_val hd fun τ γ a w h1 h2 hst => by
    have hev := hst.ev x hxo
    rw [h1 x (by simp [ho, Op.operands]), hx] at hev
    obtain ⟨vs, e, hl, hr⟩ := hev.tup_inv
    obtain ⟨hlt, hc'⟩ := List.getElem?_eq_some_iff.1 hc
    have hget := getElem?_of_getD (vs := vs) (j := ix) (by omega)
    have hres := hr ix hlt
    rw [hc'] at hres
    generalize vs.getD ix undef = u at *
    exact ⟨u, by simp [execOp, ho, e, Instr.extract, hget, pure], hres⟩

/-! ### Length -/
theorem r_len_sl {T ty sz : Nat} {x : Operand} {i : TyI} {e esz eb : Nat} {xs : List AV} (ho : o.op = .call { callee := .builtin .len, args := #[x], argTypes := #[T] }) (hd : dok cx o = true) (hxo : opdOk x = true) (hx : σ.eval x = .sl sz xs) (hT : lkT cx.E.tab T = some i) (hs : i.shape = .slc e esz eb) :
    OpRule cx o σ (.int .i64 (xs.length : Int)) [] [] :=
  rule_val hd fun τ γ a w h1 h2 hst => by
    have hev := hst.ev x hxo
    rw [h1 x (by simp [ho, Op.operands, Call.operands]), hx] at hev
    obtain ⟨A, c, ex, _⟩ := hev.sl_inv
    obtain ⟨hu, _, _⟩ := und_slc (cx.E.ok T i hT) hs
    exact ⟨.int .i64 (xs.length : Int), by simp [execOp, ho, resolve, invoke, builtin, Builtin.len_, ex, run_underlying hu, goInt, pure], .int _ _⟩
theorem r_len_nils {T ty : Nat} {x : Operand} {i : TyI} {e esz eb : Nat} (ho : o.op = .call { callee := .builtin .len, args := #[x], argTypes := #[T] }) (hd : dok cx o = true) (hxo : opdOk x = true) (hx : σ.eval x = .nils) (hT : lkT cx.E.tab T = some i) (hs : i.shape = .slc e esz eb) :
    OpRule cx o σ (.int .i64 0) [] [] :=
  rule_val hd fun τ γ a w h1 h2 hst => by
    have hev := hst.ev x hxo
    rw [h1 x (by simp [ho, Op.operands, Call.operands]), hx] at hev
    obtain ⟨hu, _, _⟩ := und_slc (cx.E.ok T i hT) hs
    exact ⟨.int .i64 0, by simp [execOp, ho, resolve, invoke, builtin, Builtin.len_, hev.nils_inv, run_underlying hu, goInt, pure], .int _ _⟩
theorem r_len_row {T id sz : Nat} {x : Operand} {i : TyI} {e esz eb : Nat} {ty : TypeId} {xs : List AV} (ho : o.op = .call { callee := .builtin .len, args := #[x], argTypes := #[T] }) (hd : dok cx o = true) (hxo : opdOk x = true) (hx : σ.eval x = .row id) (hl : σ.find id = some (.row ty sz xs)) (hT : lkT cx.E.tab T = some i) (hs : i.shape = .slc e esz eb) :
    OpRule cx o σ (.int .i64 (xs.length : Int)) [id] [] :=
  rule_val hd fun τ γ a w h1 h2 hst => by
    have hev := hst.ev x hxo
    rw [h1 x (by simp [ho, Op.operands, Call.operands]), hx] at hev
    have hme := hst.me id
    rw [h2 id (by simp), hl] at hme
    obtain ⟨d, hd', s, vs, hde, _, hown, _⟩ := hme
    subst hde
    have e := hev.row_inv hd'
    obtain ⟨hu, _, _⟩ := und_slc (cx.E.ok T i hT) hs
    have hsl : ∃ A c, s = .slice A xs.length c := by
      rcases hown.2 with ⟨rfl, h0⟩ | ⟨g, cap, cur, rfl, _⟩
      · exact ⟨none, 0, by rw [h0]⟩
      · exact ⟨_, _, rfl⟩
    obtain ⟨A, c, rfl⟩ := hsl
    exact ⟨.int .i64 (xs.length : Int), by simp [execOp, ho, resolve, invoke, builtin, Builtin.len_, e, run_underlying hu, goInt, pure], .int _ _⟩
theorem r_len_str {T : Nat} {x : Operand} {i : TyI} {s : ByteArray} (ho : o.op = .call { callee := .builtin .len, args := #[x], argTypes := #[T] }) (hd : dok cx o = true) (hxo : opdOk x = true) (hx : σ.eval x = .str s) (hT : lkT cx.E.tab T = some i) (hs : i.shape = .str) :
    OpRule cx o σ (.int .i64 (s.size : Int)) [] [] :=
  rule_val hd fun τ γ a w h1 h2 hst => by
    have hev := hst.ev x hxo
    rw [h1 x (by simp [ho, Op.operands, Call.operands]), hx] at hev
    obtain ⟨d, hdu, he⟩ := (cx.E.ok T i hT).und
    rw [hs] at he
    cases d <;> simp only [shapeOf, reduceCtorEq] at he
    exact ⟨.int .i64 (s.size : Int), by simp [execOp, ho, resolve, invoke, builtin, Builtin.len_, hev.str_inv, run_underlying hdu, goInt, pure], .int _ _⟩

/-! ### min, max -/
theorem r_max {T : Array TypeId} {x y : Operand} {k k' : IntKind} {a b : Int} (ho : o.op = .call { callee := .builtin .max, args := #[x, y], argTypes := T }) (hd : dok cx o = true) (hxo : opdOk x = true) (hyo : opdOk y = true) (hx : σ.eval x = .int k a) (hy : σ.eval y = .int k' b) : OpRule cx o σ (.int k (max a b)) [] [] :=
  rule_val hd fun τ γ ac w h1 h2 hst => by
    have e1 := hst.ev x hxo
    rw [h1 x (by simp [ho, Op.operands, Call.operands]), hx] at e1
    have e2 := hst.ev y hyo
    rw [h1 y (by simp [ho, Op.operands, Call.operands]), hy] at e2
    have hm : (if b > a then b else a) = max a b := by split <;> omega
    refine ⟨.int k (max a b), ?_, .int _ _⟩
    rw [← hm]
    simp only [execOp, ho, resolve, invoke, builtin, Sem.run_bind, Sem.run_pure, Result.andThen_ok, List.map_toArray, List.map_cons, List.map_nil, e1.int_inv, e2.int_inv]
    rfl
theorem r_min {T : Array TypeId} {x y : Operand} {k k' : IntKind} {a b : Int} (ho : o.op = .call { callee := .builtin .min, args := #[x, y], argTypes := T }) (hd : dok cx o = true) (hxo : opdOk x = true) (hyo : opdOk y = true) (hx : σ.eval x = .int k a) (hy : σ.eval y = .int k' b) : OpRule cx o σ (.int k (min a b)) [] [] :=
  rule_val hd fun τ γ ac w h1 h2 hst => by
    have e1 := hst.ev x hxo
    rw [h1 x (by simp [ho, Op.operands, Call.operands]), hx] at e1
    have e2 := hst.ev y hyo
    rw [h1 y (by simp [ho, Op.operands, Call.operands]), hy] at e2
    have hm : (if b < a then b else a) = min a b := by split <;> omega
    refine ⟨.int k (min a b), ?_, .int _ _⟩
    rw [← hm]
    simp only [execOp, ho, resolve, invoke, builtin, Sem.run_bind, Sem.run_pure, Result.andThen_ok, List.map_toArray, List.map_cons, List.map_nil, e1.int_inv, e2.int_inv]
    rfl
end
end Go.Proofs.Ythhnhajldhnfmaa
namespace Go.Proofs.Ythhnhajldhnfmaa
open Go.RowKit

/-! ### Literals -/
def CRel (w : World) (S : Nat → Prop) (γ : Gam) (cells : Array Value) (cs : List AV) : Prop :=
  cells.size = cs.length ∧ (∀ i (hi : i < cs.length), Rep w S γ cs[i] (cells.getD i undef)) ∧ ∀ i, i < cells.size → (cells.getD i undef).oneCell' = true
def fillA (place : Nat → Option (Nat × Nat)) : List AV → List (Nat × AV) → Option (List AV)
  | cells, [] => some cells
  | cells, (i, v) :: r => match place i with
    | none => none
    | some (off, size) => match Nat.beq v.cells.length size && Nat.ble (off + size) cells.length with
      | true => fillA place (cells.take off ++ v.cells ++ cells.drop (off + size)) r
      | false => none

theorem splice_foldl (off : Nat) : ∀ (l : List Value) (n : Nat) (cells : Array Value), ((l.zipIdx n).foldl (fun cs p => cs.setIfInBounds (off + p.2) p.1) cells).size = cells.size ∧
    ∀ m, ((l.zipIdx n).foldl (fun cs p => cs.setIfInBounds (off + p.2) p.1) cells).getD m undef = if off + n ≤ m ∧ m < off + n + l.length ∧ m < cells.size then l.getD (m - (off + n)) undef else cells.getD m undef
  | [], n, cells => ⟨rfl, fun m => by rw [if_neg (by simp; omega)]; rfl⟩
  | v :: r, n, cells => by
    simp only [List.zipIdx_cons, List.foldl_cons]
    obtain ⟨h1, h2⟩ := splice_foldl off r (n + 1) (cells.setIfInBounds (off + n) v)
    refine ⟨by rw [h1]; simp, fun m => ?_⟩
    rw [h2 m]
    simp only [Array.size_setIfInBounds, List.length_cons]
    by_cases hm : m = off + n
    · subst hm
      rw [if_neg (by omega)]
      by_cases hb : off + n < cells.size
      · rw [if_pos (by omega)]
        simp [Array.getD_eq_getD_getElem?, hb]
      · rw [if_neg (by omega)]
        simp [Array.getD_eq_getD_getElem?, hb]
    · have hset : (cells.setIfInBounds (off + n) v).getD m undef = cells.getD m undef := by
        simp only [Array.getD_eq_getD_getElem?, Array.getElem?_setIfInBounds_ne (Ne.symm hm)]
      rw [hset]
      by_cases hc : off + (n + 1) ≤ m ∧ m < off + (n + 1) + r.length ∧ m < cells.size
      · rw [if_pos hc, if_pos (by omega)]
        rw [show m - (off + n) = (m - (off + (n + 1))) + 1 by omega]
        simp
      · rw [if_neg hc, if_neg (by omega)]

theorem fill_rel {w : World} {S : Nat → Prop} {γ : Gam} {place : Nat → Option (Nat × Nat)} {f : Operand → Value} {g : Operand → AV} : ∀ (ops : List (Nat × Operand)) (cells : Array Value) (cs cs' : List AV), (∀ p ∈ ops, CRel w S γ (f p.2).cells (g p.2).cells) → CRel w S γ cells cs →
    fillA place cs (ops.map fun p => (p.1, g p.2)) = some cs' → ∃ cells', Instr.fill place cells (ops.map fun p => (p.1, f p.2)) = some cells' ∧ CRel w S γ cells' cs'
  | [], cells, cs, cs', _, hr, h => by
    simp only [List.map_nil, fillA, Option.some.injEq] at h
    subst h
    exact ⟨cells, rfl, hr⟩
  | (i, x) :: r, cells, cs, cs', hp, hr, h => by
    simp only [List.map_cons, fillA] at h
    obtain ⟨q1, q2, q3⟩ := hp (i, x) (by simp)
    simp only at q1 q2 q3
    cases hpl : place i with
    | none => rw [hpl] at h; simp at h
    | some os =>
      obtain ⟨off, size⟩ := os
      rw [hpl] at h
      simp only at h
      split at h
      · rename_i hcond
        simp only [Bool.and_eq_true] at hcond
        have hc1 : (g x).cells.length = size := Nat.eq_of_beq_eq_true hcond.1
        have hc2 : off + size ≤ cs.length := Nat.le_of_ble_eq_true hcond.2
        simp only [List.map_cons, Instr.fill, hpl]
        have hns : ¬ (((f x).cells.size ≠ size || off + (f x).cells.size > cells.size) = true) := by
          have := hr.1
          simp only [Bool.or_eq_true, decide_eq_true_eq]
          simp only [q1] at *
          omega
        rw [if_neg hns]
        refine fill_rel r _ _ cs' (fun p hp' => hp p (by simp [hp'])) ?_ h
        have hfold : ((f x).cells.zipIdx.foldl (fun cs (p : Value × Nat) => cs.setIfInBounds (off + p.2) p.1) cells) = (((f x).cells.toList.zipIdx 0).foldl (fun cs p => cs.setIfInBounds (off + p.2) p.1) cells) := by
          rw [← Array.foldl_toList, Array.toList_zipIdx]
        have hfold' : ((f x).cells.zipIdx.foldl (fun cs x => match x with | (c, j) => cs.setIfInBounds (off + j) c) cells) = (((f x).cells.toList.zipIdx 0).foldl (fun cs p => cs.setIfInBounds (off + p.2) p.1) cells) := hfold
        obtain ⟨s1, s2⟩ := splice_foldl off (f x).cells.toList 0 cells
        have hcl : (cs.take off ++ (g x).cells ++ cs.drop (off + size)).length = cs.length := by simp; omega
        have hval : ∀ m, m < cs.length → (((f x).cells.toList.zipIdx 0).foldl (fun cs p => cs.setIfInBounds (off + p.2) p.1) cells).getD m undef = if off ≤ m ∧ m < off + size then (f x).cells.getD (m - off) undef else cells.getD m undef := fun m hm => by
          rw [s2 m]
          have hrs := hr.1
          have hls : (f x).cells.toList.length = size := by rw [Array.length_toList]; omega
          by_cases hc : off ≤ m ∧ m < off + size
          · rw [if_pos hc, if_pos (by omega)]
            simp [Array.getD_eq_getD_getElem?, List.getD_eq_getElem?_getD]
          · rw [if_neg hc, if_neg (by omega)]
        have hres : CRel w S γ (((f x).cells.toList.zipIdx 0).foldl (fun cs p => cs.setIfInBounds (off + p.2) p.1) cells) (cs.take off ++ (g x).cells ++ cs.drop (off + size)) := by
          refine ⟨by rw [s1, hcl]; exact hr.1, fun m hm => ?_, fun m hm => ?_⟩
          · rw [hcl] at hm
            rw [hval m hm]
            by_cases h1 : m < off
            · rw [if_neg (by omega), List.getElem_append_left (by simp; omega), List.getElem_append_left (by simp; omega), List.getElem_take]
              exact hr.2.1 m hm
            · by_cases h2 : m < off + size
              · rw [if_pos (by omega), List.getElem_append_left (by simp; omega), List.getElem_append_right (by simp; omega)]
                have hlen : (cs.take off).length = off := by simp; omega
                simp only [hlen]
                exact q2 (m - off) (by omega)
              · rw [if_neg (by omega), List.getElem_append_right (by simp; omega), List.getElem_drop]
                have hlen : off + size + (m - (cs.take off ++ (g x).cells).length) = m := by simp; omega
                simp only [hlen]
                exact hr.2.1 m hm
          · rw [s1] at hm
            rw [hval m (by have := hr.1; omega)]
            by_cases hc : off ≤ m ∧ m < off + size
            · rw [if_pos hc]; exact q3 (m - off) (by omega)
            · rw [if_neg hc]; exact hr.2.2 m hm
        rw [hfold']
        exact hres
      · cases h

theorem crel_zero (w : World) (S : Nat → Prop) (γ : Gam) (z : Value) (hz : z.cells.all (·.oneCell') = true) : CRel w S γ z.cells (z.cells.toList.map AV.ofV) := by
  refine ⟨by simp, fun j hj => ?_, fun j hj => ?_⟩
  · have hj' : j < z.cells.size := by simpa using hj
    have : z.cells.getD j undef = z.cells[j] := by simp [Array.getD, hj']
    simp only [List.getElem_map, Array.getElem_toList, this]
    exact rep_ofV _ _ _ _
  · have : z.cells.getD j undef = z.cells[j] := by simp [Array.getD, hj]
    rw [this]
    simp only [Array.all_eq_true] at hz
    exact hz j hj

section
variable {cx : Cx} {o : Oper} {σ : AS}
def partsA (σ : AS) (ps : Array (Nat × Operand)) : List (Nat × AV) := ps.toList.map fun p => (p.1, σ.eval p.2)
def partIds (l : List (Nat × AV)) : List Nat := l.flatMap fun p => p.2.ids
def partsOk (σ : AS) (ps : Array (Nat × Operand)) : Bool := ps.toList.all fun p => opdOk p.2 && okc σ (σ.eval p.2)

theorem parts_rel {γ : Gam} {τ : AS} {a : Act} {w : World} {ps : Array (Nat × Operand)} (hst : StG cx γ τ a w) (hok : partsOk σ ps = true) (h1 : ∀ p ∈ ps.toList, τ.eval p.2 = σ.eval p.2) (h2 : ∀ id ∈ partIds (partsA σ ps), τ.find id = σ.find id) :
    ∀ p ∈ ps.toList, CRel w (Sg cx.S0 cx.w0.heap.size γ) γ (a.eval p.2).cells (σ.eval p.2).cells := fun p hp => by
  simp only [partsOk, List.all_eq_true, Bool.and_eq_true] at hok
  obtain ⟨k1, k2⟩ := hok p hp
  have hev := hst.ev p.2 k1
  rw [h1 p hp] at hev
  exact cells_rep hst hev k2 (fun id hid => h2 id (List.mem_flatMap.2 ⟨(p.1, σ.eval p.2), List.mem_map.2 ⟨p, hp, rfl⟩, hid⟩))

theorem info_of_cells {P : Program} {e esz : Nat} (h : P.cellsOf e = esz) (hz : esz ≠ 0) : ∃ info, P.info? e = some info ∧ info.size = esz := by
  unfold Program.cellsOf at h
  cases hq : P.info? e with
  | none => rw [hq] at h; simp at h; exact absurd h.symm hz
  | some info => rw [hq] at h; simp at h; exact ⟨info, rfl, h⟩
theorem places_of {P : Program} (Fs : List Field) (h : ∀ f ∈ Fs, P.cellsOf f.type ≠ 0) : Fs.mapM (fun f => (P.info? f.type).map fun i => (f.offset, i.size)) = some (Fs.map fun f => (f.offset, P.cellsOf f.type)) := by
  induction Fs with
  | nil => rfl
  | cons f r ih =>
    obtain ⟨info, hi, hs⟩ := info_of_cells rfl (h f (by simp))
    rw [List.mapM_cons, ih (fun g hg => h g (by simp [hg]))]
    simp [hi, hs]

theorem r_build_strct {T : Nat} {ps : Array (Nat × Operand)} {i : TyI} {fs : List (Nat × Nat × Option Bool)} {cs : List AV} (ho : o.op = .build T ps) (hd : dok cx o = true) (hT : lkT cx.E.tab T = some i) (hs : i.shape = .strct fs) (hz : i.zero.cells.all (·.oneCell') = true) (hok : partsOk σ ps = true)
    (hfs : fs.all (fun f => !(Nat.beq f.2.1 0)) = true) (hf : fillA (fun j => (fs[j]?).map fun f => (f.1, f.2.1)) (i.zero.cells.toList.map AV.ofV) (partsA σ ps) = some cs) : OpRule cx o σ (.agg cs) (partIds (partsA σ ps)) [] :=
  rule_val hd fun τ γ a w h1 h2 hst => by
    have hrel := parts_rel hst hok (fun p hp => h1 p.2 (by simp only [ho, Op.operands, List.mem_toArray, List.mem_map]; exact ⟨p, hp, rfl⟩)) h2
    have hokT := cx.E.ok T i hT
    obtain ⟨Fs, hF, hfsE⟩ := und_strct hokT hs
    obtain ⟨cells', hfill, hc1, hc2, hc3⟩ := fill_rel (f := a.eval) (g := σ.eval) ps.toList i.zero.cells _ cs hrel (crel_zero w _ γ i.zero hz) hf
    have hpl : (fun j : Nat => (fs[j]?).map fun (f : Nat × Nat × Option Bool) => (f.1, f.2.1)) = fun j : Nat => (Fs.toList.map fun f => (f.offset, cx.P.cellsOf f.type))[j]? := by
      funext j
      rw [hfsE]
      simp [List.getElem?_map, Option.map_map]
      rfl
    rw [hpl] at hfill
    have hb : cx.P.built T ((ps.map fun p => (p.1, a.eval p.2)).toList) = some cells' := by
      obtain ⟨it, hit, hz'⟩ : ∃ it, cx.P.info? T = some it ∧ it.zero = some i.zero := by
        have := hokT.zero
        cases hq : cx.P.info? T with
        | none => rw [hq] at this; simp at this
        | some it => rw [hq] at this; exact ⟨it, rfl, by simpa using this⟩
      have hnz : ∀ f ∈ Fs.toList, cx.P.cellsOf f.type ≠ 0 := fun f hf => by
        simp only [hfsE, List.all_eq_true] at hfs
        have := hfs (f.offset, cx.P.cellsOf f.type, aggT cx.P f.type) (List.mem_map.2 ⟨f, hf, rfl⟩)
        intro e
        simp [e] at this
      unfold Program.built
      rw [hit, hF]
      simp only [hz', places_of Fs.toList hnz, Array.toList_map]
      simpa using hfill
    have hrun := run_build (P := cx.P) w T (ps.map fun p => (p.1, a.eval p.2)) cells' hb
    refine ⟨.agg cells', ?_, .agg cells' hc1 hc2 hc3⟩
    have e : (ps.map fun x => match x with | (i, x) => (i, a.eval x)) = ps.map fun p => (p.1, a.eval p.2) := rfl
    simp only [execOp, ho, e, Sem.run_bind, Sem.run_pure, Result.andThen_ok, hrun]
theorem und_arr {P : Program} {T : TypeId} {i : TyI} {n e esz : Nat} {ag : Option Bool} (h : TyOk P T i) (hs : i.shape = .arr n e esz ag) : P.underlying T = some (.array n e) ∧ P.cellsOf e = esz ∧ aggT P e = ag := by
  obtain ⟨d, hd, he⟩ := h.und
  rw [hs] at he
  cases d <;> simp only [shapeOf, Shape.arr.injEq, reduceCtorEq] at he
  obtain ⟨rfl, rfl, h2, h3⟩ := he
  exact ⟨hd, h2, h3⟩
theorem r_build_arr {T n e esz : Nat} {ag : Option Bool} {ps : Array (Nat × Operand)} {i : TyI} {cs : List AV} (ho : o.op = .build T ps) (hd : dok cx o = true) (hT : lkT cx.E.tab T = some i) (hs : i.shape = .arr n e esz ag) (hz : i.zero.cells.all (·.oneCell') = true) (hok : partsOk σ ps = true) (hesz : esz ≠ 0)
    (hf : fillA (fun j => some (j * esz, esz)) (i.zero.cells.toList.map AV.ofV) (partsA σ ps) = some cs) : OpRule cx o σ (.agg cs) (partIds (partsA σ ps)) [] :=
  rule_val hd fun τ γ a w h1 h2 hst => by
    have hrel := parts_rel hst hok (fun p hp => h1 p.2 (by simp only [ho, Op.operands, List.mem_toArray, List.mem_map]; exact ⟨p, hp, rfl⟩)) h2
    have hokT := cx.E.ok T i hT
    obtain ⟨hu, hce, _⟩ := und_arr hokT hs
    obtain ⟨cells', hfill, hc1, hc2, hc3⟩ := fill_rel (f := a.eval) (g := σ.eval) ps.toList i.zero.cells _ cs hrel (crel_zero w _ γ i.zero hz) hf
    have hb : cx.P.built T ((ps.map fun p => (p.1, a.eval p.2)).toList) = some cells' := by
      obtain ⟨it, hit, hz'⟩ : ∃ it, cx.P.info? T = some it ∧ it.zero = some i.zero := by
        have := hokT.zero
        cases hq : cx.P.info? T with
        | none => rw [hq] at this; simp at this
        | some it => rw [hq] at this; exact ⟨it, rfl, by simpa using this⟩
      obtain ⟨ie, hie, hie2⟩ := info_of_cells hce hesz
      unfold Program.built
      rw [hit, hu]
      simp only [hz', hie, hie2, Array.toList_map]
      exact hfill
    have hrun := run_build (P := cx.P) w T (ps.map fun p => (p.1, a.eval p.2)) cells' hb
    refine ⟨.agg cells', ?_, .agg cells' hc1 hc2 hc3⟩
    have e : (ps.map fun x => match x with | (i, x) => (i, a.eval x)) = ps.map fun p => (p.1, a.eval p.2) := rfl
    simp only [execOp, ho, e, Sem.run_bind, Sem.run_pure, Result.andThen_ok, hrun]
end
end Go.Proofs.Ythhnhajldhnfmaa
