/- The abstract walk, twelfth part: the walk as a function of the code. -/
import Derived.Test.YthhnhajldhnfmaaAmK
set_option linter.unusedVariables false
set_option linter.unusedSimpArgs false
namespace Go.Proofs.Ythhnhajldhnfmaa
open Go.RowKit

/-! ### Where the walk stops and asks -/
inductive CondX (b : Bool) (p q : Prop) : Prop
  | mk (h1 : b = true → p) (h2 : b = false → q)
theorem CondX.t {p q : Prop} (k : p) : CondX true p q := ⟨fun _ => k, fun h => absurd h (by simp)⟩
theorem CondX.f {p q : Prop} (k : q) : CondX false p q := ⟨fun h => absurd h (by simp), fun _ => k⟩
inductive IdxX (xs : List AV) (n : Int) (K : AV → Prop) : Prop
  | mk (m : Nat) (el : AV) (hn : n = (m : Int)) (he : xs[m]? = some el) (k : K el)
inductive NatX (n : Int) (len : Nat) (K : Nat → Prop) : Prop
  | mk (m : Nat) (hn : n = (m : Int)) (hm : m < len) (k : K m)
inductive LtX (m len : Nat) (K : Prop) : Prop
  | mk (hm : m < len) (k : K)
inductive EltX (xs : List AV) (m : Nat) (K : AV → Prop) : Prop
  | mk (el : AV) (he : xs[m]? = some el) (k : K el)
inductive SlcX (len : Nat) (lo hi : Int) (K : Nat → Nat → Prop) : Prop
  | mk (l h : Nat) (h1 : lo = (l : Int)) (h2 : hi = (h : Int)) (h3 : l ≤ h) (h4 : h ≤ len) (k : K l h)
inductive AppX (n bytes : Nat) (K : Prop) : Prop
  | mk (h1 : n ≤ 1099511627776) (h2 : n * bytes ≤ 140737488355328) (k : K)
inductive NzX (b : Int) (K : Prop) : Prop
  | mk (h : b ≠ 0) (k : K)
inductive CallX (E : Env) (f : FuncId) (avs : List AV) (K : AV → Prop) (R : Nat → Nat → List AV → Prop) : Prop
  | mk (fr : Bool) (res : AV) (h : Con E fr f avs res) (k : K res)
  | row (ty sz : Nat) (xs : List AV) (h : ConRow E f avs ty sz xs) (k : R ty sz xs)
inductive CallC (E : Env) (f : FuncId) (avs : List AV) (K : AV → Prop) : Prop
  | mk (fr : Bool) (res : AV) (h : Con E fr f avs res) (hf : fr = true ∨ res.flat = true) (k : K res)
def Rules (E : Env) (nt : Nat) (o : Oper) (σ : AS) (av : AV) (ids : List Nat) (wr : List (Nat × Ent)) : Prop := ∀ cx : Cx, cx.E = E → cx.nt = nt → OpRule cx o σ av ids wr
inductive OpX (E : Env) (nt : Nat) (o : Oper) (σ : AS) (K : AV → List Nat → List (Nat × Ent) → Prop) : Prop
  | mk (av : AV) (ids : List Nat) (wr : List (Nat × Ent)) (h : Rules E nt o σ av ids wr) (k : K av ids wr)
def LeX (E : Env) (nt : Nat) (σ τ : AS) : Prop := ∀ cx : Cx, cx.E = E → cx.nt = nt → Le cx σ τ
inductive LoopX (E : Env) (nt : Nat) (F : (AS → Prop) → AS → Prop) (σ : AS) : Prop
  | mk (I : Nat → AS → Prop) (n : Nat) (τ : AS) (hl : LeX E nt σ τ) (h0 : I n τ) (round : ∀ n σ, I n σ → F (fun σ' => ∃ m τ, LeX E nt σ' τ ∧ m < n ∧ I m τ) σ)

/-! ### The operations -/
def dokN (nt : Nat) (d : Option Nat) : Bool := match d with | some d => Nat.blt d nt | none => true
def chunks (agg : Bool) (sz n : Nat) (l : List AV) : List AV :=
  (List.range n).map fun k => match agg with | true => .agg ((l.drop (k * sz)).take sz) | false => (l[k]?).getD .any
def notAgg : AV → Bool
  | .agg _ => false
  | _ => true
abbrev OpK := AV → List Nat → List (Nat × Ent) → Prop

def aLoad (E : Env) (nt : Nat) (o : Oper) (σ : AS) (K : OpK) (i : TyI) : AV → Prop
  | .ptr id off => match σ.find id with
    | some (.box _ cs) => match i.shape.agg with
      | true => match Nat.ble (off + i.sz) cs.length with
        | true => K (.agg ((cs.drop off).take i.sz)) [id] []
        | false => False
      | false => match cs[off]? with
        | some av => K av [id] []
        | none => False
    | _ => False
  | .elt id sz k j => match σ.find id with
    | some (.row _ sz' xs) => match Nat.beq sz' sz with
      | true => EltX xs k fun el => match i.shape.agg with
        | true => match Nat.beq i.sz sz && Nat.beq j 0 with
          | true => K (.agg el.cells) [id] []
          | false => False
        | false => match el.cells[j]? with
          | some av => K av [id] []
          | none => False
      | false => False
    | _ => False
  | .ref cs => match i.shape.agg with
    | true => match Nat.ble i.sz cs.length with
      | true => K (.agg (cs.take i.sz)) [] []
      | false => False
    | false => match cs with
      | av :: _ => K av [] []
      | [] => False
  | _ => OpX E nt o σ K
def aStore (E : Env) (nt : Nat) (o : Oper) (σ : AS) (K : OpK) (i : TyI) (av : AV) : AV → Prop
  | .ptr id off => match σ.find id with
    | some (.box ty cs) => match Nat.ble (off + i.sz) cs.length && (Nat.beq av.cells.length i.sz && okc σ av) with
      | true => K (.tup []) (id :: av.ids) [(id, .box ty (cs.take off ++ av.cells ++ cs.drop (off + i.sz)))]
      | false => False
    | _ => False
  | _ => OpX E nt o σ K
def aField (E : Env) (nt : Nat) (o : Oper) (σ : AS) (K : OpK) (fo : Nat) : AV → Prop
  | .ptr id off => match σ.find id with
    | some (.box _ _) => K (.ptr id (off + fo)) [id] []
    | _ => False
  | .elt id sz k j => match σ.find id with
    | some (.row _ sz' xs) => match Nat.beq sz' sz with
      | true => LtX k xs.length (K (.elt id sz k (j + fo)) [id] [])
      | false => False
    | _ => False
  | .ref cs => K (.ref (cs.drop fo)) [] []
  | _ => OpX E nt o σ K
def aIndexAddr (E : Env) (nt : Nat) (o : Oper) (σ : AS) (K : OpK) (sz : Nat) (x y : AV) : Prop :=
  match x, y with
  | .sl sz' xs, .int _ n => match Nat.beq sz' sz with
    | true => IdxX xs n fun el => K (.ref el.cells) [] []
    | false => False
  | .row id, .int _ n => match σ.find id with
    | some (.row _ sz' xs) => match Nat.beq sz' sz with
      | true => NatX n xs.length fun m => K (.elt id sz m 0) [id] []
      | false => False
    | _ => False
  | _, _ => OpX E nt o σ K
def aBin (E : Env) (nt : Nat) (o : Oper) (σ : AS) (K : OpK) (op : BinOp) (t : Nat) (x y : AV) : Prop :=
  match x, y with
  | .int k a, .int k' b => match decide (k = k') with
    | true => match op with
      | .quo => NzX b (K (.int k (k.wrap (a.tdiv b))) [] [])
      | .rem => NzX b (K (.int k (a.tmod b)) [] [])
      | op => match binI op k a b with
        | some av => K av [] []
        | none => OpX E nt o σ K
    | false => False
  | .bool a, .bool b => match lkT E.tab t with
    | some i => match i.shape, op with
      | .bool, .eql => K (.bool (a == b)) [] []
      | .bool, .neq => K (.bool (!(a == b))) [] []
      | _, _ => OpX E nt o σ K
    | none => OpX E nt o σ K
  | _, _ => OpX E nt o σ K
def aCall (E : Env) (nt : Nat) (o : Oper) (σ : AS) (K : OpK) (args : Array Operand) : AV → Prop
  | .fn f cap => match AV.closedL (argsA σ args cap) with
    | true => CallX E f (argsA σ args cap) (fun res => K res [] []) (fun ty sz xs => match o.dst with
      | some d => match σ.find d with
        | none => K (.row d) [d] [(d, .row ty sz xs)]
        | some _ => False
      | none => False)
    | false => CallC E f ((argsA σ args cap).map (close2 σ)) (fun res => K res ((argsA σ args cap).flatMap (ids2 σ)) [])
  | _ => OpX E nt o σ K
def aLen (E : Env) (nt : Nat) (o : Oper) (σ : AS) (K : OpK) (i : TyI) : AV → Prop
  | .sl _ xs => match i.shape with | .slc _ _ _ => K (.int .i64 (xs.length : Int)) [] [] | _ => False
  | .nils => match i.shape with | .slc _ _ _ => K (.int .i64 0) [] [] | _ => False
  | .row id => match i.shape, σ.find id with | .slc _ _ _, some (.row _ _ xs) => K (.int .i64 (xs.length : Int)) [id] [] | _, _ => False
  | .str s => match i.shape with | .str => K (.int .i64 (s.size : Int)) [] [] | _ => False
  | _ => OpX E nt o σ K
def aAppend (E : Env) (nt : Nat) (o : Oper) (σ : AS) (K : OpK) (e sz : Nat) (ie : TyI) (d : Nat) (x y : AV) : Prop :=
  match x, y with
  | .nils, .sl sz' ys => match Nat.beq sz' sz with | true => forced ie.bytes fun by_ => AppX ys.length by_ (K (.row d) [d] [(d, .row e sz ys)]) | false => False
  | .nils, .nils => K (.row d) [d] [(d, .row e sz [])]
  | .row id, .sl sz' ys => match σ.find id with
    | some (.row e' sz2 xs) => match Nat.beq sz' sz && (Nat.beq e' e && (Nat.beq sz2 sz && !Nat.beq id d)) with
      | true => forced ie.bytes fun by_ => AppX (xs.length + ys.length) by_ (K (.row d) [d, id] [(d, .row e sz (xs ++ ys)), (id, .dead)])
      | false => False
    | _ => False
  | _, _ => OpX E nt o σ K
def aBuiltin (E : Env) (nt : Nat) (o : Oper) (σ : AS) (K : OpK) (b : Builtin) (args : Array Operand) (tys : Array TypeId) : Prop :=
  match b, args.toList, tys.toList with
  | .len, [x], [T] => match opdOk x, lkT E.tab T with
    | true, some i => aLen E nt o σ K i (σ.eval x)
    | _, _ => False
  | .max, [x, y], _ => match opdOk x && opdOk y, σ.eval x, σ.eval y with
    | true, .int k a, .int _ b => K (.int k (max a b)) [] []
    | _, _, _ => OpX E nt o σ K
  | .min, [x, y], _ => match opdOk x && opdOk y, σ.eval x, σ.eval y with
    | true, .int k a, .int _ b => K (.int k (min a b)) [] []
    | _, _, _ => OpX E nt o σ K
  | .append, [x, y], [T, T'] => match opdOk x && (opdOk y && Nat.beq T T'), lkT E.tab T, o.dst with
    | true, some i, some d => match i.shape, σ.find d with
      | .slc e sz _, none => match lkT E.tab e with
        | some ie => match Nat.beq ie.sz sz && (!Nat.beq sz 0 && Nat.beq ie.zero.cells.size sz) with
          | true => aAppend E nt o σ K e sz ie d (σ.eval x) (σ.eval y)
          | false => False
        | none => False
      | _, _ => False
    | _, _, _ => False
  | _, _, _ => OpX E nt o σ K

def allOne : List Value → Bool
  | [] => true
  | v :: r => v.oneCell' && allOne r
theorem allOne_all {cs : Array Value} (h : allOne cs.toList = true) : cs.all (·.oneCell') = true := by
  have key : ∀ l : List Value, allOne l = true → ∀ v ∈ l, v.oneCell' = true := fun l => by
    induction l with
    | nil => intro _ v hv; simp at hv
    | cons x r ih =>
      intro h v hv
      simp only [allOne, Bool.and_eq_true] at h
      rcases List.mem_cons.1 hv with rfl | hv
      · exact h.1
      · exact ih h.2 v hv
  rw [Array.all_eq_true_iff_forall_mem]
  intro v hv
  exact key _ h v (by simpa using hv)
/-- Slots that hold a bool that is known. -/
abbrev Kn := List (Nat × Bool)
def lkB : Kn → Nat → Option Bool
  | [], _ => none
  | (u, b) :: r, t => match Nat.beq u t with | true => some b | false => lkB r t
def dropK (d : Nat) : Kn → Kn
  | [] => []
  | (u, b) :: r => match Nat.beq u d with | true => dropK d r | false => (u, b) :: dropK d r
def dropO : Option Nat → Kn → Kn
  | some d, kn => dropK d kn
  | none, kn => kn
def KnOk (σ : AS) (kn : Kn) : Prop := ∀ t b, lkB kn t = some b → σ.get t = .bool b
def knOf (kn : Kn) : Operand → Option Bool
  | .tmp t => lkB kn t
  | .const (.bool true) => some true
  | .const (.bool false) => some false
  | _ => none
theorem KnOk.of {σ : AS} {kn : Kn} (h : KnOk σ kn) {c : Operand} {b : Bool} (hc : knOf kn c = some b) : σ.eval c = .bool b := by
  unfold knOf at hc
  split at hc
  · exact h _ _ hc
  · injection hc with hc; subst hc; rfl
  · injection hc with hc; subst hc; rfl
  · cases hc
theorem lkB_drop (kn : Kn) (d t : Nat) : lkB (dropK d kn) t = if d = t then none else lkB kn t := by
  induction kn with
  | nil => simp [dropK, lkB]
  | cons x r ih =>
    obtain ⟨u, b⟩ := x
    simp only [dropK]
    cases hb : Nat.beq u d with
    | true =>
      have := Nat.eq_of_beq_eq_true hb
      subst this
      rw [ih]
      by_cases h : u = t
      · rw [if_pos h, if_pos h]
      · rw [if_neg h, if_neg h]
        simp only [lkB]
        cases hq : Nat.beq u t with
        | true => exact absurd (Nat.eq_of_beq_eq_true hq) h
        | false => rfl
    | false =>
      simp only [lkB]
      rw [ih]
      have hud := Nat.ne_of_beq_eq_false hb
      cases hq : Nat.beq u t with
      | true =>
        have := Nat.eq_of_beq_eq_true hq
        subst this
        simp only
        rw [if_neg (fun e => hud e.symm)]
      | false => simp only
theorem KnOk.upd {σ : AS} {kn : Kn} (h : KnOk σ kn) (d : Option Nat) (v : AV) (wr : List (Nat × Ent)) : KnOk (σ.upd d v wr) (dropO d kn) := fun t b ht => by
  rw [AS.get_upd]
  cases d with
  | none => rw [if_neg (by simp)]; exact h t b ht
  | some d =>
    simp only [dropO] at ht
    rw [lkB_drop] at ht
    by_cases hd : d = t
    · rw [if_pos hd] at ht; cases ht
    · rw [if_neg hd] at ht
      rw [if_neg (fun e => hd (by injection e))]
      exact h t b ht
theorem KnOk.know {σ : AS} {kn : Kn} (h : KnOk σ kn) (t : Nat) (b : Bool) : KnOk (σ.upd (some t) (.bool b) []) ((t, b) :: kn) := fun u c hu => by
  rw [AS.get_upd]
  simp only [lkB] at hu
  by_cases ht : t = u
  · subst ht
    simp only [Nat.beq_refl] at hu
    injection hu with hu
    rw [if_pos rfl, hu]
  · rw [if_neg (fun e => ht (by injection e))]
    cases hq : Nat.beq t u with
    | true => exact absurd (Nat.eq_of_beq_eq_true hq) ht
    | false => rw [hq] at hu; exact h u c hu

def aop (E : Env) (nt : Nat) (kn : Kn) (o : Oper) (σ : AS) (K : OpK) : Prop :=
  match dokN nt o.dst with
  | false => False
  | true => match o.op with
    | .move x => match opdOk x with | true => K (σ.eval x) [] [] | false => False
    | .assign x => match opdOk x with | true => K (σ.eval x) [] [] | false => False
    | .pick c x y => match opdOk c && (opdOk x && opdOk y), knOf kn c with
      | true, some true => K (σ.eval x) [] []
      | true, some false => K (σ.eval y) [] []
      | true, none => match σ.eval c with
        | .bool b => CondX b (K (σ.eval x) [] []) (K (σ.eval y) [] [])
        | _ => False
      | _, _ => False
    | .binOp op t x y _ => match opdOk x && opdOk y with
      | true => aBin E nt o σ K op t (σ.eval x) (σ.eval y)
      | false => False
    | .unOp .not _ x => match opdOk x, σ.eval x with
      | true, .bool b => K (.bool (!b)) [] []
      | _, _ => False
    | .unOp .neg _ x => match opdOk x, σ.eval x with
      | true, .int k a => K (.int k (k.wrap (0 - a))) [] []
      | _, _ => False
    | .alloc T => match o.dst, lkT E.tab T with
      | some d, some i => match σ.find d, allOne i.zero.cells.toList with
        | none, true => K (.ptr d 0) [d] [(d, .box T (i.zero.cells.toList.map AV.ofV))]
        | _, _ => False
      | _, _ => False
    | .box T x => match o.dst with
      | some d => match σ.find d, opdOk x && okc σ (σ.eval x) with
        | none, true => K (.ptr d 0) (d :: (σ.eval x).ids) [(d, .box T (σ.eval x).cells)]
        | _, _ => False
      | none => False
    | .fieldAddr T x f => match opdOk x, lkT E.tab T with
      | true, some i => match i.shape with
        | .strct fs => match fs[f]? with
          | some (fo, fsz, _) => match Nat.beq fsz 0 with
            | false => aField E nt o σ K fo (σ.eval x)
            | true => False
          | none => False
        | _ => False
      | _, _ => False
    | .load T x => match opdOk x, lkT E.tab T with
      | true, some i => aLoad E nt o σ K i (σ.eval x)
      | _, _ => False
    | .store T x y => match opdOk x && opdOk y, lkT E.tab T with
      | true, some i => aStore E nt o σ K i (σ.eval y) (σ.eval x)
      | _, _ => False
    | .indexAddr T x y => match opdOk x && opdOk y, lkT E.tab T with
      | true, some i => match i.shape with
        | .slc _ sz _ => match Nat.beq sz 0 with
          | false => aIndexAddr E nt o σ K sz (σ.eval x) (σ.eval y)
          | true => False
        | _ => OpX E nt o σ K
      | _, _ => False
    | .field T x f => match opdOk x, lkT E.tab T, σ.eval x with
      | true, some i, .agg cs => match i.shape with
        | .strct fs => match fs[f]? with
          | some (fo, fsz, some true) => match Nat.beq fsz 0, Nat.ble (fo + fsz) cs.length with
            | false, true => K (.agg ((cs.drop fo).take fsz)) [] []
            | _, _ => False
          | some (fo, fsz, some false) => match cs[fo]? with
            | some av => K av [] []
            | none => False
          | _ => False
        | _ => False
      | _, _, _ => OpX E nt o σ K
    | .index T x y => match opdOk x && opdOk y, lkT E.tab T, σ.eval x, σ.eval y with
      | true, some i, .agg cs, .int _ n => match i.shape with
        | .arr len _ esz (some ag) => match Nat.beq esz 0 with
          | false => NatX n len fun m => match ag with
            | true => match Nat.ble (m * esz + esz) cs.length with
              | true => K (.agg ((cs.drop (m * esz)).take esz)) [] []
              | false => False
            | false => match cs[m * esz]? with
              | some av => K av [] []
              | none => False
          | true => False
        | _ => False
      | _, _, _, _ => OpX E nt o σ K
    | .extract x ix => match opdOk x, σ.eval x with
      | true, .tup cs => match cs[ix]? with
        | some av => K av [] []
        | none => False
      | _, _ => False
    | .build T ps => match lkT E.tab T, partsOk σ ps with
      | some i, true => match i.shape, allOne i.zero.cells.toList with
        | .strct fs, true => match fs.all (fun f => !(Nat.beq f.2.1 0)), fillA (fun j => (fs[j]?).map fun f => (f.1, f.2.1)) (i.zero.cells.toList.map AV.ofV) (partsA σ ps) with
          | true, some cs => K (.agg cs) (partIds (partsA σ ps)) []
          | _, _ => False
        | .arr _ _ esz _, true => match Nat.beq esz 0, fillA (fun j => some (j * esz, esz)) (i.zero.cells.toList.map AV.ofV) (partsA σ ps) with
          | false, some cs => K (.agg cs) (partIds (partsA σ ps)) []
          | _, _ => False
        | _, _ => False
      | _, _ => False
    | .buildSlice T n ps => match lkT E.tab T, partsOk σ ps with
      | some i, true => match i.shape with
        | .slc e esz _ => match lkT E.tab e with
          | some ie => match fillA (fun j => some (j * esz, esz)) (List.replicate (n * esz) .any) (partsA σ ps) with
            | some fl => match !Nat.beq esz 0 && (Nat.ble (n * esz) 16777216 && (allOne ie.zero.cells.toList && (Nat.blt 0 ie.zero.cells.size && (AV.closedL (chunks ie.shape.agg esz n fl) && (ie.shape.agg || (Nat.beq esz 1 && fl.all notAgg)))))) with
              | true => fL (chunks ie.shape.agg esz n fl) fun xs => K (.sl esz xs) (partIds (partsA σ ps)) []
              | false => OpX E nt o σ K
            | none => False
          | none => False
        | _ => False
      | _, _ => False
    | .slice T x lo hi none => match opdOk x && (opdO lo && opdO hi), lkT E.tab T, σ.eval x with
      | true, some i, .sl sz xs => match i.shape with
        | .slc _ sz' _ => match Nat.beq sz' sz && !Nat.beq sz 0, bndA σ 0 lo, bndA σ xs.length hi with
          | true, some l, some h => SlcX xs.length l h fun l h => K (.sl sz ((xs.take h).drop l)) [] []
          | _, _, _ => False
        | _ => False
      | true, some i, .str s => match i.shape with
        | .str => match bndA σ 0 lo, bndA σ s.size hi with
          | some l, some h => SlcX s.size l h fun l h => K (.str (s.extract l h)) [] []
          | _, _ => False
        | _ => False
      | _, _, _ => OpX E nt o σ K
    | .convert T T' x => match opdOk x, σ.eval x, lkT E.tab T, lkT E.tab T' with
      | true, .int _ n, some _, some j => match j.shape with
        | .int k => K (.int k (k.wrap n)) [] []
        | _ => OpX E nt o σ K
      | _, _, _, _ => OpX E nt o σ K
    | .makeFunc (.func f) first ps => match first.toList, ps.toList.all opdOk with
      | [], true => K (.fn f (ps.toList.map σ.eval)) [] []
      | _, _ => OpX E nt o σ K
    | .call c => match c.callee with
      | .builtin b => aBuiltin E nt o σ K b c.args c.argTypes
      | .value x => match opdOk x && c.args.toList.all opdOk with
        | true => aCall E nt o σ K c.args (σ.eval x)
        | false => False
      | _ => OpX E nt o σ K
    | _ => OpX E nt o σ K

def Sound (E : Env) (nt : Nat) (o : Oper) (σ : AS) (K : OpK) : Prop := ∃ av ids wr, Rules E nt o σ av ids wr ∧ K av ids wr
section
variable {E : Env} {nt : Nat} {o : Oper} {σ : AS} {K : OpK}
theorem OpX.sound (h : OpX E nt o σ K) : Sound E nt o σ K := by
  cases h with
  | mk av ids wr h k => exact ⟨av, ids, wr, h, k⟩
theorem dok_of {cx : Cx} (h : dokN nt o.dst = true) (hn : cx.nt = nt) : dok cx o = true := by
  unfold dokN at h
  unfold dok
  rw [hn]
  exact h
theorem nbeq {a b : Nat} (h : Nat.beq a b = true) : a = b := Nat.eq_of_beq_eq_true h
theorem nbne {a b : Nat} (h : Nat.beq a b = false) : a ≠ b := Nat.ne_of_beq_eq_false h

theorem aLoad_sound {T : Nat} {x : Operand} {i : TyI} (ho : o.op = .load T x) (hd : dokN nt o.dst = true) (hx : opdOk x = true) (hT : lkT E.tab T = some i) (h : aLoad E nt o σ K i (σ.eval x)) : Sound E nt o σ K := by
  unfold aLoad at h
  split at h
  · rename_i id off he
    split at h
    · rename_i ty cs hf
      split at h
      · rename_i ha
        split at h
        · rename_i hb
          exact ⟨_, _, _, fun cx hE hn => r_load_agg ho (dok_of hd hn) hx he (by rw [hE]; exact hT) ha hf (Nat.le_of_ble_eq_true hb), h⟩
        · exact h.elim
      · rename_i ha
        split at h
        · rename_i av hav
          exact ⟨_, _, _, fun cx hE hn => r_load_one ho (dok_of hd hn) hx he (by rw [hE]; exact hT) ha hf hav, h⟩
        · exact h.elim
    · exact h.elim
  · rename_i id sz k j he
    split at h
    · rename_i ty sz' xs hf
      split at h
      · rename_i hsz
        have hsz := nbeq hsz
        subst hsz
        cases h with
        | mk el hel h =>
          split at h
          · rename_i ha
            split at h
            · rename_i hb
              simp only [Bool.and_eq_true] at hb
              have hj := nbeq hb.2
              subst hj
              exact ⟨_, _, _, fun cx hE hn => r_load_elt_agg ho (dok_of hd hn) hx he (by rw [hE]; exact hT) ha hf (nbeq hb.1) hel, h⟩
            · exact h.elim
          · rename_i ha
            split at h
            · rename_i av hav
              exact ⟨_, _, _, fun cx hE hn => r_load_elt_one ho (dok_of hd hn) hx he (by rw [hE]; exact hT) ha hf hel hav, h⟩
            · exact h.elim
      · exact h.elim
    · exact h.elim
  · rename_i cs he
    split at h
    · rename_i ha
      split at h
      · rename_i hb
        exact ⟨_, _, _, fun cx hE hn => r_load_ref_agg ho (dok_of hd hn) hx he (by rw [hE]; exact hT) ha (Nat.le_of_ble_eq_true hb), h⟩
      · exact h.elim
    · rename_i ha
      split at h
      · exact ⟨_, _, _, fun cx hE hn => r_load_ref_one ho (dok_of hd hn) hx he (by rw [hE]; exact hT) ha, h⟩
      · exact h.elim
  · exact h.sound
theorem aStore_sound {T : Nat} {x y : Operand} {i : TyI} (ho : o.op = .store T x y) (hd : dokN nt o.dst = true) (hx : opdOk x = true) (hy : opdOk y = true) (hT : lkT E.tab T = some i) (h : aStore E nt o σ K i (σ.eval y) (σ.eval x)) : Sound E nt o σ K := by
  unfold aStore at h
  split at h
  · rename_i id off he
    split at h
    · rename_i ty cs hf
      split at h
      · rename_i hb
        simp only [Bool.and_eq_true] at hb
        exact ⟨_, _, _, fun cx hE hn => r_store ho (dok_of hd hn) hx hy he rfl (by rw [hE]; exact hT) hf (Nat.le_of_ble_eq_true hb.1) (nbeq hb.2.1) hb.2.2 rfl, h⟩
      · exact h.elim
    · exact h.elim
  · exact h.sound
theorem aField_sound {T f fo fsz : Nat} {x : Operand} {i : TyI} {fs : List (Nat × Nat × Option Bool)} {ag : Option Bool} (ho : o.op = .fieldAddr T x f) (hd : dokN nt o.dst = true) (hx : opdOk x = true) (hT : lkT E.tab T = some i) (hs : i.shape = .strct fs) (hf : fs[f]? = some (fo, fsz, ag)) (hz : fsz ≠ 0) (h : aField E nt o σ K fo (σ.eval x)) : Sound E nt o σ K := by
  unfold aField at h
  split at h
  · rename_i id off he
    split at h
    · rename_i ty cs hfi
      exact ⟨_, _, _, fun cx hE hn => r_fieldAddr ho (dok_of hd hn) hx he (by rw [hE]; exact hT) hs hf hz hfi, h⟩
    · exact h.elim
  · rename_i id sz k j he
    split at h
    · rename_i ty sz' xs hfi
      split at h
      · rename_i hsz
        have hsz := nbeq hsz
        subst hsz
        cases h with
        | mk hk h => exact ⟨_, _, _, fun cx hE hn => r_fieldAddr_elt ho (dok_of hd hn) hx he (by rw [hE]; exact hT) hs hf hz hfi hk, h⟩
      · exact h.elim
    · exact h.elim
  · rename_i cs he
    exact ⟨_, _, _, fun cx hE hn => r_fieldAddr_ref ho (dok_of hd hn) hx he (by rw [hE]; exact hT) hs hf hz, h⟩
  · exact h.sound
theorem aIndexAddr_sound {T e sz eb : Nat} {x y : Operand} {i : TyI} (ho : o.op = .indexAddr T x y) (hd : dokN nt o.dst = true) (hx : opdOk x = true) (hy : opdOk y = true) (hT : lkT E.tab T = some i) (hs : i.shape = .slc e sz eb) (hz : sz ≠ 0) (h : aIndexAddr E nt o σ K sz (σ.eval x) (σ.eval y)) : Sound E nt o σ K := by
  unfold aIndexAddr at h
  split at h
  · rename_i sz' xs k n he he2
    split at h
    · rename_i hsz
      have hsz := nbeq hsz
      subst hsz
      cases h with
      | mk m el hn1 hel h => exact ⟨_, _, _, fun cx hE hn => r_indexAddr_sl ho (dok_of hd hn) hx hy he he2 (by rw [hE]; exact hT) hs hz hn1 hel, h⟩
    · exact h.elim
  · rename_i id k n he he2
    split at h
    · rename_i ty sz' xs hf
      split at h
      · rename_i hsz
        have hsz := nbeq hsz
        subst hsz
        cases h with
        | mk m hn1 hm h => exact ⟨_, _, _, fun cx hE hn => r_indexAddr_row ho (dok_of hd hn) hx hy he he2 hf (by rw [hE]; exact hT) hs hz hn1 hm, h⟩
      · exact h.elim
    · exact h.elim
  · exact h.sound
theorem shape_bool {P : Program} {T : Nat} {i : TyI} (h : TyOk P T i) (hs : i.shape = .bool) : P.underlying T = some .bool := by
  obtain ⟨d, hd, he⟩ := h.und
  rw [hs] at he
  cases d <;> simp only [shapeOf, reduceCtorEq] at he
  exact hd
theorem aBin_sound {op : BinOp} {t t2 : Nat} {x y : Operand} (ho : o.op = .binOp op t x y t2) (hd : dokN nt o.dst = true) (hx : opdOk x = true) (hy : opdOk y = true) (h : aBin E nt o σ K op t (σ.eval x) (σ.eval y)) : Sound E nt o σ K := by
  unfold aBin at h
  split at h
  · rename_i k a k' b he he2
    split at h
    · rename_i hk
      have hk : k = k' := by simpa using hk
      subst hk
      split at h
      · cases h with
        | mk hb h => exact ⟨_, _, _, fun cx hE hn => r_quo ho (dok_of hd hn) hx hy he he2 hb rfl, h⟩
      · cases h with
        | mk hb h => exact ⟨_, _, _, fun cx hE hn => r_rem ho (dok_of hd hn) hx hy he he2 hb rfl, h⟩
      · split at h
        · rename_i av hav
          exact ⟨_, _, _, fun cx hE hn => r_binI ho (dok_of hd hn) hx hy he he2 hav, h⟩
        · exact h.sound
    · exact h.elim
  · rename_i a b he he2
    split at h
    · rename_i i hT
      split at h
      · rename_i hs
        exact ⟨_, _, _, fun cx hE hn => r_eqB ho (dok_of hd hn) hx hy he he2 (shape_bool (cx.E.ok t i (by rw [hE]; exact hT)) hs), h⟩
      · rename_i hs
        exact ⟨_, _, _, fun cx hE hn => r_neB ho (dok_of hd hn) hx hy he he2 (shape_bool (cx.E.ok t i (by rw [hE]; exact hT)) hs), h⟩
      · exact h.sound
    · exact h.sound
  · exact h.sound
theorem aCall_sound {x : Operand} {args : Array Operand} {tys : Array TypeId} (ho : o.op = .call { callee := .value x, args := args, argTypes := tys }) (hd : dokN nt o.dst = true) (hx : opdOk x = true) (ha : args.toList.all opdOk = true) (h : aCall E nt o σ K args (σ.eval x)) : Sound E nt o σ K := by
  unfold aCall at h
  split at h
  · rename_i f cap he
    split at h
    · rename_i hcl
      cases h with
      | mk fr res hc h => exact ⟨_, _, _, fun cx hE hn => r_call ho (dok_of hd hn) hx ha he rfl hcl (by rw [hE]; exact hc), h⟩
      | row ty sz xs hc h =>
        split at h
        · rename_i d hdst
          split at h
          · rename_i hf
            exact ⟨_, _, _, fun cx hE hn => r_call_row ho hdst (dok_of hd hn) hx ha he rfl hcl hf (by rw [hE]; exact hc), h⟩
          · exact h.elim
        · exact h.elim
    · cases h with
      | mk fr res hc hf h => exact ⟨_, _, _, fun cx hE hn => r_call_close ho (dok_of hd hn) hx ha he rfl (by rw [hE]; exact hc) hf, h⟩
  · exact h.sound
theorem aLen_sound {T : Nat} {x : Operand} {i : TyI} (ho : o.op = .call { callee := .builtin .len, args := #[x], argTypes := #[T] }) (hd : dokN nt o.dst = true) (hx : opdOk x = true) (hT : lkT E.tab T = some i) (h : aLen E nt o σ K i (σ.eval x)) : Sound E nt o σ K := by
  unfold aLen at h
  split at h
  · rename_i sz xs he
    split at h
    · rename_i hs; exact ⟨_, _, _, fun cx hE hn => r_len_sl (ty := 0) ho (dok_of hd hn) hx he (by rw [hE]; exact hT) hs, h⟩
    · exact h.elim
  · rename_i he
    split at h
    · rename_i hs; exact ⟨_, _, _, fun cx hE hn => r_len_nils (ty := 0) ho (dok_of hd hn) hx he (by rw [hE]; exact hT) hs, h⟩
    · exact h.elim
  · rename_i id he
    split at h
    · rename_i hs hf; exact ⟨_, _, _, fun cx hE hn => r_len_row ho (dok_of hd hn) hx he hf (by rw [hE]; exact hT) hs, h⟩
    · exact h.elim
  · rename_i s he
    split at h
    · rename_i hs; exact ⟨_, _, _, fun cx hE hn => r_len_str ho (dok_of hd hn) hx he (by rw [hE]; exact hT) hs, h⟩
    · exact h.elim
  · exact h.sound
theorem aAppend_sound {T d e sz eb : Nat} {x y : Operand} {i ie : TyI} (ho : o.op = .call { callee := .builtin .append, args := #[x, y], argTypes := #[T, T] }) (hdst : o.dst = some d) (hd : dokN nt o.dst = true) (hx : opdOk x = true) (hy : opdOk y = true) (hT : lkT E.tab T = some i) (hs : i.shape = .slc e sz eb) (he : lkT E.tab e = some ie)
    (hsz : ie.sz = sz) (hz : sz ≠ 0) (hzs : ie.zero.cells.size = sz) (hn : σ.find d = none) (h : aAppend E nt o σ K e sz ie d (σ.eval x) (σ.eval y)) : Sound E nt o σ K := by
  unfold aAppend at h
  split at h
  · rename_i sz' ys e1 e2
    split at h
    · rename_i hq
      have hq := nbeq hq
      subst hq
      rw [forced_eq] at h
      cases h with
      | mk h1 h2 h => exact ⟨_, _, _, fun cx hE hn' => r_append (oid := none) (xs := []) ho hdst (dok_of hd hn') hx hy (by rw [hE]; exact hT) hs (by rw [hE]; exact he) hsz hz hzs (Or.inl ⟨e1, rfl, rfl⟩) (Or.inl e2) hn (by simpa using h1) (by simpa using h2), h⟩
    · exact h.elim
  · rename_i e1 e2
    exact ⟨_, _, _, fun cx hE hn' => r_append (oid := none) (xs := []) (ys := []) ho hdst (dok_of hd hn') hx hy (by rw [hE]; exact hT) hs (by rw [hE]; exact he) hsz hz hzs (Or.inl ⟨e1, rfl, rfl⟩) (Or.inr ⟨e2, rfl⟩) hn (by simp) (by simp), h⟩
  · rename_i id sz' ys e1 e2
    split at h
    · rename_i e' sz2 xs hf
      split at h
      · rename_i hb
        simp only [Bool.and_eq_true, Bool.not_eq_true'] at hb
        obtain ⟨b1, b2, b3, b4⟩ := hb
        have b1 := nbeq b1
        have b2 := nbeq b2
        have b3 := nbeq b3
        subst b1
        subst b2
        subst b3
        rw [forced_eq] at h
        cases h with
        | mk h1 h2 h => exact ⟨_, _, _, fun cx hE hn' => r_append (oid := some id) ho hdst (dok_of hd hn') hx hy (by rw [hE]; exact hT) hs (by rw [hE]; exact he) hsz hz hzs (Or.inr ⟨id, e1, rfl, nbne b4, hf⟩) (Or.inl e2) hn h1 h2, h⟩
      · exact h.elim
    · exact h.elim
  · exact h.sound
theorem one_list {α : Type} {l : Array α} {x : α} (h : l.toList = [x]) : l = #[x] := by
  cases l; simp at h; subst h; rfl
theorem two_list {α : Type} {l : Array α} {x y : α} (h : l.toList = [x, y]) : l = #[x, y] := by
  cases l; simp at h; subst h; rfl
theorem aBuiltin_sound {b : Builtin} {args : Array Operand} {tys : Array TypeId} (ho : o.op = .call { callee := .builtin b, args := args, argTypes := tys }) (hd : dokN nt o.dst = true) (h : aBuiltin E nt o σ K b args tys) : Sound E nt o σ K := by
  unfold aBuiltin at h
  split at h
  · rename_i x T hl hl2
    have hl := one_list hl
    have hl2 := one_list hl2
    subst hl
    subst hl2
    split at h
    · rename_i i hx hT
      exact aLen_sound ho hd hx hT h
    · exact h.elim
  · rename_i x y hl
    have hl := two_list hl
    subst hl
    split at h
    · rename_i k a k' b hxy he he2
      simp only [Bool.and_eq_true] at hxy
      exact ⟨_, _, _, fun cx hE hn => r_max ho (dok_of hd hn) hxy.1 hxy.2 he he2, h⟩
    · exact h.sound
  · rename_i x y hl
    have hl := two_list hl
    subst hl
    split at h
    · rename_i k a k' b hxy he he2
      simp only [Bool.and_eq_true] at hxy
      exact ⟨_, _, _, fun cx hE hn => r_min ho (dok_of hd hn) hxy.1 hxy.2 he he2, h⟩
    · exact h.sound
  · rename_i x y T T' hl hl2
    have hl := two_list hl
    have hl2 := two_list hl2
    subst hl
    subst hl2
    split at h
    · rename_i i d hxy hT hdst
      simp only [Bool.and_eq_true] at hxy
      obtain ⟨hx, hy, htt⟩ := hxy
      have htt := nbeq htt
      subst htt
      split at h
      · rename_i e sz eb hs hf
        split at h
        · rename_i ie he
          split at h
          · rename_i hb
            simp only [Bool.and_eq_true, Bool.not_eq_true'] at hb
            exact aAppend_sound ho hdst hd hx hy hT hs he (nbeq hb.1) (nbne hb.2.1) (nbeq hb.2.2) hf h
          · exact h.elim
        · exact h.elim
      · exact h.elim
    · exact h.elim
  · exact h.sound
theorem chunks_flat (agg : Bool) (sz n : Nat) (l : List AV) (hl : l.length = n * sz) (hc : agg = true ∨ (sz = 1 ∧ l.all notAgg = true)) : (chunks agg sz n l).flatMap AV.cells = l ∧ (chunks agg sz n l).length = n ∧ ∀ x ∈ chunks agg sz n l, x.cells.length = sz := by
  have key : ∀ (l : List AV) (n : Nat), l.length = n * sz → ((List.range n).map fun k => AV.agg ((l.drop (k * sz)).take sz)).flatMap AV.cells = l := fun l n hl => by
    induction n generalizing l with
    | zero => simp at hl; subst hl; rfl
    | succ n ih =>
      rw [List.range_succ_eq_map, List.map_cons, List.flatMap_cons, List.map_map]
      have h1 : (l.drop sz).length = n * sz := by rw [List.length_drop, hl, Nat.succ_mul]; omega
      have h2 := ih (l.drop sz) h1
      have h3 : (List.range n).map ((fun k => AV.agg ((l.drop (k * sz)).take sz)) ∘ Nat.succ) = (List.range n).map fun k => AV.agg (((l.drop sz).drop (k * sz)).take sz) := by
        refine List.map_congr_left fun k _ => ?_
        simp only [Function.comp, List.drop_drop, Nat.succ_mul]
        rw [Nat.add_comm sz (k * sz)]
      rw [h3, h2]
      simp only [AV.cells, Nat.zero_mul, List.drop_zero, List.take_append_drop]
  rcases hc with rfl | ⟨rfl, hna⟩
  · refine ⟨key l n hl, by simp [chunks], fun x hx => ?_⟩
    simp only [chunks, List.mem_map, List.mem_range] at hx
    obtain ⟨k, hk, rfl⟩ := hx
    have : (k + 1) * sz ≤ n * sz := Nat.mul_le_mul_right _ hk
    rw [Nat.succ_mul] at this
    simp only [AV.cells, List.length_take, List.length_drop]
    omega
  · cases agg with
    | true =>
      refine ⟨key l n hl, by simp [chunks], fun x hx => ?_⟩
      simp only [chunks, List.mem_map, List.mem_range] at hx
      obtain ⟨k, hk, rfl⟩ := hx
      simp only [AV.cells, List.length_take, List.length_drop]
      omega
    | false =>
      have hn : l.length = n := by omega
      have e : chunks false 1 n l = l := by
        unfold chunks
        apply List.ext_getElem
        · simp [hn]
        · intro k h1 h2
          simp [List.getElem?_eq_getElem h2]
      rw [e]
      have hcell : ∀ x ∈ l, x.cells = [x] := fun x hx => by
        simp only [List.all_eq_true] at hna
        have := hna x hx
        cases x <;> first | rfl | simp [notAgg] at this
      refine ⟨?_, hn, fun x hx => by rw [hcell x hx]; rfl⟩
      clear e hn hl hna
      induction l with
      | nil => rfl
      | cons x r ih => rw [List.flatMap_cons, hcell x (by simp), ih (fun y hy => hcell y (by simp [hy]))]; rfl
theorem fillA_length (place : Nat → Option (Nat × Nat)) : ∀ (ps : List (Nat × AV)) (cells cs : List AV), fillA place cells ps = some cs → cs.length = cells.length
  | [], cells, cs, h => by simp only [fillA, Option.some.injEq] at h; rw [h]
  | (i, v) :: r, cells, cs, h => by
    simp only [fillA] at h
    split at h
    · cases h
    · rename_i off size hp
      split at h
      · rename_i hb
        simp only [Bool.and_eq_true] at hb
        have h1 := nbeq hb.1
        have h2 := Nat.le_of_ble_eq_true hb.2
        rw [fillA_length place r _ cs h]
        simp
        omega
      · cases h

theorem aop_sound {kn : Kn} (hkn : KnOk σ kn) (h : aop E nt kn o σ K) : Sound E nt o σ K := by
  unfold aop at h
  split at h
  · exact h.elim
  rename_i hd
  split at h
  · rename_i x ho
    split at h
    · rename_i hx; exact ⟨_, _, _, fun cx hE hn => r_move ho (dok_of hd hn) hx rfl, h⟩
    · exact h.elim
  · rename_i x ho
    split at h
    · rename_i hx; exact ⟨_, _, _, fun cx hE hn => r_assign ho (dok_of hd hn) hx rfl, h⟩
    · exact h.elim
  · rename_i c x y ho
    split at h
    · rename_i hok hc
      simp only [Bool.and_eq_true] at hok
      exact ⟨_, _, _, fun cx hE hn => r_pick_true ho (dok_of hd hn) hok.1 hok.2.1 (hkn.of hc) rfl rfl, h⟩
    · rename_i hok hc
      simp only [Bool.and_eq_true] at hok
      exact ⟨_, _, _, fun cx hE hn => r_pick_false ho (dok_of hd hn) hok.1 hok.2.2 (hkn.of hc) rfl rfl, h⟩
    · rename_i hok hc
      simp only [Bool.and_eq_true] at hok
      split at h
      · rename_i b hc
        cases h with
        | mk h1 h2 =>
          cases hb : b with
          | true => exact ⟨_, _, _, fun cx hE hn => r_pick_true ho (dok_of hd hn) hok.1 hok.2.1 hc hb rfl, h1 hb⟩
          | false => exact ⟨_, _, _, fun cx hE hn => r_pick_false ho (dok_of hd hn) hok.1 hok.2.2 hc hb rfl, h2 hb⟩
      · exact h.elim
    · exact h.elim
  · rename_i op t x y t2 ho
    split at h
    · rename_i hok
      simp only [Bool.and_eq_true] at hok
      exact aBin_sound ho hd hok.1 hok.2 h
    · exact h.elim
  · rename_i t x ho
    split at h
    · rename_i b hx he; exact ⟨_, _, _, fun cx hE hn => r_not ho (dok_of hd hn) hx he, h⟩
    · exact h.elim
  · rename_i t x ho
    split at h
    · rename_i k a hx he; exact ⟨_, _, _, fun cx hE hn => r_neg ho (dok_of hd hn) hx he rfl, h⟩
    · exact h.elim
  · rename_i T ho
    split at h
    · rename_i d i hdst hT
      split at h
      · rename_i hf hz; exact ⟨_, _, _, fun cx hE hn => r_alloc ho hdst (dok_of hd hn) (by rw [hE]; exact hT) hf (allOne_all hz), h⟩
      · exact h.elim
    · exact h.elim
  · rename_i T x ho
    split at h
    · rename_i d hdst
      split at h
      · rename_i hf hok
        simp only [Bool.and_eq_true] at hok
        exact ⟨_, _, _, fun cx hE hn => r_box ho hdst (dok_of hd hn) hok.1 rfl hok.2 hf, h⟩
      · exact h.elim
    · exact h.elim
  · rename_i T x f ho
    split at h
    · rename_i i hx hT
      split at h
      · rename_i fs hs
        split at h
        · rename_i fo fsz ag hf
          split at h
          · rename_i hz; exact aField_sound ho hd hx hT hs hf (nbne hz) h
          · exact h.elim
        · exact h.elim
      · exact h.elim
    · exact h.elim
  · rename_i T x ho
    split at h
    · rename_i i hx hT; exact aLoad_sound ho hd hx hT h
    · exact h.elim
  · rename_i T x y ho
    split at h
    · rename_i i hxy hT
      simp only [Bool.and_eq_true] at hxy
      exact aStore_sound ho hd hxy.1 hxy.2 hT h
    · exact h.elim
  · rename_i T x y ho
    split at h
    · rename_i i hxy hT
      simp only [Bool.and_eq_true] at hxy
      split at h
      · rename_i e sz eb hs
        split at h
        · rename_i hz; exact aIndexAddr_sound ho hd hxy.1 hxy.2 hT hs (nbne hz) h
        · exact h.elim
      · exact h.sound
    · exact h.elim
  · rename_i T x f ho
    split at h
    · rename_i i cs hx hT he
      split at h
      · rename_i fs hs
        split at h
        · rename_i fo fsz hf
          split at h
          · rename_i hz hb; exact ⟨_, _, _, fun cx hE hn => r_field_agg ho (dok_of hd hn) hx he (by rw [hE]; exact hT) hs hf (nbne hz) (Nat.le_of_ble_eq_true hb), h⟩
          · exact h.elim
        · rename_i fo fsz hf
          split at h
          · rename_i av hav; exact ⟨_, _, _, fun cx hE hn => r_field_one ho (dok_of hd hn) hx he (by rw [hE]; exact hT) hs hf hav, h⟩
          · exact h.elim
        · exact h.elim
      · exact h.elim
    · exact h.sound
  · rename_i T x y ho
    split at h
    · rename_i i cs k n hxy hT he he2
      simp only [Bool.and_eq_true] at hxy
      split at h
      · rename_i len e esz ag hs
        split at h
        · rename_i hz
          cases h with
          | mk m hm1 hm2 h =>
            split at h
            · split at h
              · rename_i hb; exact ⟨_, _, _, fun cx hE hn => r_index_agg ho (dok_of hd hn) hxy.1 hxy.2 he he2 (by rw [hE]; exact hT) hs (nbne hz) hm1 hm2 (Nat.le_of_ble_eq_true hb), h⟩
              · exact h.elim
            · split at h
              · rename_i av hav; exact ⟨_, _, _, fun cx hE hn => r_index_one ho (dok_of hd hn) hxy.1 hxy.2 he he2 (by rw [hE]; exact hT) hs (nbne hz) hm1 hm2 hav, h⟩
              · exact h.elim
        · exact h.elim
      · exact h.elim
    · exact h.sound
  · rename_i x ix ho
    split at h
    · rename_i cs hx he
      split at h
      · rename_i av hav; exact ⟨_, _, _, fun cx hE hn => r_extract ho (dok_of hd hn) hx he hav, h⟩
      · exact h.elim
    · exact h.elim
  · rename_i T ps ho
    split at h
    · rename_i i hT hok
      split at h
      · rename_i fs hs hz
        split at h
        · rename_i cs hfs hf; exact ⟨_, _, _, fun cx hE hn => r_build_strct ho (dok_of hd hn) (by rw [hE]; exact hT) hs (allOne_all hz) hok hfs hf, h⟩
        · exact h.elim
      · rename_i n e esz ag hs hz
        split at h
        · rename_i cs hz0 hf; exact ⟨_, _, _, fun cx hE hn => r_build_arr ho (dok_of hd hn) (by rw [hE]; exact hT) hs (allOne_all hz) hok (nbne hz0) hf, h⟩
        · exact h.elim
      · exact h.elim
    · exact h.elim
  · rename_i T n ps ho
    split at h
    · rename_i i hT hok
      split at h
      · rename_i e esz eb hs
        split at h
        · rename_i ie he
          split at h
          · rename_i fl hf
            split at h
            · rename_i hb
              simp only [Bool.and_eq_true, Bool.not_eq_true', Bool.or_eq_true] at hb
              obtain ⟨b1, b2, b3, b4, b5, b6⟩ := hb
              rw [fL_eq] at h
              have hlen := fillA_length _ _ _ _ hf
              rw [List.length_replicate] at hlen
              obtain ⟨c1, c2, c3⟩ := chunks_flat ie.shape.agg esz n fl hlen (b6.imp id (fun ⟨h1, h2⟩ => ⟨nbeq h1, h2⟩))
              exact ⟨_, _, _, fun cx hE hn => r_buildSlice ho (dok_of hd hn) (by rw [hE]; exact hT) hs (by rw [hE]; exact he) (nbne b1) b2 (allOne_all b3) b4 hok b5 c2 (by simp only [List.all_eq_true]; intro x hx; rw [c3 x hx]; simp) (by rw [c1]; exact hf), h⟩
            · exact h.sound
          · exact h.elim
        · exact h.elim
      · exact h.elim
    · exact h.elim
  · rename_i T x lo hi ho
    split at h
    · rename_i i sz xs hok hT he
      simp only [Bool.and_eq_true] at hok
      split at h
      · rename_i e sz' eb hs
        split at h
        · rename_i l hh hb h1 h2
          simp only [Bool.and_eq_true, Bool.not_eq_true'] at hb
          have hq := nbeq hb.1
          subst hq
          cases h with
          | mk l' h' e1 e2 h3 h4 h =>
            subst e1
            subst e2
            exact ⟨_, _, _, fun cx hE hn => r_slice_sl (esz := 0) ho (dok_of hd hn) hok.1 hok.2.1 hok.2.2 he (by rw [hE]; exact hT) hs (nbne hb.2) h1 h2 h3 h4, h⟩
        · exact h.elim
      · exact h.elim
    · rename_i i s hok hT he
      simp only [Bool.and_eq_true] at hok
      split at h
      · rename_i hs
        split at h
        · rename_i l hh h1 h2
          cases h with
          | mk l' h' e1 e2 h3 h4 h =>
            subst e1
            subst e2
            exact ⟨_, _, _, fun cx hE hn => r_slice_str ho (dok_of hd hn) hok.1 hok.2.1 hok.2.2 he (by rw [hE]; exact hT) hs h1 h2 h3 h4, h⟩
        · exact h.elim
      · exact h.elim
    · exact h.sound
  · rename_i T T' x ho
    split at h
    · rename_i k n i j hx he hT hT'
      split at h
      · rename_i k' hs; exact ⟨_, _, _, fun cx hE hn => r_convert ho (dok_of hd hn) hx he (by rw [hE]; exact hT) (by rw [hE]; exact hT') hs, h⟩
      · exact h.sound
    · exact h.sound
  · rename_i f first ps ho
    split at h
    · rename_i hfi hok
      have : first = #[] := by cases first; simp at hfi; subst hfi; rfl
      subst this
      exact ⟨_, _, _, fun cx hE hn => r_makeFunc ho (dok_of hd hn) hok rfl, h⟩
    · exact h.sound
  · rename_i c ho
    obtain ⟨callee, args, tys⟩ := c
    simp only at h
    split at h
    · exact aBuiltin_sound ho hd h
    · rename_i x
      split at h
      · rename_i hb
        simp only [Bool.and_eq_true] at hb
        exact aCall_sound ho hd hb.1 hb.2 h
      · exact h.elim
    · exact h.sound
  · exact h.sound

/-! ### Regions and statements -/
def fEnt : Ent → (Ent → Prop) → Prop
  | .box ty cs, k => fL cs fun l => k (.box ty l)
  | .row ty sz xs, k => k (.row ty sz xs)
  | .dead, k => k .dead
theorem fEnt_eq (e : Ent) (k : Ent → Prop) : fEnt e k = k e := by cases e <;> simp only [fEnt, fL_eq]
def eApp : List (Nat × Ent) → List (Nat × Ent) → (List (Nat × Ent) → Prop) → Prop
  | [], me, k => k me
  | (i, e) :: r, me, k => fEnt e fun e' => eApp r me fun l => k ((i, e') :: l)
theorem eApp_eq : ∀ (wr me : List (Nat × Ent)) (k : List (Nat × Ent) → Prop), eApp wr me k = k (wr ++ me)
  | [], me, k => rfl
  | (i, e) :: r, me, k => by rw [eApp, fEnt_eq, eApp_eq]; rfl
/-- 'k' of the state behind an operation. -/
def upK (σ : AS) (d : Option Nat) (av : AV) (wr : List (Nat × Ent)) (k : AS → Prop) : Prop :=
  fAV av fun av' => match σ, d with
    | ⟨tm, me⟩, some d => eApp wr me fun me' => k ⟨(d, av') :: tm, me'⟩
    | ⟨tm, me⟩, none => eApp wr me fun me' => k ⟨tm, me'⟩
theorem upK_eq (σ : AS) (d : Option Nat) (av : AV) (wr : List (Nat × Ent)) (k : AS → Prop) : upK σ d av wr k = k (σ.upd d av wr) := by
  unfold upK
  rw [fAV_eq]
  obtain ⟨tm, me⟩ := σ
  cases d <;> simp only [eApp_eq] <;> rfl

def aexec (E : Env) (nt : Nat) (ops : Array Oper) : List Oper → Kn → AS → List Tr → (List Tr → AS → Prop) → Prop
  | [], kn, σ, trs, Post => Post trs.reverse σ
  | o :: rest, kn, σ, trs, Post => match o.guard with
    | none => aop E nt kn o σ fun av ids wr => upK σ o.dst av wr fun σ' => aexec E nt ops rest (dropO o.dst kn) σ' (⟨av, ids, wr⟩ :: trs) Post
    | some (g, want) => match dokN nt o.dst, dstOf ops g with
      | true, some t => match lkB kn t, want with
        | some true, true => aop E nt kn o σ fun av ids wr => upK σ o.dst av wr fun σ' => aexec E nt ops rest (dropO o.dst kn) σ' (⟨av, ids, wr⟩ :: trs) Post
        | some false, false => aop E nt kn o σ fun av ids wr => upK σ o.dst av wr fun σ' => aexec E nt ops rest (dropO o.dst kn) σ' (⟨av, ids, wr⟩ :: trs) Post
        | some true, false => upK σ o.dst (.tup []) [] fun σ' => aexec E nt ops rest (dropO o.dst kn) σ' (⟨.tup [], [], []⟩ :: trs) Post
        | some false, true => upK σ o.dst (.tup []) [] fun σ' => aexec E nt ops rest (dropO o.dst kn) σ' (⟨.tup [], [], []⟩ :: trs) Post
        | none, want => match σ.get t with
          | .bool c => match want with
            | true => CondX c (upK σ (some t) (.bool true) [] fun σ => aop E nt ((t, true) :: kn) o σ fun av ids wr => upK σ o.dst av wr fun σ' => aexec E nt ops rest (dropO o.dst ((t, true) :: kn)) σ' (⟨av, ids, wr⟩ :: trs) Post)
                (upK σ (some t) (.bool false) [] fun σ => upK σ o.dst (.tup []) [] fun σ' => aexec E nt ops rest (dropO o.dst ((t, false) :: kn)) σ' (⟨.tup [], [], []⟩ :: trs) Post)
            | false => CondX c (upK σ (some t) (.bool true) [] fun σ => upK σ o.dst (.tup []) [] fun σ' => aexec E nt ops rest (dropO o.dst ((t, true) :: kn)) σ' (⟨.tup [], [], []⟩ :: trs) Post)
                (upK σ (some t) (.bool false) [] fun σ => aop E nt ((t, false) :: kn) o σ fun av ids wr => upK σ o.dst av wr fun σ' => aexec E nt ops rest (dropO o.dst ((t, false) :: kn)) σ' (⟨av, ids, wr⟩ :: trs) Post)
          | .tup [] => upK σ o.dst (.tup []) [] fun σ' => aexec E nt ops rest (dropO o.dst kn) σ' (⟨.tup [], [], []⟩ :: trs) Post
          | _ => False
      | _, _ => False

theorem ext_refine {σ : AS} {t : Nat} {b : Bool} (h : σ.get t = .bool b) : Ext (σ.upd (some t) (.bool b) []) σ :=
  ⟨fun u => by
    rw [AS.get_upd]
    by_cases hu : t = u
    · subst hu; rw [if_pos rfl, h]
    · rw [if_neg (fun e => hu (by injection e))], fun i => by rw [AS.find_upd]; rfl⟩
theorem aexec_sound {cx : Cx} (hE : cx.E = E) (hn : cx.nt = nt) {ops : Array Oper} {Post : List Tr → AS → Prop} : ∀ (l : List Oper) (i : Nat) (kn : Kn) (σ : AS) (trs : List Tr), ops.toList.drop i = l → KnOk σ kn → aexec E nt ops l kn σ trs Post → Exec cx ops i σ trs Post
  | [], i, kn, σ, trs, hl, hkn, h => by
    refine Exec.done ?_ h
    have := congrArg List.length hl
    simp at this
    omega
  | o :: rest, i, kn, σ, trs, hl, hkn, h => by
    have hi : i < ops.size := by
      have := congrArg List.length hl
      simp at this
      omega
    have ho : ops[i]? = some o := by
      have h0 : (ops.toList.drop i)[0]? = some o := by rw [hl]; rfl
      rw [List.getElem?_drop, Nat.add_zero] at h0
      simpa using h0
    have hrest : ops.toList.drop (i + 1) = rest := by
      rw [← List.drop_drop, hl]; rfl
    have hd : dstOf ops i = o.dst := by simp [dstOf, ho]
    unfold aexec at h
    split at h
    · rename_i hg
      obtain ⟨av, ids, wr, hr, hk⟩ := aop_sound hkn h
      rw [upK_eq] at hk
      exact Exec.op ho hg (hr cx hE hn) (aexec_sound hE hn rest (i + 1) _ _ _ hrest (hkn.upd _ _ _) hk)
    · rename_i g want hg
      split at h
      · rename_i t hok ht
        have hok : dok cx o = true := dok_of hok hn
        have run : ∀ (b : Bool) (kn : Kn) (σ : AS), KnOk σ kn → σ.get t = .bool b → b = want → (aop E nt kn o σ fun av ids wr => upK σ o.dst av wr fun σ' => aexec E nt ops rest (dropO o.dst kn) σ' (⟨av, ids, wr⟩ :: trs) Post) → Exec cx ops i σ trs Post := fun b kn σ hkn hgt hbw hk => by
          obtain ⟨av, ids, wr, hr, hk⟩ := aop_sound hkn hk
          rw [upK_eq] at hk
          exact Exec.cons hi (OpRule.step_guard ho hg ht hgt hbw (hr cx hE hn)) (by rw [hd]; exact aexec_sound hE hn rest (i + 1) _ _ _ hrest (hkn.upd _ _ _) hk)
        have skip : ∀ (b : Bool) (kn : Kn) (σ : AS), KnOk σ kn → σ.get t = .bool b → b ≠ want → (upK σ o.dst (.tup []) [] fun σ' => aexec E nt ops rest (dropO o.dst kn) σ' (⟨.tup [], [], []⟩ :: trs) Post) → Exec cx ops i σ trs Post := fun b kn σ hkn hgt hbw hk => by
          rw [upK_eq] at hk
          exact Exec.cons hi (step_skipped ho hok hg ht (Or.inl ⟨b, hgt, hbw⟩)) (by rw [hd]; exact aexec_sound hE hn rest (i + 1) _ _ _ hrest (hkn.upd _ _ _) hk)
        split at h
        · rename_i hk; exact run true kn σ hkn (hkn _ _ hk) rfl h
        · rename_i hk; exact run false kn σ hkn (hkn _ _ hk) rfl h
        · rename_i hk; exact skip true kn σ hkn (hkn _ _ hk) (by simp) h
        · rename_i hk; exact skip false kn σ hkn (hkn _ _ hk) (by simp) h
        · split at h
          · rename_i c hc
            split at h
            · cases h with
              | mk h1 h2 =>
                cases hcc : c with
                | true =>
                  have h3 := h1 hcc
                  rw [upK_eq] at h3
                  have hcb : σ.get t = .bool true := by rw [hc, hcc]
                  exact Exec.ext (ext_refine hcb) (run true _ _ (hkn.know t true) (by rw [AS.get_upd, if_pos rfl]) rfl h3)
                | false =>
                  have h3 := h2 hcc
                  rw [upK_eq] at h3
                  have hcb : σ.get t = .bool false := by rw [hc, hcc]
                  exact Exec.ext (ext_refine hcb) (skip false _ _ (hkn.know t false) (by rw [AS.get_upd, if_pos rfl]) (by simp) h3)
            · cases h with
              | mk h1 h2 =>
                cases hcc : c with
                | true =>
                  have h3 := h1 hcc
                  rw [upK_eq] at h3
                  have hcb : σ.get t = .bool true := by rw [hc, hcc]
                  exact Exec.ext (ext_refine hcb) (skip true _ _ (hkn.know t true) (by rw [AS.get_upd, if_pos rfl]) (by simp) h3)
                | false =>
                  have h3 := h2 hcc
                  rw [upK_eq] at h3
                  have hcb : σ.get t = .bool false := by rw [hc, hcc]
                  exact Exec.ext (ext_refine hcb) (run false _ _ (hkn.know t false) (by rw [AS.get_upd, if_pos rfl]) rfl h3)
          · rename_i hc
            rw [upK_eq] at h
            exact Exec.cons hi (step_skipped ho hok hg ht (Or.inr hc)) (by rw [hd]; exact aexec_sound hE hn rest (i + 1) _ _ _ hrest (hkn.upd _ _ _) h)
          · exact h.elim
      · exact h.elim

def awp (E : Env) (nt : Nat) : Code → (Exit → AS → Prop) → AS → Prop
  | .skip, Q, σ => Q .normal σ
  | .ret, Q, σ => Q .ret σ
  | .exit id, Q, σ => Q (.exit id) σ
  | .seq x y, Q, σ => awp E nt x (thenA (fun σ' => awp E nt y Q σ') Q) σ
  | .block id c, Q, σ => awp E nt c (inBlockA id Q) σ
  | .cond c x y, Q, σ => match opdOk c, σ.eval c with
    | true, .bool b => CondX b (awp E nt x Q σ) (awp E nt y Q σ)
    | _, _ => False
  | .region _ ops false, Q, σ => aexec E nt ops ops.toList [] σ [] fun _ σ' => Q .normal σ'
  | .region _ ops true, Q, σ => aexec E nt ops ops.toList [] σ [] fun trs σ' => (edgesOk ops = true ∧ cfree ops trs = true) ∧ Q .normal σ'
  | .loop c, Q, σ => LoopX E nt (fun next σ' => awp E nt c (thenA next Q) σ') σ
  | _, _, _ => False
theorem awp_sound {cx : Cx} (hE : cx.E = E) (hn : cx.nt = nt) : ∀ (c : Code) (Q : Exit → AS → Prop) (σ : AS), awp E nt c Q σ → WP cx c Q σ
  | .skip, Q, σ, h => WP.skip h
  | .ret, Q, σ, h => WP.ret h
  | .exit id, Q, σ, h => WP.exit h
  | .seq x y, Q, σ, h => WP.seq (WP.mono (awp_sound hE hn x _ σ h) (fun e σ' hq => by
      cases e with
      | normal => exact awp_sound hE hn y Q σ' hq
      | _ => exact hq))
  | .block id c, Q, σ, h => WP.block (awp_sound hE hn c _ σ h)
  | .cond c x y, Q, σ, h => by
    unfold awp at h
    split at h
    · rename_i b hok hc
      cases h with
      | mk h1 h2 => exact WP.cond hok hc (fun hb => awp_sound hE hn x Q σ (h1 hb)) (fun hb => awp_sound hE hn y Q σ (h2 hb))
    · exact h.elim
  | .region id ops false, Q, σ, h => WP.region (aexec_sound hE hn ops.toList 0 [] σ [] rfl (fun t b h => by simp [lkB] at h) h)
  | .region id ops true, Q, σ, h => by
    unfold awp at h
    have he := aexec_sound hE hn ops.toList 0 [] σ [] rfl (fun t b h => by simp [lkB] at h) h
    obtain ⟨trs, σ', hr, ⟨h1, h2⟩, h3⟩ := he
    exact WP.region_draw h1 ⟨trs, σ', hr, h2, h3⟩
  | .loop c, Q, σ, h => by
    unfold awp at h
    cases h with
    | mk I n τ hl h0 round =>
      refine WP.loop (fun n σ => ∃ τ, LeX E nt σ τ ∧ I n τ) n ⟨τ, hl, h0⟩ (fun n σ ⟨τ, hl, hI⟩ => WP.weaken (hl cx hE hn) ?_)
      refine WP.mono (awp_sound hE hn c _ τ (round n τ hI)) (fun e σ' hq => ?_)
      cases e with
      | normal => obtain ⟨m, τ', h1, h2, h3⟩ := hq; exact ⟨m, h2, τ', h1, h3⟩
      | _ => exact hq
  | .rangeFunc f ps a b, Q, σ, h => by unfold awp at h; exact h.elim
  | .scope c, Q, σ, h => by unfold awp at h; exact h.elim
  | .label l, Q, σ, h => by unfold awp at h; exact h.elim
  | .goto l, Q, σ, h => by unfold awp at h; exact h.elim
  | .refuse w, Q, σ, h => by unfold awp at h; exact h.elim
end

theorem Con.walk {E : Env} {fr : Bool} {f : FuncId} {fn : Func} {args : List AV} {res : AV} (c : Code) (hf : E.P.funcs[f]? = some fn) (hb : fn.body = some c) (he : Enters E f) (hn : Nat.ble args.length fn.ntmps = true) (hfr : fr = false ∨ res.flat = true)
    (h : awp E fn.ntmps c (EndA E fn res) (start args)) : Con E fr f args res :=
  Con.of hf hb he (Nat.le_of_ble_eq_true hn) hfr fun S w => awp_sound (cx := ⟨E, S, w, fn.ntmps⟩) rfl rfl c _ _ h
theorem ConRow.walk {E : Env} {f : FuncId} {fn : Func} {args xs : List AV} {ty sz : Nat} (c : Code) (hf : E.P.funcs[f]? = some fn) (hb : fn.body = some c) (he : Enters E f) (hn : Nat.ble args.length fn.ntmps = true)
    (h : awp E fn.ntmps c (EndR fn ty sz xs) (start args)) : ConRow E f args ty sz xs :=
  ConRow.of hf hb he (Nat.le_of_ble_eq_true hn) fun S w => awp_sound (cx := ⟨E, S, w, fn.ntmps⟩) rfl rfl c _ _ h
theorem LeX.of {E : Env} {nt : Nat} {σ τ : AS} (ps : List (Nat × Nat)) (hinj : injB (rho ps) (τ.me.map (·.1)) = true) (h1 : LeV σ (rho ps) (τ.me.map (·.1)) τ.tm) (h2 : LeE σ (rho ps) (τ.me.map (·.1)) τ.me) : LeX E nt σ τ := fun _ _ _ => Le.of ps hinj h1 h2
end Go.Proofs.Ythhnhajldhnfmaa
