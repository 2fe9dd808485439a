/- Forms of terms: elements of a type that holds slices of itself. The abstract walk: own rows that hold own rows (x[k] = append(x[k], ..)). Forms of terms: own rows that hold own rows. The abstract walk: functions walked for contracts that say what becomes of memory that is given. The abstract walk: a range over a function: the statement, its rounds, and the function that holds it. The abstract walk: the rounds of a range over a function. Forms of terms: calls of closures with boxes, yields, ranges over functions. Forms of terms: a string's bytes, a string appended to a row of bytes, literals that are rows. Forms of terms: frozen maps, maps of closures that are known, results that are pointers, literals that are own rows. Plain laws of the forms of terms (G0). -/
import Derived.Test.YtjpknpjjcddnnaaGreatK09
import Derived.Test.YtjpknpjjcddnnaaGreatK08
set_option linter.unusedVariables false
set_option linter.unusedSimpArgs false
namespace Go.Proofs.YtjpknpjjcddnnaaGreat
open Go.RowKit
def idA (a : AV) : AV := a
theorem map_idA (l : List AV) : List.map idA l = l := by induction l with
 | nil => rfl
 | cons x l ih => rw [List.map_cons, ih]; rfl
section
variable {α β : Type}
def idxD (d : AV → Option α) (l : List AV) (n : Int) (k : α → Option β) : Option β := if 0 ≤ n then (match l[n.toNat]? with | some a => (match d a with | some y => k y | none => none) | none => none) else none
theorem IdxX.oD {enc : α → AV} {d : AV → Option α} {l : List AV} {n : Int} {K : AV → Prop} {k : α → Option β} {r : β} (h : idxD d l n k = some r) (hd : ∀ a y, d a = some y → a = enc y) (hk : ∀ y, k y = some r → K (enc y)) : IdxX (l.map idA) n K := by
 unfold idxD at h
 split at h
 ·rename_i hn
  split at h
  ·rename_i a ha
   split at h
   ·rename_i y hy
    refine .mk n.toNat (enc y) (by omega) ?_ (hk y h)
    rw [map_idA, ha, hd a y hy]
   ·cases h
  ·cases h
 ·cases h
end
section
variable {α β V : Type} {E : Env} {nt : Nat} {R : Exit → AS → Prop} {K : List z16}
def jon (F : V → Option β) (x : Option β) : Option β := x
theorem AW.meet1 {J : AS → Prop} {A : Code} {σ : AS} (h1 : AW E nt (z0v J (AW E nt R K)) [.code A] .normal σ) (h2 : ∀ τ, J τ → AW E nt R K .normal τ) : AW E nt R (.code A :: K) .normal σ :=
 ⟨fun cx hE hn => WP.mono (h1.out cx hE hn) (fun e σ' hq => by cases e <;> first | exact (h2 _ hq).out cx hE hn | exact AW.out hq cx hE hn)⟩
theorem AW.meet2 {J : AS → Prop} {A B : Code} {σ : AS} (h1 : AW E nt (z0v J (AW E nt R K)) [.code A, .code B] .normal σ) (h2 : ∀ τ, J τ → AW E nt R K .normal τ) : AW E nt R (.code A :: .code B :: K) .normal σ :=
 ⟨fun cx hE hn => WP.mono (h1.out cx hE hn) (fun e σ' hq => by
  cases e with
  | normal => exact WP.mono hq (fun e σ'' hq => by cases e <;> first | exact (h2 _ hq).out cx hE hn | exact AW.out hq cx hE hn)
  | _ => exact AW.out hq cx hE hn)⟩
theorem AW.joinO1 {F : V → Option β} {S : V → AS} {x : Option β} {r : β} {A C : Code} {σ : AS} (h : jon F x = some r) (h1 : x = some r → AW E nt (z0v (fun σ' => ∃ v, F v = some r ∧ LeX E nt σ' (S v)) (AW E nt R (.code C :: K))) [.code A] .normal σ) (h2 : ∀ v, F v = some r → AW E nt R (.code C :: K) .normal (S v)) : AW E nt R (.code A :: .code C :: K) .normal σ :=
 AW.meet1 (h1 h) (fun τ ⟨v, hv, hl⟩ => AW.weaken hl (h2 v hv))
theorem AW.joinO2 {F : V → Option β} {S : V → AS} {x : Option β} {r : β} {A B C : Code} {σ : AS} (h : jon F x = some r) (h1 : x = some r → AW E nt (z0v (fun σ' => ∃ v, F v = some r ∧ LeX E nt σ' (S v)) (AW E nt R (.code C :: K))) [.code A, .code B] .normal σ) (h2 : ∀ v, F v = some r → AW E nt R (.code C :: K) .normal (S v)) : AW E nt R (.code A :: .code B :: .code C :: K) .normal σ :=
 AW.meet2 (h1 h) (fun τ ⟨v, hv, hl⟩ => AW.weaken hl (h2 v hv))
theorem jon_eq (F : V → Option β) (x : Option β) : jon F x = x := rfl
end
section
variable {β : Type}
def natc (n : Int) (k : Nat) (x y : Option β) : Option β := if n = (k : Int) then x else y
theorem NatX.oS {n : Int} {len : Nat} {K : Nat → Prop} {k : Nat} {x y : Option β} {r : β} (h : natc n k x y = some r) (hlt : Nat.blt k len = true) (h0 : x = some r → K k) (h1 : y = some r → NatX n len K) : NatX n len K := by
 unfold natc at h
 split at h
 ·rename_i e; exact .mk k e (Nat.le_of_ble_eq_true hlt) (h0 h)
 ·exact h1 h
theorem natc_eq (n : Int) (k : Nat) (x y : Option β) : natc n k x y = if n = (k : Int) then x else y := rfl
end
attribute [irreducible] idxD jon natc
end Go.Proofs.YtjpknpjjcddnnaaGreat
namespace Go.Proofs.YtjpknpjjcddnnaaGreat
open Go.RowKit
def isRow : AV → Bool
 | .row _ => true
 | _ => false
def nstV (s : Value) (vs : Array Value) : Option (Option Nat × Value) := some (none, .tuple (#[s] ++ vs))
theorem mem_nstV {s : Value} {b : Nat} {vs : Array Value} : b ∈ blks (nstV s vs) ↔ z48 s = some b ∨ ∃ j, z48 (vs.getD j undef) = some b := by
 simp only [nstV, blks, Option.toList_none, List.nil_append, zfr, Array.toList_append, List.filterMap_append, List.mem_append]
 constructor
 ·rintro (h | h)
  ·left
   obtain ⟨v, hv, hb⟩ := List.mem_filterMap.1 h
   have : v = s := by simpa using hv
   rw [← this]; exact hb
  ·right
   obtain ⟨v, hv, hb⟩ := List.mem_filterMap.1 h
   obtain ⟨j, hj, rfl⟩ := List.mem_iff_getElem.1 hv
   have hj' : j < vs.size := by simpa using hj
   exact ⟨j, by simpa [Array.getD, hj'] using hb⟩
 ·rintro (h | ⟨j, h⟩)
  ·left; exact List.mem_filterMap.2 ⟨s, by simp, h⟩
  ·right
   by_cases hj : j < vs.size
   ·exact List.mem_filterMap.2 ⟨vs[j], by simp, by simpa [Array.getD, hj] using h⟩
   ·simp [Array.getD, hj, undef, z48] at h
theorem nstV_turn {γ : Gam} {id : Nat} {s : Value} {vs vs' : Array Value} (h : γ id = some (nstV s vs')) : Turn γ id (nstV s vs) :=
 ⟨_, _, rfl, h, rfl, rfl, fun φ => by cases φ <;> simp only [Dv.of, con0]⟩
section
variable {E : Env} {nt : Nat}
theorem LeX.nst {σ : AS} (r ety sz : Nat) {ty m : Nat} (hr : σ.find r = some (.row ty 1 (List.replicate m .nils))) : LeX E nt σ (σ.rpAll r isRow (.cont m r) (.nest ty (List.replicate m (.row ety sz [])))) := by
 refine LeX.rpAll r isRow (.cont m r) _ _ hr (fun ty cs h => by cases h) (fun cx γ a w d hst hd he => ?_)
 obtain ⟨s, us, hde, hs1, hown, hlen, hre, hone⟩ := he
 subst hde
 obtain ⟨ob1, ob2⟩ := zre hown
 rw [List.length_replicate] at hown
 have hul : us.length = m := by have := hown.1; omega
 have hnil : ∀ k, k < m → us.getD k undef = .slice none 0 0 := fun k hk => by
  have := hre k (by simpa using hk) 0 (by simp [AV.cells])
  simp only [List.getElem_replicate, AV.cells, List.getElem_cons_zero, Nat.mul_one, Nat.add_zero] at this
  exact this.nils_inv
 have hgd : ∀ k, us.toArray.getD k undef = us.getD k undef := fun k => by simp [Array.getD_eq_getD_getElem?, List.getD_eq_getElem?_getD]
 have hnb : ∀ k b, z48 (us.toArray.getD k undef) ≠ some b := fun k b hb => by
  rw [hgd] at hb
  by_cases hk : k < m
  ·rw [hnil k hk] at hb; simp [z48] at hb
  ·rw [List.getD_eq_getElem?_getD, List.getElem?_eq_none (by omega)] at hb
   simp [undef, z48] at hb
 refine ⟨nstV s us.toArray, fun b hb => ?_, fun S' hS hS2 => ⟨⟨s, us.toArray, rfl, hs1, by simp [hul], ⟨us, by rw [List.length_replicate]; exact hown, hone, fun k hk _ => (hgd k).symm⟩, fun k hk => ?_, fun i j b hi => absurd hi (hnb i b), fun i b _ => hnb i b⟩, fun γ' x v hγ' hsrc hx hv => ?_⟩⟩
 ·rcases mem_nstV.1 hb with h | ⟨j, h⟩
  ·exact (za4 ob1 ob2).2 h
  ·exact absurd h (hnb j b)
 ·have hk' : k < m := by simpa using hk
  rw [List.getElem_replicate, hgd, hnil k hk']
  exact ⟨rfl, [], World.ownsRow_nil _ _ _ _, fun k hk => absurd hk (by simp), fun k hk => absurd hk (by simp), fun u hu => by cases hu⟩
 ·have hx' : x = .row r := by
   cases x with
   | row i => simp only [AV.leafId, Option.some.injEq] at hx; rw [hx]
   | _ => simp [isRow] at hsrc
  subst hx'
  have hvs : v = s := hv.row_inv hd (zll hs1)
  subst hvs
  refine .cont hγ' (fun g s' e => ?_) ?_
  ·injection e with e
   injection e with _ e
   subst e
   simp only [Dv.of, con0]
  ·rcases hown.2 with ⟨hv0, h0⟩ | ⟨g, cap, cur, hv0, _⟩
   ·exact ⟨none, 0, by rw [hv0, h0], fun h => by omega⟩
   ·exact ⟨_, cap, hv0, fun _ => ⟨g, 0, rfl⟩⟩
end
section
variable {cx : Cx} {o : Oper} {σ : AS}
theorem r_indexAddr_cont {T id n e eb m : Nat} {x y : Operand} {i : TyI} {k : IntKind} (ho : o.op = .indexAddr T x y) (hd : dok cx o = true) (hxo : z0o x = true) (hyo : z0o y = true) (hx : σ.eval x = .cont n id) (hy : σ.eval y = .int k (m : Int)) (hT : lkT cx.E.tab T = some i) (hs : i.shape = .slc e 1 eb) (hm : m < n) : z0u cx o σ (.der (.nelt m) id) [] [] :=
 z0z hd fun τ γ a w h1 h2 hst => by
  have hev := hst.ev x hxo
  rw [h1 x (by simp [ho, Op.operands]), hx] at hev
  have hevy := hst.ev y hyo
  rw [h1 y (by simp [ho, Op.operands]), hy] at hevy
  obtain ⟨hu, hce, _⟩ := z9z (cx.E.ok T i hT) hs
  cases hev with
  | cont h hv hl =>
    obtain ⟨A, c, hq, hA⟩ := hl
    obtain ⟨b, off, rfl⟩ := hA (by omega)
    refine ⟨.pointer (some ⟨b, off + m, none⟩), ?_, .der h (fun g s e => ?_)⟩
    ·simp [execOp, ho, hq, hevy.int_inv, Instr.indexAt, asIntOf, run_underlying hu, z3w hce (by omega : (1 : Nat) ≠ 0), hm, pure, Addr.add_lit]
    ·have := hv g s e
     rw [hq] at this
     cases s with
     | tuple vs =>
       simp only [Dv.of] at this ⊢
       rw [← this]
     | _ => simp [Dv.of, undef] at this
theorem nst_step {γ γ' : Gam} {τ : AS} {a : Act} {w w' : World} {dst : Option Nat} {id q ty : Nat} {s : Value} {vs vs' : Array Value} {qs : List NE} {e : Ent} {av : AV} {v : Value} (hst : StG cx γ τ a w) (hd : ∀ x, dst = some x → cx.E.np ≤ x ∧ x < cx.nt) (hne : id ≠ q) (hid : γ id = some (nstV s vs)) (hid' : γ' id = some (nstV s vs')) (hoth : ∀ i, i ≠ id → i ≠ q → γ' i = γ i)
  (hq : ∀ x, γ q = some x → γ' q = some none) (hown : ∀ b, own γ' b ↔ own γ b) (hinj : ∀ b d, γ' q = some d → b ∈ blks d → b ∉ blks (nstV s vs') ∧ (∀ i d', i ≠ id → i ≠ q → γ i = some d' → b ∉ blks d')) (hsub : ∀ i d' b, i ≠ id → i ≠ q → γ i = some d' → b ∈ blks d' → b ∉ blks (nstV s vs'))
  (hz' : w.heap.size ≤ w'.heap.size) (hwo : ∀ k, z48 s ≠ some k → w'.heap[k]? = w.heap[k]?) (hbel : Below cx.w0.heap.size w w') (hdr : w.drawn ≤ w'.drawn)
  (hn : (∀ b, Sg cx.S0 cx.w0.heap.size γ b → b < w.heap.size → w'.heap[b]? = w.heap[b]? ∧ Sg cx.S0 cx.w0.heap.size γ' b) → z5y w' (Sg cx.S0 cx.w0.heap.size γ') γ' cx.w0.heap.size (nstV s vs') (.nest ty qs))
  (he : (∀ b, Sg cx.S0 cx.w0.heap.size γ b → b < w.heap.size → w'.heap[b]? = w.heap[b]? ∧ Sg cx.S0 cx.w0.heap.size γ' b) → ∃ x, γ' q = some x ∧ z5y w' (Sg cx.S0 cx.w0.heap.size γ') γ' cx.w0.heap.size x e)
  (hv : Rep w' (Sg cx.S0 cx.w0.heap.size γ') γ' av v) : St cx (τ.upd dst av [(id, .nest ty qs), (q, e)]) (a.put dst v) w' := by
 have hsown : ∀ b, z48 s = some b → own γ b := fun b hb => ⟨id, _, hid, mem_nstV.2 (Or.inl hb)⟩
 have hns : ∀ b, Sg cx.S0 cx.w0.heap.size γ b → z48 s ≠ some b := fun b hS e => by
  have ho := hsown b e
  rcases hS with ⟨_, h⟩ | ⟨_, h⟩
  ·have := (hst.ge b ho).1.1; omega
  ·exact h ho
 have hSS : ∀ b, Sg cx.S0 cx.w0.heap.size γ b → Sg cx.S0 cx.w0.heap.size γ' b := fun b hb => hb.elim Or.inl (fun ⟨h1, h2⟩ => Or.inr ⟨h1, fun ho => h2 ((hown b).1 ho)⟩)
 have hk : ∀ b, Sg cx.S0 cx.w0.heap.size γ b → b < w.heap.size → w'.heap[b]? = w.heap[b]? ∧ Sg cx.S0 cx.w0.heap.size γ' b := fun b hS _ => ⟨hwo b (hns b hS), hSS b hS⟩
 refine ⟨γ', hst.step hd hz' hk (fun i x hx => ?_) (fun i hi => ?_) (fun i e0 hi => ?_) (fun i i' b d d' hi hi' m m' => ?_) (fun b hb => ?_) (hst.below.trans hbel) hv (fun b hno _ => ⟨hwo b (fun e => hno (hsown b e)), fun ho => hno ((hown b).1 ho)⟩) (fun _ => hdr)⟩
 ·by_cases h1 : i = id
  ·subst h1; rw [hid] at hx; injection hx with hx; subst hx; exact Or.inr (Or.inr (nstV_turn hid'))
  ·by_cases h2 : i = q
   ·subst h2; exact Or.inr (Or.inl (hq x hx))
   ·exact Or.inl ((hoth i h1 h2).trans hx)
 ·rw [zpz hne] at hi
  by_cases h1 : i = id
  ·rw [if_pos h1] at hi; cases hi
  ·rw [if_neg h1] at hi
   by_cases h2 : i = q
   ·rw [if_pos h2] at hi; cases hi
   ·exact ⟨hoth i h1 h2, fun b d hi hm => hwo b (fun e => h1 (hst.inj _ _ _ _ _ hi hid hm (mem_nstV.2 (Or.inl e))))⟩
 ·rw [zpz hne] at hi
  by_cases h1 : i = id
  ·subst h1
   rw [if_pos rfl] at hi
   injection hi with hi
   subst hi
   exact ⟨_, hid', hn hk⟩
  ·rw [if_neg h1] at hi
   by_cases h2 : i = q
   ·subst h2
    rw [if_pos rfl] at hi
    injection hi with hi
    subst hi
    exact he hk
   ·rw [if_neg h2] at hi; cases hi
 ·have sym : ∀ i i' d d', γ' i = some d → γ' i' = some d' → b ∈ blks d → b ∈ blks d' → i = id → i = i' := fun i i' d d' hi hi' m m' h1 => by
   subst h1
   rw [hid'] at hi
   injection hi with hi
   subst hi
   by_cases h2 : i' = i
   ·exact h2.symm
   ·by_cases h3 : i' = q
    ·subst h3; exact absurd m (hinj b d' hi' m').1
    ·rw [hoth i' h2 h3] at hi'
     exact absurd m (hsub i' d' b h2 h3 hi' m')
  by_cases h1 : i = id
  ·exact sym i i' d d' hi hi' m m' h1
  ·by_cases h2 : i' = id
   ·exact (sym i' i d' d hi' hi m' m h2).symm
   ·by_cases h3 : i = q
    ·by_cases h4 : i' = q
     ·rw [h3, h4]
     ·subst h3
      rw [hoth i' h2 h4] at hi'
      exact absurd m' ((hinj b d hi m).2 i' d' h2 h4 hi')
    ·by_cases h4 : i' = q
     ·subst h4
      rw [hoth i h1 h3] at hi
      exact absurd m ((hinj b d' hi' m').2 i d h1 h3 hi)
     ·rw [hoth i h1 h3] at hi
      rw [hoth i' h2 h4] at hi'
      exact hst.inj _ _ _ _ _ hi hi' m m'
 ·have := hst.ge b ((hown b).1 hb)
  exact ⟨this.1, Nat.lt_of_lt_of_le this.2 hz'⟩
theorem nest_val {γ : Gam} {τ : AS} {a : Act} {w : World} {id ty : Nat} {es : List NE} (hst : StG cx γ τ a w) (hl : τ.find id = some (.nest ty es)) :
  ∃ s vs us, γ id = some (nstV s vs) ∧ s.oneCell' = true ∧ vs.size = es.length ∧ w.ownsRow cx.w0.heap.size ty 1 s es.length us ∧ (∀ u ∈ us, u.oneCell' = true) ∧ (∀ k (hk : k < es.length), es[k] ≠ .hole → us.getD k undef = vs.getD k undef) ∧ (∀ k (hk : k < es.length), NRep w (Sg cx.S0 cx.w0.heap.size γ) cx.w0.heap.size (vs.getD k undef) es[k]) ∧ DisB (z48 s) vs := by
 have hme := hst.me id
 rw [hl] at hme
 obtain ⟨d, hd', s, vs, hde, h1, h2, ⟨us, h3, h4, h5⟩, h6, h7⟩ := hme
 subst hde
 exact ⟨s, vs, us, hd', h1, h2, h3, h4, h5, h6, h7⟩
theorem r_load_nest {T id d k ty ety sz : Nat} {x : Operand} {i : TyI} {es : List NE} {xs : List AV} (ho : o.op = .load T x) (hdst : o.dst = some d) (hd : dok cx o = true) (hxo : z0o x = true) (hx : σ.eval x = .der (.nelt k) id) (hT : lkT cx.E.tab T = some i) (ha : i.shape.agg = false) (hl : σ.find id = some (.nest ty es)) (he : es[k]? = some (.row ety sz xs)) (hn : σ.find d = none) (hne : id ≠ d) :
  z0u cx o σ (.row d) [id, d] [(id, .nest ty (es.set k .hole)), (d, .row ety sz xs)] := by
 refine ⟨fun i e he => lkE_two he, fun τ h1 h2 a w Q K ⟨γ, hst⟩ hK => zgb (fun c hc => by rw [ho] at hc; cases hc) ?_⟩
 have ex := hst.ev x hxo
 rw [h1 x (by simp [ho, Op.operands]), hx] at ex
 obtain ⟨s, vs, us, hg, hs1, hsz, hown, hone, hus, hnn, hdb⟩ := nest_val hst (by rw [h2 id (by simp)]; exact hl)
 obtain ⟨hk, hke⟩ := List.getElem?_eq_some_iff.1 he
 have hγd : γ d = none := by have := hst.me d; rw [h2 d (by simp), hn] at this; exact this
 have hnk := hnn k hk
 rw [hke] at hnk
 obtain ⟨us1, hou⟩ := nrep_row hnk
 obtain ⟨ob1, ob2⟩ := zre hou
 have hex : (execOp a.eval o).run cx.P w = .ok (.value (vs.getD k undef)) w := by
  have hown0 := hown
  rcases hown.2 with ⟨_, h0⟩ | ⟨g, cap, cur, hsv, _, hh, _⟩
  ·omega
  ·subst hsv
   have hv : a.eval x = .pointer (some ⟨g, 0 + k, none⟩) := by rw [ex.der_inv hg]; simp only [Dv.of, con0]
   have hc := zlj hown0 rfl k (by omega)
   have hrun := zb2 (cx.E.ok T i hT) ha w ⟨g, 0 + k, none⟩ (us.getD k undef) (by rw [Nat.zero_add]; exact hc)
   rw [hus k hk (by rw [hke]; simp)] at hrun
   simp only [execOp, ho, hv, Instr.loadAt, Instr.sureAddr, Sem.run_bind, Sem.run_pure, Result.andThen_ok, hrun]
 unfold Oper.wp
 rw [hex]
 have hkv : k < vs.size := by omega
 have hgt : ∀ i, (vs.setIfInBounds k .nilFunc).getD i undef = if i = k then .nilFunc else vs.getD i undef := fun i => zsf _ _ _ _ hkv
 have hb1 : ∀ i b, z48 ((vs.setIfInBounds k .nilFunc).getD i undef) = some b → i ≠ k ∧ z48 (vs.getD i undef) = some b := fun i b h => by
  rw [hgt] at h
  by_cases h' : i = k
  ·rw [if_pos h'] at h; simp [z48] at h
  ·rw [if_neg h'] at h; exact ⟨h', h⟩
 let γ' : Gam := fun i => if i = id then some (nstV s (vs.setIfInBounds k .nilFunc)) else if i = d then some (some ((vs.getD k undef).ownBlock, vs.getD k undef)) else γ i
 have g1 : γ' id = some (nstV s (vs.setIfInBounds k .nilFunc)) := if_pos rfl
 have g2 : γ' d = some (some ((vs.getD k undef).ownBlock, vs.getD k undef)) := by show (if d = id then _ else if d = d then _ else _) = _; rw [if_neg (Ne.symm hne), if_pos rfl]
 have g3 : ∀ i, i ≠ id → i ≠ d → γ' i = γ i := fun i h1 h2 => by show (if i = id then _ else if i = d then _ else _) = _; rw [if_neg h1, if_neg h2]
 have bl : ∀ i d' b, i ≠ id → γ i = some d' → b ∈ blks d' → z48 s ≠ some b ∧ ∀ j, z48 (vs.getD j undef) ≠ some b := fun i d' b hi hγi hb =>
  ⟨fun e => hi (hst.inj _ _ _ _ _ hγi hg hb (mem_nstV.2 (Or.inl e))), fun j hj => hi (hst.inj _ _ _ _ _ hγi hg hb (mem_nstV.2 (Or.inr ⟨j, hj⟩)))⟩
 refine hK _ _ (nst_step (γ' := γ') (q := d) (w' := w) hst (z4w hd) hne hg g1 g3 (fun x hx => by rw [hγd] at hx; cases hx) (fun b => ⟨fun ⟨i, x, hi, hb⟩ => ?_, fun ⟨i, x, hi, hb⟩ => ?_⟩) (fun b x hx hb => ?_) (fun i d' b h1 h2 hi hb hc => ?_) (Nat.le_refl _) (fun _ _ => rfl) (Below.refl _ _) (Nat.le_refl _) (fun hk' => ?_) (fun hk' => ?_) (.row g2 (fun g s e _ => by injection e with e; injection e with _ e)))
 ·by_cases h1 : i = id
  ·subst h1
   rw [g1] at hi; injection hi with hi; subst hi
   rcases mem_nstV.1 hb with hb | ⟨j, hb⟩
   ·exact ⟨_, _, hg, mem_nstV.2 (Or.inl hb)⟩
   ·exact ⟨_, _, hg, mem_nstV.2 (Or.inr ⟨j, (hb1 j b hb).2⟩)⟩
  ·by_cases h2 : i = d
   ·subst h2
    rw [g2] at hi; injection hi with hi; subst hi
    exact ⟨_, _, hg, mem_nstV.2 (Or.inr ⟨k, (za4 ob1 ob2).1 hb⟩)⟩
   ·rw [g3 i h1 h2] at hi; exact ⟨i, x, hi, hb⟩
 ·by_cases h1 : i = id
  ·subst h1
   rw [hg] at hi; injection hi with hi; subst hi
   rcases mem_nstV.1 hb with hb | ⟨j, hb⟩
   ·exact ⟨_, _, g1, mem_nstV.2 (Or.inl hb)⟩
   ·by_cases hjk : j = k
    ·subst hjk; exact ⟨_, _, g2, (za4 ob1 ob2).2 hb⟩
    ·exact ⟨_, _, g1, mem_nstV.2 (Or.inr ⟨j, by rw [hgt, if_neg hjk]; exact hb⟩)⟩
  ·by_cases h2 : i = d
   ·subst h2; rw [hγd] at hi; cases hi
   ·exact ⟨i, x, (g3 i h1 h2).trans hi, hb⟩
 ·rw [g2] at hx; injection hx with hx; subst hx
  have hbs := (za4 ob1 ob2).1 hb
  refine ⟨fun h => ?_, fun i d' h1 h2 hi hm => (bl i d' b h1 hi hm).2 k hbs⟩
  rcases mem_nstV.1 h with h | ⟨i, h⟩
  ·exact hdb.2 k b h hbs
  ·exact (hb1 i b h).1 (hdb.1 _ _ _ (hb1 i b h).2 hbs)
 ·obtain ⟨q1, q2⟩ := bl i d' b h1 hi hb
  rcases mem_nstV.1 hc with h | ⟨j, h⟩
  ·exact q1 h
  ·exact q2 j (hb1 j b h).2
 ·refine ⟨s, vs.setIfInBounds k .nilFunc, rfl, hs1, by simp [hsz], ⟨us, by rw [List.length_set]; exact hown, hone, fun j hj hh => ?_⟩, fun j hj => ?_, fun i j b hi hj => hdb.1 i j b (hb1 i b hi).2 (hb1 j b hj).2, fun i b hb hi => hdb.2 i b hb (hb1 i b hi).2⟩
  ·have hj' : j < es.length := by simpa using hj
   simp only [List.getElem_set] at hh
   rw [hgt]
   by_cases hjk : k = j
   ·rw [if_pos hjk] at hh; exact absurd rfl hh
   ·rw [if_neg hjk] at hh
    rw [if_neg (fun e => hjk e.symm)]
    exact hus j hj' hh
  ·have hj' : j < es.length := by simpa using hj
   simp only [List.getElem_set]
   rw [hgt]
   by_cases hjk : k = j
   ·rw [if_pos hjk, if_pos hjk.symm]; rfl
   ·rw [if_neg hjk, if_neg (fun e => hjk e.symm)]
    exact (hnn j hj').moved (Nat.le_refl _) hk' (fun _ _ => rfl)
 ·obtain ⟨q1, us', q2, q3, q4, q5⟩ := hnk
  exact ⟨_, g2, vs.getD k undef, us', rfl, q1, q2, q3, fun k hk j hj => (q4 k hk j hj).mono (Nat.le_refl _) hk', q5⟩
theorem r_store_nest {T id q k ty ety sz : Nat} {x y : Operand} {i : TyI} {es : List NE} {xs : List AV} (ho : o.op = .store T x y) (hd : dok cx o = true) (hxo : z0o x = true) (hyo : z0o y = true) (hx : σ.eval x = .der (.nelt k) id) (hy : σ.eval y = .row q) (hT : lkT cx.E.tab T = some i) (hi1 : i.sz = 1) (hl : σ.find id = some (.nest ty es)) (hq : σ.find q = some (.row ety sz xs)) (he : es[k]? = some .hole) (hne : id ≠ q) :
  z0u cx o σ (.tup []) [id, q] [(id, .nest ty (es.set k (.row ety sz xs))), (q, .dead)] := by
 refine ⟨fun i e he => lkE_two he, fun τ h1 h2 a w Q K ⟨γ, hst⟩ hK => zgb (fun c hc => by rw [ho] at hc; cases hc) ?_⟩
 have ex := hst.ev x hxo
 rw [h1 x (by simp [ho, Op.operands]), hx] at ex
 have ey := hst.ev y hyo
 rw [h1 y (by simp [ho, Op.operands]), hy] at ey
 obtain ⟨s, vs, us, hg, hs1, hsz, hown, hone, hus, hnn, hdb⟩ := nest_val hst (by rw [h2 id (by simp)]; exact hl)
 obtain ⟨s1, us1, hγq, hone1, hown1, hlen1, hr1, hon1⟩ := zrc (id := q) hst (by rw [h2 q (by simp)]; exact hq)
 obtain ⟨ob1, ob2⟩ := zre hown1
 obtain ⟨hk, hke⟩ := List.getElem?_eq_some_iff.1 he
 have hkv : k < vs.size := by omega
 have hc1 : s1.cells = #[s1] := by rcases hown1.2 with ⟨e, _⟩ | ⟨_, _, _, e, _⟩ <;> (rw [e]; rfl)
 have hul : us.length = es.length * 1 := hown.1
 obtain ⟨g, cap, cur, hsv, hbase, hh, hncap, hmx, hcs, htk⟩ : ∃ g cap cur, s = .slice (some ⟨g, 0, none⟩) es.length cap ∧ cx.w0.heap.size ≤ g ∧ w.heap[g]? = some (.cells cur ty (0, 0)) ∧ es.length ≤ cap ∧ cap ≤ maxLen ∧ cur.size = cap * 1 ∧ cur.toList.take (es.length * 1) = us := by
  rcases hown.2 with ⟨_, h0⟩ | h
  ·omega
  ·exact h
 have hbs : z48 s = some g := by rw [hsv]; rfl
 have hv : a.eval x = .pointer (some ⟨g, 0 + k, none⟩) := by rw [ex.der_inv hg, hsv]; simp only [Dv.of, con0]
 have hev : a.eval y = s1 := ey.row_inv hγq (zll hone1)
 have hrun := zo1 (cx.E.ok T i hT) w g (0 + k) ty cur s1 hh (by rw [hc1, hi1]; rfl) (by omega) (fun u hu => by rw [hc1] at hu; simp at hu; rw [hu]; exact hone1)
 rw [hc1, hi1, Nat.zero_add] at hrun
 generalize hcur' : (cur.toList.take k ++ (#[s1] : Array Value).toList ++ cur.toList.drop (k + 1)).toArray = cur' at hrun
 have hex : (execOp a.eval o).run cx.P w = .ok .skip (w.setRow g cur') := by
  rw [Nat.zero_add] at hv
  simp only [execOp, ho, hv, hev, Instr.storeAt, Instr.sureAddr, Sem.run_bind, Sem.run_pure, Result.andThen_ok, hrun]
 unfold Oper.wp
 rw [hex]
 have hblk := setRow_heap w g cur cur' ty (0, 0) hh
 have hothw : ∀ q, q ≠ g → (w.setRow g cur').heap[q]? = w.heap[q]? := fun q hq => setRow_other w g q _ hq
 have hzz : w.heap.size ≤ (w.setRow g cur').heap.size := by simp
 have hdr : w.drawn ≤ (w.setRow g cur').drawn := Nat.le_refl _
 have hgo : own γ g := ⟨id, _, hg, mem_nstV.2 (Or.inl hbs)⟩
 have hbel : Below cx.w0.heap.size w (w.setRow g cur') := ⟨rfl, rfl, rfl, hzz, fun k hk => hothw k (by have := (hst.ge g hgo).1.1; omega)⟩
 generalize w.setRow g cur' = w' at *
 have hgt : ∀ i, (vs.setIfInBounds k s1).getD i undef = if i = k then s1 else vs.getD i undef := fun i => zsf _ _ _ _ hkv
 have bl : ∀ i d' b, i ≠ id → γ i = some d' → b ∈ blks d' → z48 s ≠ some b ∧ ∀ j, z48 (vs.getD j undef) ≠ some b := fun i d' b hi hγi hb =>
  ⟨fun e => hi (hst.inj _ _ _ _ _ hγi hg hb (mem_nstV.2 (Or.inl e))), fun j hj => hi (hst.inj _ _ _ _ _ hγi hg hb (mem_nstV.2 (Or.inr ⟨j, hj⟩)))⟩
 have hsb : ∀ b, z48 s1 = some b → z48 s ≠ some b ∧ ∀ j, z48 (vs.getD j undef) ≠ some b := fun b hb => bl q _ b (Ne.symm hne) hγq ((za4 ob1 ob2).2 hb)
 have hpo : ∀ b, z48 (vs.getD k undef) ≠ some b := fun b hb => by
  have := hnn k hk
  rw [hke] at this
  have this : vs.getD k undef = .nilFunc := this
  rw [this] at hb
  simp [z48] at hb
 let γ' : Gam := fun i => if i = id then some (nstV s (vs.setIfInBounds k s1)) else if i = q then some none else γ i
 have g1 : γ' id = some (nstV s (vs.setIfInBounds k s1)) := if_pos rfl
 have g2 : γ' q = some none := by show (if q = id then _ else if q = q then _ else _) = _; rw [if_neg (Ne.symm hne), if_pos rfl]
 have g3 : ∀ i, i ≠ id → i ≠ q → γ' i = γ i := fun i h1 h2 => by show (if i = id then _ else if i = q then _ else _) = _; rw [if_neg h1, if_neg h2]
 refine hK _ _ (nst_step (γ' := γ') (q := q) (w' := w') hst (z4w hd) hne hg g1 g3 (fun x hx => g2) (fun b => ⟨fun ⟨i, x, hi, hb⟩ => ?_, fun ⟨i, x, hi, hb⟩ => ?_⟩) (fun b x hx hb => ?_) (fun i d' b h1 h2 hi hb hc => ?_) hzz (fun b hb => hothw b (fun e => hb (by rw [e]; exact hbs))) hbel hdr (fun hk' => ?_) (fun hk' => ⟨_, g2, rfl⟩) (.tup #[] rfl (fun j hj => absurd hj (by simp))))
 ·by_cases h1 : i = id
  ·subst h1
   rw [g1] at hi; injection hi with hi; subst hi
   rcases mem_nstV.1 hb with hb | ⟨j, hb⟩
   ·exact ⟨_, _, hg, mem_nstV.2 (Or.inl hb)⟩
   ·rw [hgt] at hb
    by_cases hjk : j = k
    ·rw [if_pos hjk] at hb; exact ⟨_, _, hγq, (za4 ob1 ob2).2 hb⟩
    ·rw [if_neg hjk] at hb; exact ⟨_, _, hg, mem_nstV.2 (Or.inr ⟨j, hb⟩)⟩
  ·by_cases h2 : i = q
   ·subst h2; rw [g2] at hi; injection hi with hi; subst hi; cases hb
   ·rw [g3 i h1 h2] at hi; exact ⟨i, x, hi, hb⟩
 ·by_cases h1 : i = id
  ·subst h1
   rw [hg] at hi; injection hi with hi; subst hi
   rcases mem_nstV.1 hb with hb | ⟨j, hb⟩
   ·exact ⟨_, _, g1, mem_nstV.2 (Or.inl hb)⟩
   ·exact ⟨_, _, g1, mem_nstV.2 (Or.inr ⟨j, by rw [hgt, if_neg (fun e => by subst e; exact hpo b hb)]; exact hb⟩)⟩
  ·by_cases h2 : i = q
   ·subst h2
    rw [hγq] at hi; injection hi with hi; subst hi
    exact ⟨_, _, g1, mem_nstV.2 (Or.inr ⟨k, by rw [hgt, if_pos rfl]; exact (za4 ob1 ob2).1 hb⟩)⟩
   ·exact ⟨i, x, (g3 i h1 h2).trans hi, hb⟩
 ·rw [g2] at hx; injection hx with hx; subst hx; cases hb
 ·obtain ⟨q1, q2⟩ := bl i d' b h1 hi hb
  rcases mem_nstV.1 hc with h | ⟨j, h⟩
  ·exact q1 h
  ·rw [hgt] at h
   by_cases hjk : j = k
   ·rw [if_pos hjk] at h
    exact h2 (hst.inj _ _ _ _ _ hi hγq hb ((za4 ob1 ob2).2 h))
   ·rw [if_neg hjk] at h; exact q2 j h
 ·have hus' : cur'.toList.take (es.length * 1) = us.set k s1 := by
   rw [← hcur', ← htk, List.set_eq_take_append_cons_drop, if_pos (by simp; omega)]
   have := spl_take cur.toList [s1] k (es.length * 1) (by simp; omega) (by simp; omega)
   simpa using this
  refine ⟨s, vs.setIfInBounds k s1, rfl, hs1, by simp [hsz], ⟨us.set k s1, ⟨by simp [hul], Or.inr ⟨g, cap, cur', by rw [List.length_set]; exact hsv, hbase, hblk, by simpa using hncap, hmx, ?_, by simpa using hus'⟩⟩, fun u hu => ?_, fun j hj hh => ?_⟩, fun j hj => ?_, fun i j b hi hj => ?_, fun i b hb hi => ?_⟩
  ·rw [← hcur']
   have := spl_length cur.toList [s1] k (by simp; omega)
   simpa [hcs] using this
  ·rcases List.mem_or_eq_of_mem_set hu with hu | hu
   ·exact hone u hu
   ·rw [hu]; exact hone1
  ·have hj' : j < es.length := by simpa using hj
   rw [hgt]
   by_cases hjk : j = k
   ·subst hjk
    rw [if_pos rfl, List.getD_eq_getElem?_getD, List.getElem?_set_self (by omega)]
    rfl
   ·rw [if_neg hjk, List.getD_eq_getElem?_getD, List.getElem?_set_ne (fun e => hjk e.symm), ← List.getD_eq_getElem?_getD]
    simp only [List.getElem_set] at hh
    rw [if_neg (fun e => hjk e.symm)] at hh
    exact hus j hj' hh
  ·have hj' : j < es.length := by simpa using hj
   simp only [List.getElem_set]
   rw [hgt]
   by_cases hjk : j = k
   ·rw [if_pos hjk.symm, if_pos hjk]
    exact ⟨hone1, us1, hown1.moved (fun b hb => hothw b (fun e => (hsb b hb).1 (by rw [hbs, e]))), hlen1, fun k hk j hj => (hr1 k hk j hj).mono hzz hk', hon1⟩
   ·rw [if_neg hjk, if_neg (fun e => hjk e.symm)]
    exact (hnn j hj').moved hzz hk' (fun b hb => hothw b (fun e => hdb.2 j b (by rw [hbs, e]) hb))
  ·rw [hgt] at hi hj
   by_cases h1 : i = k
   ·by_cases h2 : j = k
    ·rw [h1, h2]
    ·rw [if_pos h1] at hi; rw [if_neg h2] at hj; exact absurd hj ((hsb b hi).2 j)
   ·by_cases h2 : j = k
    ·rw [if_neg h1] at hi; rw [if_pos h2] at hj; exact absurd hi ((hsb b hj).2 i)
    ·rw [if_neg h1] at hi; rw [if_neg h2] at hj; exact hdb.1 i j b hi hj
  ·rw [hgt] at hi
   by_cases h1 : i = k
   ·rw [if_pos h1] at hi; exact (hsb b hi).1 hb
   ·rw [if_neg h1] at hi; exact hdb.2 i b hb hi
end
end Go.Proofs.YtjpknpjjcddnnaaGreat
namespace Go.Proofs.YtjpknpjjcddnnaaGreat
open Go.RowKit
section
variable {α β : Type}
def mkn (n : Int) (bytes : Nat) (k : Nat → Option β) : Option β := if 0 ≤ n ∧ n.toNat ≤ 1099511627776 ∧ bytes * n.toNat ≤ 281474976710656 then k n.toNat else none
theorem MakX.on {n : Int} {bytes : Nat} {K : List AV → Prop} {k : Nat → Option β} {r : β} (h : mkn n bytes k = some r) (hk : ∀ m, k m = some r → K (List.replicate m .nils)) : MakX n bytes .nils K := by
 unfold mkn at h
 split at h
 ·rename_i hn; exact .mk n.toNat (by omega) hn.2.1 hn.2.2 _ (.refl _) (hk _ h)
 ·cases h
def nst (r : Nat) (x : Option β) : Option β := x
def frr (r : Nat) (x : Option β) : Option β := x
def enR (er : α → AV) (ety sz : Nat) (q : List α) : NE := .row ety sz (q.map er)
def ncx (n : Int) (len : Nat) (c : Option β) : Option β := if 0 ≤ n ∧ n.toNat < len then c else none
def ntk (l : List (List α)) (k : Nat) (c : List α → Option β) : Option β := match l[k]? with | some q => c q | none => none
def npt (l : List (List α)) (k : Nat) (v : List α) (c : List (List α) → Option β) : Option β := if k < l.length then c (l.set k v) else none
end
section
variable {α β : Type} {E : Env} {nt : Nat} {o : Oper} {σ : AS} {K : OpK}
theorem OpX.ixc {n : Int} {len : Nat} {c : Option β} {r : β} {T id e eb : Nat} {x y : Operand} {i : TyI} {kd : IntKind} (hF : ncx n len c = some r) (ho : o.op = .indexAddr T x y) (hd : dokN E nt o.dst = true) (hxo : z0o x = true) (hyo : z0o y = true) (hx : σ.eval x = .cont len id) (hy : σ.eval y = .int kd n) (hT : lkT E.tab T = some i) (hs : i.shape = .slc e 1 eb)
  (hk : c = some r → K (.der (.nelt n.toNat) id) [] []) : OpX E nt o σ K := by
 unfold ncx at hF
 split at hF
 ·rename_i hn
  exact .mk _ _ _ (fun cx hE hnt => r_indexAddr_cont ho (z0y hd hE hnt) hxo hyo hx (by rw [hy]; congr 1; omega) (by rw [hE]; exact hT) hs hn.2) (hk hF)
 ·cases hF
theorem OpX.ntk (er : α → AV) {l : List (List α)} {k : Nat} {c : List α → Option β} {r : β} {T id d ty ety sz : Nat} {x : Operand} {i : TyI} (hF : Proofs.YtjpknpjjcddnnaaGreat.ntk l k c = some r) (ho : o.op = .load T x) (hdst : o.dst = some d) (hd : dokN E nt o.dst = true) (hxo : z0o x = true) (hx : σ.eval x = .der (.nelt k) id) (hT : lkT E.tab T = some i) (ha : i.shape.agg = false)
  (hl : σ.find id = some (.nest ty (l.map (enR er ety sz)))) (hn : σ.find d = none) (hne : Nat.beq id d = false) (hk : ∀ q, c q = some r → K (.row d) [id, d] [(id, .nest ty ((l.map (enR er ety sz)).set k .hole)), (d, .row ety sz (q.map er))]) : OpX E nt o σ K := by
 unfold Proofs.YtjpknpjjcddnnaaGreat.ntk at hF
 split at hF
 ·rename_i q hq
  exact .mk _ _ _ (fun cx hE hnt => r_load_nest ho hdst (z0y hd hE hnt) hxo hx (by rw [hE]; exact hT) ha hl (by rw [List.getElem?_map, hq]; rfl) hn (nbne hne)) (hk _ hF)
 ·cases hF
theorem OpX.npt (er : α → AV) {l : List (List α)} {k : Nat} {v : List α} {c : List (List α) → Option β} {r : β} {T id q ty ety sz : Nat} {x y : Operand} {i : TyI} (hF : Proofs.YtjpknpjjcddnnaaGreat.npt l k v c = some r) (ho : o.op = .store T x y) (hd : dokN E nt o.dst = true) (hxo : z0o x = true) (hyo : z0o y = true) (hx : σ.eval x = .der (.nelt k) id) (hy : σ.eval y = .row q) (hT : lkT E.tab T = some i) (hi1 : i.sz = 1)
  (hl : σ.find id = some (.nest ty ((l.map (enR er ety sz)).set k .hole))) (hq : σ.find q = some (.row ety sz (v.map er))) (hne : Nat.beq id q = false) (hk : ∀ l', c l' = some r → K (.tup []) [id, q] [(id, .nest ty (l'.map (enR er ety sz))), (q, .dead)]) : OpX E nt o σ K := by
 unfold Proofs.YtjpknpjjcddnnaaGreat.npt at hF
 split at hF
 ·rename_i hlt
  have h := hk _ hF
  have e : ((l.map (enR er ety sz)).set k .hole).set k (.row ety sz (v.map er)) = (l.set k v).map (enR er ety sz) := by rw [List.set_set, List.map_set]; rfl
  rw [← e] at h
  exact .mk _ _ _ (fun cx hE hnt => r_store_nest ho (z0y hd hE hnt) hxo hyo hx hy (by rw [hE]; exact hT) hi1 hl hq (by rw [List.getElem?_set_self (by simpa using hlt)]) (nbne hne)) h
 ·cases hF
end
section
variable {α β : Type} {E : Env} {nt : Nat}
def isCont : AV → Bool
 | .cont _ _ => true
 | _ => false
theorem LeX.frr {σ : AS} {l : List (List α)} (r : Nat) (er : α → AV) (ty ety sz : Nat) (hr : σ.find r = some (.nest ty (l.map (enR er ety sz)))) : LeX E nt σ (σ.rpAll r isCont (.sl 1 (l.map fun q => .sl sz (q.map er))) .dead) := by
 refine LeX.rpAll r isCont _ _ _ hr (fun ty cs h => by cases h) (fun cx γ a w d hst hd he => ?_)
 obtain ⟨s, vs, hde, hs1, hsz, ⟨us, hown, hone, hus⟩, hnn, hdb⟩ := he
 have hde : d = nstV s vs := hde
 subst hde
 rw [List.length_map] at hsz hown
 refine ⟨none, (fun b hb => by cases hb), fun S' hS hS2 => ⟨rfl, fun γ' x v hγ' hsrc hx hv => ?_⟩⟩
 have hx' : ∃ n, x = .cont n r := by
  cases x with
  | cont n i => simp only [AV.leafId, Option.some.injEq] at hx; exact ⟨n, by rw [hx]⟩
  | _ => simp [isCont] at hsrc
 obtain ⟨n, rfl⟩ := hx'
 have hvs : v = s := by
  cases hv with
  | cont h hv hl =>
    rw [hd] at h
    injection h with h
    have := hv none (.tuple (#[s] ++ vs)) h.symm
    rw [this]
    simp only [Dv.of, con0]
 subst hvs
 have hel : ∀ k, k < l.length → Rep w S' G0 (.sl sz ((l[k]?.getD []).map er)) (us.getD k undef) := fun k hk => by
  have h3 := hnn k (by simpa using hk)
  have h2 := hus k (by simpa using hk) (by simp [enR])
  simp only [List.getElem_map, enR] at h3
  obtain ⟨q1, us', q2, q3, q4, q5⟩ := h3
  obtain ⟨ob1, ob2⟩ := zre q2
  obtain ⟨s', hs1', hs2'⟩ := row_sl (w := w) (S := Sg cx.S0 cx.w0.heap.size γ) (γ := γ) (S' := S') (d := some ((vs.getD k undef).ownBlock, vs.getD k undef)) ⟨_, us', rfl, q1, q2, q3, q4, q5⟩ (fun b hb _ => hS b hb) (fun s g' e => by
   injection e with e
   injection e with e1 e2
   rw [ob1] at e1
   exact hS2 g' (mem_nstV.2 (Or.inr ⟨k, e1⟩)) (fun hb => by cases hb)) G0
  injection hs1' with hs1'
  injection hs1' with _ hs1'
  rw [h2, hs1', List.getElem?_eq_getElem hk]
  exact hs2'
 obtain ⟨s0, hs0, hr0⟩ := row_sl (w := w) (S := S') (γ := γ) (S' := S') (B := cx.w0.heap.size) (ty := ty) (sz := 1) (xs := l.map fun q => .sl sz (q.map er)) (d := some (v.ownBlock, v)) ⟨v, us, rfl, hs1, by rw [List.length_map]; exact hown, fun k hk => by rw [List.getElem_map]; rfl, fun k hk j hj => by
   have hk' : k < l.length := by simpa using hk
   have hj0 : j = 0 := by
    have : j < 1 := by simpa [AV.cells] using hj
    omega
   subst hj0
   simp only [List.getElem_map, AV.cells, List.getElem_cons_zero, Nat.mul_one, Nat.add_zero]
   have := hel k hk'
   rw [List.getElem?_eq_getElem hk'] at this
   exact this, hone⟩ (fun b hb _ => hb) (fun s g' e => by
   injection e with e
   injection e with e1 e2
   rw [(zre hown).1] at e1
   exact hS2 g' (mem_nstV.2 (Or.inl e1)) (fun hb => by cases hb)) γ'
 injection hs0 with hs0
 injection hs0 with _ hs0
 rw [hs0]
 exact hr0
variable {R : Exit → AS → Prop} {K : List z16}
theorem AW.frrO {id ty ety sz : Nat} {l : List (List α)} {c : Code} {σ : AS} {x : Option β} {y : β} (er : α → AV) (h : Proofs.YtjpknpjjcddnnaaGreat.frr id x = some y) (r : Nat) (hr : σ.find r = some (.nest ty (l.map (enR er ety sz)))) (k : x = some y → AW E nt R (.code c :: K) .normal (σ.rpAll r isCont (.sl 1 (l.map fun q => .sl sz (q.map er))) .dead)) : AW E nt R (.code c :: K) .normal σ := AW.weaken (LeX.frr r er ty ety sz hr) (k h)
theorem AW.nstO {id ty m : Nat} {c : Code} {σ : AS} {x : Option β} {y : β} {er : α → AV} (ety sz : Nat) (h : Proofs.YtjpknpjjcddnnaaGreat.nst id x = some y) (r : Nat) (hr : σ.find r = some (.row ty 1 (List.replicate m .nils))) (k : x = some y → AW E nt R (.code c :: K) .normal (σ.rpAll r isRow (.cont m r) (.nest ty ((List.replicate m ([] : List α)).map (enR er ety sz))))) : AW E nt R (.code c :: K) .normal σ := by
 have e : (List.replicate m ([] : List α)).map (enR er ety sz) = List.replicate m (.row ety sz []) := by rw [List.map_replicate]; rfl
 rw [e] at k
 exact AW.weaken (LeX.nst r ety sz hr) (k h)
end
attribute [irreducible] mkn nst frr ntk npt ncx
end Go.Proofs.YtjpknpjjcddnnaaGreat
namespace Go.Proofs.YtjpknpjjcddnnaaGreat
open Go.RowKit
def startG (args : List AV) (me : List (Nat × Ent)) : AS := ⟨args.zipIdx.map fun p => (p.2, p.1), me⟩
def boxB (np : Nat) (args : List AV) (τ : AS) (me me' : List (Nat × Ent)) (yk : List Nat) : Bool := me.all fun x => match x.2 with
 | .box _ _ => memB x.1 yk || (List.range np).any fun t => (match args[t]? with | some (.ptr k 0) => Nat.beq k x.1 | _ => false) && (match τ.get t, lkE me' x.1 with | .ptr k 0, some (.box _ _) => Nat.beq k x.1 | _, _ => false)
 | _ => true
def YK (np : Nat) (args : List AV) (τ : AS) (me' : List (Nat × Ent)) : List Nat → Prop
 | [] => True
 | k :: r => ((∃ (t t' i l : Nat) (T : Array Value) (caps caps' : List AV) (ty : TypeId) (es : List AV), args[t]? = some (.yld l T caps) ∧ τ.get t' = .yld l T caps' ∧ caps[i]? = some (.ptr k 0) ∧ caps'[i]? = some (.ptr k 0) ∧ lkE me' k = some (.box ty es)) ∨
    ∃ (t i f : Nat) (caps caps' : List AV) (ty : TypeId) (es : List AV), t < np ∧ args[t]? = some (.fn f caps) ∧ τ.get t = .fn f caps' ∧ caps[i]? = some (.ptr k 0) ∧ caps'[i]? = some (.ptr k 0) ∧ lkE me' k = some (.box ty es)) ∧ YK np args τ me' r
theorem YK.at {np : Nat} {args : List AV} {τ : AS} {me' : List (Nat × Ent)} : ∀ {l : List Nat}, YK np args τ me' l → ∀ k ∈ l, (∃ (t t' i l : Nat) (T : Array Value) (caps caps' : List AV) (ty : TypeId) (es : List AV), args[t]? = some (.yld l T caps) ∧ τ.get t' = .yld l T caps' ∧ caps[i]? = some (.ptr k 0) ∧ caps'[i]? = some (.ptr k 0) ∧ lkE me' k = some (.box ty es)) ∨
   ∃ (t i f : Nat) (caps caps' : List AV) (ty : TypeId) (es : List AV), t < np ∧ args[t]? = some (.fn f caps) ∧ τ.get t = .fn f caps' ∧ caps[i]? = some (.ptr k 0) ∧ caps'[i]? = some (.ptr k 0) ∧ lkE me' k = some (.box ty es)
 | [], _, k, hk => by cases hk
 | x :: r, h, k, hk => by
   rcases List.mem_cons.1 hk with rfl | hk
   ·exact h.1
   ·exact h.2.at k hk
inductive GX (E : Env) (nt : Nat) (fn : Func) (args : List AV) (me : List (Nat × Ent)) (σ : AS) (res : AV) (me' : List (Nat × Ent)) : Prop
 | mk (τ : AS) (hl : LeX E nt σ τ) (hme : τ.me = me') (avs : List AV) (h1 : retA E.tab τ fn.results.toList = some avs) (h2 : Sub (packA avs) res) (yk : List Nat) (hyk : YK E.np args τ me' yk) (hb : boxB E.np args τ me me' yk = true)
def EndG (E : Env) (nt : Nat) (fn : Func) (args : List AV) (me : List (Nat × Ent)) (res : AV) (me' : List (Nat × Ent)) : Exit → AS → Prop
 | .normal, σ => GX E nt fn args me σ res me'
 | .ret, σ => GX E nt fn args me σ res me'
 | _, _ => False
theorem ConG.walk {E : Env} {f : FuncId} {fn : Func} {args caps : List AV} {me me' : List (Nat × Ent)} {res : AV} (c : Code) (hf : E.P.funcs[f]? = some fn) (hb : fn.body = some c) (hn : Nat.ble (args ++ caps).length fn.ntmps = true) (hnp : Nat.ble E.np (args ++ caps).length = true) (hrg : E.rg = false) (hdr : E.dr = false)
  (h : AW E fn.ntmps (EndG E fn.ntmps fn (args ++ caps) me res me') [.code c] .normal (startG (args ++ caps) me)) : ConG E.P E.yl (CalF E.P f caps.length) args caps me res me' := by
 intro cx γ w vs cs hP hdr0 hyl hnt0 hnp0 hme hvs hva hca hcs
 have hlen : (vs ++ cs).size = (args ++ caps).length := by simp [hvs, hcs]
 have hn' := Nat.le_of_ble_eq_true hn
 have hnp' := Nat.le_of_ble_eq_true hnp
 refine callsIn_wide.1 (callsIn_of_wp (F := Fence.wide) (n := 0) hf hb trivial ?_)
 let cx' : Cx := ⟨E, cx.S0, cx.w0, fn.ntmps, fun b => b < w.heap.size ∧ ¬ own γ b, w, none, vs ++ cs, fun _ => rfl⟩
 have h0 : WP cx' c (EndG E fn.ntmps fn (args ++ caps) me res me') (startG (args ++ caps) me) := WP.mono (h.out cx' rfl rfl) fun e σ hk => by cases e <;> exact hk
 have hrep : ∀ t (ht : t < (args ++ caps).length), Rep w (Sg cx.S0 cx.w0.heap.size γ) γ (args ++ caps)[t] ((vs ++ cs).getD t undef) := fun t ht => by
  by_cases h1 : t < args.length
  ·rw [List.getElem_append_left h1, Array.getD_eq_getD_getElem?, Array.getElem?_append_left (by omega), ← Array.getD_eq_getD_getElem?]
   exact hva t h1
  ·rw [List.getElem_append_right (by omega), Array.getD_eq_getD_getElem?, Array.getElem?_append_right (by omega), ← Array.getD_eq_getD_getElem?, hvs]
   exact hca _ (by rw [List.length_append] at ht; omega)
 have hget : ∀ t, t < (args ++ caps).length → (vs ++ cs ++ Array.replicate (fn.ntmps - (vs ++ cs).size) undef).getD t undef = (vs ++ cs).getD t undef := fun t ht => by
  rw [Array.getD_eq_getD_getElem?, Array.getD_eq_getD_getElem?, Array.getElem?_append_left (by omega)]
 have hst : StG cx' γ (startG (args ++ caps) me) { tmps := vs ++ cs ++ Array.replicate (fn.ntmps - (vs ++ cs).size) undef, defers := [] } w := by
  refine ⟨fun t => ?_, hme.me, hme.inj, hme.ge, hme.below, ?_, ⟨fun _ => rfl, ⟨[], rfl, .nil, fun r hr => by cases hr⟩, fun t ht => ?_, fun l R hl => hme.defers.yl l R (hyl _ hl), Nat.le_refl _⟩, hme.gh, fun b hb => ⟨hb.2, hb.1, rfl⟩, fun hd => ?_⟩
  ·unfold AS.get startG
   rw [lkV_zip]
   by_cases ht : 0 ≤ t ∧ t < 0 + (args ++ caps).length
   ·rw [dif_pos ht]
    have ht' : t < (args ++ caps).length := by omega
    show Rep w _ γ _ ((vs ++ cs ++ Array.replicate (fn.ntmps - (vs ++ cs).size) undef).getD t undef)
    rw [hget t ht']
    exact hrep t ht'
   ·rw [dif_neg ht]; exact .any _
  ·show (vs ++ cs ++ Array.replicate (fn.ntmps - (vs ++ cs).size) undef).size = fn.ntmps
   rw [Array.size_append, Array.size_replicate]; omega
  ·have ht' : t < E.np := ht
   exact hget t (by omega)
  ·exact absurd (hdr.symm.trans hd) (by simp)
 refine wpIn_mono (h0 _ _ ⟨γ, hst⟩) (fun e a w' ⟨σ, hq, hst0⟩ => ?_)
 have key : GX E fn.ntmps fn (args ++ caps) me σ res me' → bodyPost E.P fn (fun e w' => ∃ u γ', e = .returned u ∧ MeSt cx γ' me' w' ∧ Rep w' (Sg cx.S0 cx.w0.heap.size γ') γ' res u ∧ w.heap.size ≤ w'.heap.size ∧ (∀ i ty es, lkE me i = some (.box ty es) → γ' i = γ i) ∧
   (∀ b, ¬ own γ b → b < w.heap.size → w'.heap[b]? = w.heap[b]? ∧ ¬ own γ' b)) .ret a w' := by
  rintro ⟨τ, hl, hme', avs, h1, h2, yk, hyk, hbx⟩
  obtain ⟨γ', hs⟩ := hl cx' rfl rfl a w' hst0
  obtain ⟨u, hu, hr⟩ := zim hs h1
  have hfr : ∀ b, ¬ own γ b → b < w.heap.size → w'.heap[b]? = w.heap[b]? ∧ ¬ own γ' b := fun b hb hlt => by
   obtain ⟨q1, q2, q3⟩ := hs.fr b ⟨hlt, hb⟩
   exact ⟨q3, q1⟩
  have hsz : w.heap.size ≤ w'.heap.size := hs.defers.sz
  refine ⟨hs.defers.d0 hrg, u, hu, u, γ', rfl, ?_, hr.sub h2, hsz, fun i ty es hi => ?_, hfr⟩
  ·refine ⟨fun t => .any _, fun i => by have := hs.me i; unfold AS.find at this ⊢; rw [← hme']; exact this, hs.inj, hs.ge, hs.below, hnt0.symm, ⟨fun _ => rfl, ⟨[], rfl, .nil, fun r hr => by cases hr⟩, fun t ht => by rw [hnp0] at ht; omega, fun l R hl => ?_, Nat.le_trans hme.defers.sz hsz⟩, hs.gh, fun b hb => ?_, fun hd => absurd (hdr0.symm.trans hd) (by simp)⟩
   ·obtain ⟨q0, q1, q2, q3⟩ := hme.defers.yl l R hl
    obtain ⟨k1, k2⟩ := hfr l q2 q1
    exact ⟨q0, by omega, k2, k1.trans q3⟩
   ·obtain ⟨q1, q2, q3⟩ := hme.fr b hb
    obtain ⟨k1, k2⟩ := hfr b q1 q2
    exact ⟨k2, by omega, k1.trans q3⟩
  ·have hb' := List.all_eq_true.1 hbx (i, .box ty es) (lkE_in hi)
   have hb' := (Bool.or_eq_true _ _).mp hb'
   rcases hb' with hb' | hb'
   ·rcases hyk.at i ((z9d _ _).1 hb') with ⟨t, t', j, l, T, yc, yc', ty', es', e1, e2, e3, e4, e5⟩ | ⟨t, j, f', yc, yc', ty', es', ht0, e1, e2, e3, e4, e5⟩
    ·obtain ⟨hlt, hat⟩ := List.getElem?_eq_some_iff.1 e1
     have r1 := hrep t hlt
     rw [hat] at r1
     have r2 := hs.tm t'
     rw [e2] at r2
     obtain ⟨hj, hja⟩ := List.getElem?_eq_some_iff.1 e3
     obtain ⟨hj', hja'⟩ := List.getElem?_eq_some_iff.1 e4
     have s1 := r1.yld_inv.2 j hj
     have s2 := r2.yld_inv.2 j hj'
     rw [hja] at s1
     rw [hja'] at s2
     have m1 := hme.me i
     unfold AS.find at m1
     rw [hi] at m1
     obtain ⟨x, hx, g, vs1, hd1, _⟩ := m1
     have m2 := hs.me i
     unfold AS.find at m2
     rw [hme', e5] at m2
     obtain ⟨x2, hx2, g2, vs2, hd2, _⟩ := m2
     subst hd1 hd2
     have p1 := s1.ptr_inv hx
     rw [s2.ptr_inv hx2] at p1
     injection p1 with p1
     injection p1 with p1
     injection p1 with p1
     rw [hx, hx2, p1]
    ·obtain ⟨hlt, hat⟩ := List.getElem?_eq_some_iff.1 e1
     have r1 := hrep t hlt
     rw [hat] at r1
     have r2 := hs.tm t
     rw [e2, hs.defers.pin t ht0] at r2
     obtain ⟨hj, hja⟩ := List.getElem?_eq_some_iff.1 e3
     obtain ⟨hj', hja'⟩ := List.getElem?_eq_some_iff.1 e4
     obtain ⟨us, ev1, _, s1⟩ := r1.fn_inv
     obtain ⟨us', ev2, _, s2⟩ := r2.fn_inv
     have p3 : (vs ++ cs).getD t undef = cx'.pv.getD t undef := rfl
     rw [p3, ev2] at ev1
     injection ev1 with _ _ ev1
     subst ev1
     have s1 := s1 j hj
     have s2 := s2 j hj'
     rw [hja] at s1
     rw [hja'] at s2
     have m1 := hme.me i
     unfold AS.find at m1
     rw [hi] at m1
     obtain ⟨x, hx, g, vs1, hd1, _⟩ := m1
     have m2 := hs.me i
     unfold AS.find at m2
     rw [hme', e5] at m2
     obtain ⟨x2, hx2, g2, vs2, hd2, _⟩ := m2
     subst hd1 hd2
     have p1 := s1.ptr_inv hx
     rw [s2.ptr_inv hx2] at p1
     injection p1 with p1
     injection p1 with p1
     injection p1 with p1
     rw [hx, hx2, p1]
   obtain ⟨t, ht, htb⟩ := List.any_eq_true.1 hb'
   rw [List.mem_range] at ht
   rw [Bool.and_eq_true] at htb
   obtain ⟨b1, b2⟩ := htb
   split at b1
   ·rename_i k hk
    have e1 : k = i := Nat.eq_of_beq_eq_true b1
    subst e1
    split at b2
    ·rename_i k2 ty2 es2 hk2 hk3
     have e2 : k2 = k := Nat.eq_of_beq_eq_true b2
     subst e2
     obtain ⟨hlt, hat⟩ := List.getElem?_eq_some_iff.1 hk
     have r1 := hrep t hlt
     rw [hat] at r1
     have r2 := hs.tm t
     rw [hk2, hs.defers.pin t ht] at r2
     have m1 := hme.me k2
     unfold AS.find at m1
     rw [hi] at m1
     obtain ⟨x, hx, g, vs1, hd1, _⟩ := m1
     have m2 := hs.me k2
     unfold AS.find at m2
     rw [hme', hk3] at m2
     obtain ⟨x2, hx2, g2, vs2, hd2, _⟩ := m2
     subst hd1 hd2
     have p1 := r1.ptr_inv hx
     have p2 := r2.ptr_inv hx2
     have p3 : (vs ++ cs).getD t undef = cx'.pv.getD t undef := rfl
     rw [p3, p2] at p1
     injection p1 with p1
     injection p1 with p1
     injection p1 with p1
     rw [hx, hx2, p1]
    ·cases b2
   ·cases b1
 cases e with
 | normal => exact key hq
 | ret => exact key hq
 | _ => exact hq.elim
end Go.Proofs.YtjpknpjjcddnnaaGreat
namespace Go.Proofs.YtjpknpjjcddnnaaGreat
open Go.RowKit
theorem leaves_marks {cx : Cx} {γ : Gam} {σ : AS} {fn : Func} {R : Ending → World → Prop} : ∀ (rs : List Nat) (a : Act) (w : World), StG cx γ σ a w → cx.E.rg = true → (∀ b, cx.Fr b → False) → cx.E.yl = none → a.defers = rs.map (fun r => { target := .collected r, args := #[] }) → rs.Nodup →
  (∀ r ∈ rs, cx.w0.heap.size ≤ r ∧ r < w.heap.size ∧ ¬ own γ r ∧ w.heap[r]? = some (.deferred (some []))) →
  (∀ w' a', StG cx γ σ a' w' → a'.tmps = a.tmps → ∃ v, (results fn a.tmps).run cx.P w' = .ok v w' ∧ R (.returned v) w') → LeavesInM Fence.wide 0 cx.P fn a.tmps R a.defers .returning w
 | [], a, w, h, hrg, hF, hyl, hd, _, _, k => by
   rw [hd]
   obtain ⟨v, h1, h2⟩ := k w a h rfl
   exact ⟨v, h1, h2⟩
 | r :: rs, a, w, h, hrg, hF, hyl, hd, hnd, hrs, k => by
   obtain ⟨q1, q2, q3, q4⟩ := hrs r (List.mem_cons_self ..)
   rw [hd]
   refine ⟨by simp, Or.inl ⟨r, w.putObj r (.deferred none), rfl, run_takeDeferred q4, ?_⟩⟩
   have hnd' := (List.nodup_cons.1 hnd)
   have hrs' : ∀ r' ∈ rs, cx.w0.heap.size ≤ r' ∧ r' < (w.putObj r (.deferred none)).heap.size ∧ ¬ own γ r' ∧ (w.putObj r (.deferred none)).heap[r']? = some (.deferred (some [])) := fun r' hr' => by
    obtain ⟨p1, p2, p3, p4⟩ := hrs r' (List.mem_cons_of_mem _ hr')
    exact ⟨p1, by rw [z3i]; exact p2, p3, (z2i (b := r') (r := r) (by intro e; subst e; exact hnd'.1 hr')).trans p4⟩
   have hst := h.putObj (o' := .deferred none) (ds := rs.map (fun r => { target := .collected r, args := #[] })) q4 rfl q1 q3
    ⟨fun hr0 => absurd (hr0.symm.trans hrg) (by simp), ⟨rs, rfl, hnd'.2, hrs'⟩, h.defers.pin, fun l R hl => absurd (hyl.symm.trans hl) (by simp), by rw [z3i]; exact h.defers.sz⟩ (fun b hb => (hF b hb).elim)
   exact leaves_marks rs _ _ hst hrg hF hyl rfl hnd'.2 hrs' (fun w' a' h1 h2 => k w' a' h1 (h2.trans rfl))
theorem Con.walkM {E : Env} {fr : Bool} {f : FuncId} {fn : Func} {args : List AV} {res : AV} (c : Code) (hf : E.P.funcs[f]? = some fn) (hb : fn.body = some c) (he : z9y E f) (hn : Nat.ble args.length fn.ntmps = true) (hfr : fr = false ∨ res.flat = true)
  (h : AW E fn.ntmps (EndA E fn res) [.code c] .normal (start args)) (hrg : E.rg = true) (hyl : E.yl = none) (hnp : E.np = 0) : Con { E with rg := false } fr f args res := by
 refine ⟨he, fun S w vs ha => callsIn_wide.1 (callsIn_of_wp_marks (F := Fence.wide) (n := 0) hf hb trivial ?_)⟩
 have h0 : WP (Cx.call E S w fn.ntmps) c (EndA E fn res) (start args) := WP.mono (h.out (Cx.call E S w fn.ntmps) rfl rfl) fun e σ hk => by cases e <;> exact hk
 refine wpIn_mono (h0 _ _ (start_st hyl hnp ha (Nat.le_of_ble_eq_true hn))) (fun e a w' ⟨σ, hq, γ, hst⟩ => ?_)
 have key : (∃ avs, retA E.tab σ fn.results.toList = some avs ∧ Sub (closeR σ (packA avs)) res) → bodyPostM Fence.wide 0 E.P fn (fun e w' => ∃ v, e = .returned v ∧ BelE { E with rg := false } w w' ∧ Rep w' (fun b => (fr = false ∧ S b) ∨ w.heap.size ≤ b) G0 res v) .ret a w' := by
  rintro ⟨avs, h1, hsub⟩
  obtain ⟨rs, m1, m2, m3⟩ := hst.defers.marks
  refine leaves_marks (cx := Cx.call E S w fn.ntmps) rs a w' hst hrg (fun b hb => hb.elim) hyl m1 m2 m3 (fun w2 a2 hst2 e2 => ?_)
  obtain ⟨v, hv, hr⟩ := zim hst2 h1
  rw [e2] at hv
  refine ⟨v, hv, v, rfl, ⟨hst2.below, hst2.dr⟩, ?_⟩
  have h2 := (closeR_rep (S' := fun b => S b ∨ w.heap.size ≤ b) hst2 (fun b hb => ?_) hr).sub hsub
  ·rcases hfr with hfr | hfr
   ·exact h2.mono (Nat.le_refl _) (fun b hb _ => ⟨rfl, hb.elim (fun h => Or.inl ⟨hfr, h⟩) Or.inr⟩)
   ·exact h2.flat hfr
  ·rcases hb with hb | hb
   ·rcases hb with ⟨hb, _⟩ | ⟨hb, _⟩
    ·exact Or.inl hb.1
    ·exact Or.inr hb.1
   ·exact Or.inr (hst2.ge b hb).1.1
 cases e with
 | normal => exact key (zsi hq)
 | ret => exact key (zsi hq)
 | _ => exact hq.elim
end Go.Proofs.YtjpknpjjcddnnaaGreat
namespace Go.Proofs.YtjpknpjjcddnnaaGreat
open Go.RowKit
theorem set_rep {w : World} {S : Nat → Prop} {γ : Gam} : ∀ (ps : List Nat) (avs : List AV) (vs : List Value) (T : Array Value) (base : List (Nat × AV)), (∀ t, Rep w S γ (lkV base t) (T.getD t undef)) → (∀ p ∈ ps, p < T.size) → avs.length = ps.length → vs.length = ps.length →
  (∀ i (hi : i < avs.length), Rep w S γ avs[i] (vs.getD i undef)) → ∀ t, Rep w S γ (lkV ((ps.zip avs).foldl (fun tm x => x :: tm) base) t) (((ps.zip vs).foldl (fun t x => t.setIfInBounds x.1 x.2) T).getD t undef)
 | [], _, _, T, base, h0, _, _, _, _ => fun t => h0 t
 | p :: ps, [], _, T, base, _, _, h1, _, _ => by simp at h1
 | p :: ps, av :: avs, [], T, base, _, _, _, h2, _ => by simp at h2
 | p :: ps, av :: avs, v :: vs, T, base, h0, hp, h1, h2, h3 => by
   simp only [List.zip_cons_cons, List.foldl_cons]
   refine set_rep ps avs vs _ _ (fun t => ?_) (fun q hq => by rw [Array.size_setIfInBounds]; exact hp q (List.mem_cons_of_mem _ hq)) (by simpa using h1) (by simpa using h2) (fun i hi => by have := h3 (i + 1) (by simpa using hi); simpa using this)
   have hpT := hp p (List.mem_cons_self ..)
   simp only [lkV]
   cases hb : Nat.beq p t with
   | true =>
     have := Nat.eq_of_beq_eq_true hb
     subst this
     have h := h3 0 (by simp)
     simp only [List.getElem_cons_zero, List.getD_cons_zero] at h
     simpa [hpT] using h
   | false =>
     have hne : p ≠ t := Nat.ne_of_beq_eq_false hb
     have e : (T.setIfInBounds p v).getD t undef = T.getD t undef := by
      rw [Array.getD_eq_getD_getElem?, Array.getElem?_setIfInBounds_ne hne, ← Array.getD_eq_getD_getElem?]
     rw [e]; exact h0 t
theorem set_size : ∀ (l : List (Nat × Value)) (T : Array Value), (l.foldl (fun t x => t.setIfInBounds x.1 x.2) T).size = T.size
 | [], T => rfl
 | x :: l, T => by rw [List.foldl_cons, set_size l, Array.size_setIfInBounds]
theorem set_other {t : Nat} : ∀ (l : List (Nat × Value)) (T : Array Value), (∀ x ∈ l, x.1 ≠ t) → (l.foldl (fun t x => t.setIfInBounds x.1 x.2) T).getD t undef = T.getD t undef
 | [], T, _ => rfl
 | x :: l, T, h => by
   rw [List.foldl_cons, set_other l _ (fun y hy => h y (List.mem_cons_of_mem _ hy)), Array.getD_eq_getD_getElem?, Array.getElem?_setIfInBounds_ne (h x (List.mem_cons_self ..)), ← Array.getD_eq_getD_getElem?]
def startR (ps : List Nat) (args ycaps : List AV) (me : List (Nat × Ent)) : AS := ⟨(ps.zip args).foldl (fun tm x => x :: tm) (ycaps.zipIdx.map fun p => (p.2, p.1)), me⟩
inductive BX (E : Env) (nt : Nat) (ycaps : List AV) (me : List (Nat × Ent)) (σ : AS) (me' : List (Nat × Ent)) : Prop
 | mk (τ : AS) (hl : LeX E nt σ τ) (hme : τ.me = me') (hb : boxB E.np ycaps τ me me' [] = true)
def EndB (E : Env) (nt : Nat) (ycaps : List AV) (me me' : List (Nat × Ent)) : Exit → AS → Prop
 | .normal, σ => BX E nt ycaps me σ me'
 | _, _ => False
theorem StG.putObjW {cx : Cx} {γ : Gam} {σ : AS} {a : Act} {w : World} (h : StG cx γ σ a w) {r : Nat} {o o' : Obj} (hr : w.heap[r]? = some o) (ho : o.isCells = false) (hB : cx.w0.heap.size ≤ r) (hno : ¬ own γ r) (hd : a.defers = []) (hyl : cx.E.yl = none) (hom : ∀ es c, o ≠ .map es c := by intro es c h; cases h) : StG { cx with w1 := w.putObj r o' } γ σ a (w.putObj r o') := by
 have hn := no_cell (k := 0) hr ho
 have hnm : ∀ es c, w.heap[r]? ≠ some (.map es c) := fun es c h => by rw [hr] at h; injection h with h; exact hom es c h
 have hne : ∀ b, own γ b → b ≠ r := fun b hb e => hno (e ▸ hb)
 refine ⟨fun t => (h.tm t).putObj hn hnm, fun id => ?_, h.inj, fun b hb => by rw [z3i]; exact h.ge b hb, h.below.trans ⟨rfl, rfl, rfl, by rw [z3i]; exact Nat.le_refl _, fun b hb => z2i (by omega)⟩, h.size,
  ⟨fun _ => hd, ⟨[], hd, .nil, fun r hr => by cases hr⟩, h.defers.pin, fun l R hl => absurd (hyl.symm.trans hl) (by simp), Nat.le_refl _⟩, fun b hb => by rw [z3i]; exact h.gh b hb, fun b hb => ?_, h.dr⟩
 ·have := h.me id
  cases hf : σ.find id with
  | none => rw [hf] at this; exact this
  | some e =>
    rw [hf] at this
    obtain ⟨x, hx, he⟩ := this
    exact ⟨x, hx, he.putObj hn hnm (fun b hb => hne b ⟨id, x, hx, hb⟩)⟩
 ·obtain ⟨q1, q2, q3⟩ := h.fr b hb
  exact ⟨q1, by rw [z3i]; exact q2, rfl⟩
theorem ConG.round {E : Env} {nt : Nat} {ps : Array Tmp} {assign body : Code} {args ycaps : List AV} {me me' : List (Nat × Ent)} (hrg : E.rg = false) (hylE : E.yl = none) (hdr : E.dr = false) (hps : ps.toList.all (fun p => Nat.ble E.np p && Nat.blt p nt) = true) (hlen : args.length = ps.size) (hcl : Nat.ble ycaps.length nt = true)
  (h : AW E nt (z0v (fun σ => AW E nt (EndB E nt ycaps me me') [.code body] .normal σ) (fun _ _ => False)) [.code assign] .normal (startR ps.toList args ycaps me))
  (l D : Nat) (fn : FuncId) (T : Array Value) (hT : T.size = nt) : ConG E.P (some (l, .loop (recR fn T ps assign body D))) (fun vs cs w R => cs = T → CalY E.P l vs cs w R) args ycaps me (.bool true) me' := by
 intro cx γ w vs cs hP hdr0 hyl hnt0 hnp0 hme hvs hva hca hcs
 subst hcs
 have hyl' := hyl _ rfl
 obtain ⟨q0, q1, q2, q3⟩ := hme.defers.yl l _ hyl'
 refine ⟨fn, _, assign, body, run_yield (P := E.P) (args := vs) q3 (by rw [hvs, hlen]), roundIn_of_wpIn trivial ?_⟩
 have ef : (ps.zip vs).foldl (fun (t : Array Value) (x : Tmp × Value) => t.setIfInBounds x.1 x.2) cs = (ps.toList.zip vs.toList).foldl (fun t x => t.setIfInBounds x.1 x.2) cs := by
  rw [← Array.foldl_toList, Array.toList_zip]
 obtain ⟨tm, htm⟩ : ∃ tm, tm = (ps.toList.zip vs.toList).foldl (fun t x => t.setIfInBounds x.1 x.2) cs := ⟨_, rfl⟩
 have etm : (ps.zip vs).foldl (fun (t : Array Value) (x : Tmp × Value) => t.setIfInBounds x.1 x.2) cs = tm := by rw [ef, htm]
 show assign.wpIn (Fence.wide.inRound l) 0 E.P _ { tmps := (ps.zip vs).foldl (fun (t : Array Value) (x : Tmp × Value) => t.setIfInBounds x.1 x.2) cs, defers := [] } w
 rw [etm]
 have hps' : ∀ p ∈ ps.toList, E.np ≤ p ∧ p < nt := fun p hp => by
  have := List.all_eq_true.1 hps p hp
  simpa using this
 let cxa : Cx := ⟨E, cx.S0, cx.w0, nt, fun b => b < w.heap.size ∧ ¬ own γ b, w, some l, cs, fun h => absurd (hrg.symm.trans h) (by simp)⟩
 have hst : StG cxa γ (startR ps.toList args ycaps me) { tmps := tm, defers := [] } w := by
  refine ⟨fun t => ?_, hme.me, hme.inj, hme.ge, hme.below, by rw [htm]; exact (set_size _ _).trans hT, ⟨fun _ => rfl, ⟨[], rfl, .nil, fun r hr => by cases hr⟩, fun t ht => ?_, fun l R hl => absurd (hylE.symm.trans hl) (by simp), Nat.le_refl _⟩, hme.gh, fun b hb => ⟨hb.2, hb.1, rfl⟩, fun hd => absurd (hdr.symm.trans hd) (by simp)⟩
  ·rw [htm]
   refine set_rep ps.toList args vs.toList cs _ (fun t => ?_) (fun p hp => by rw [hT]; exact (hps' p hp).2) (by simpa using hlen) (by simp [hvs, hlen]) (fun i hi => ?_) t
   ·rw [lkV_zip]
    by_cases ht : 0 ≤ t ∧ t < 0 + ycaps.length
    ·rw [dif_pos ht]; exact hca t (by omega)
    ·rw [dif_neg ht]; exact .any _
   ·have := hva i hi
    rwa [Array.getD_eq_getD_getElem?, ← Array.getElem?_toList, ← List.getD_eq_getElem?_getD] at this
  ·show tm.getD t undef = cs.getD t undef
   rw [htm]
   exact set_other _ _ (fun x hx e => by have := (hps' x.1 (List.of_mem_zip hx).1).1; have ht' : t < E.np := ht; omega)
 have hA : WP cxa assign (z0v (fun σ => AW E nt (EndB E nt ycaps me me') [.code body] .normal σ) (fun _ _ => False)) (startR ps.toList args ycaps me) := WP.mono (h.out cxa rfl rfl) fun e σ hk => by cases e <;> exact hk
 refine wpIn_mono (F := Fence.wide.inRound l) (hA _ _ ⟨γ, hst⟩) (fun e a1 w1 ⟨σ1, hq1, hst1⟩ => ?_)
 cases e with
 | normal =>
   obtain ⟨γ1, hs1⟩ := hst1
   obtain ⟨k1, k2, k3⟩ := hs1.fr l ⟨q1, q2⟩
   have k4 : w1.heap[l]? = some (.loop (recR fn cs ps assign body D)) := k3.trans q3
   refine ⟨_, run_beginRound (P := E.P) k4 rfl, ?_⟩
   have hs2 := hs1.putObjW (o' := .loop { recR fn cs ps assign body D with state := .busy }) k4 rfl q0 k1 (hs1.defers.d0 hrg) hylE
   generalize hw2 : w1.putObj l (.loop { recR fn cs ps assign body D with state := .busy }) = w2 at hs2 ⊢
   have hB : WP { cxa with w1 := w2 } body (EndB E nt ycaps me me') σ1 := WP.mono ((show AW E nt (EndB E nt ycaps me me') [.code body] .normal σ1 from hq1).out { cxa with w1 := w2 } rfl rfl) fun e σ hk => by cases e <;> exact hk
   refine wpIn_mono (F := Fence.wide.inRound l) (hB _ _ ⟨γ1, hs2⟩) (fun e2 a2 w3 ⟨σ2, hq2, hst2⟩ => ?_)
   cases e2 with
   | normal =>
     obtain ⟨τ, hl, hme', hbx⟩ := hq2
     obtain ⟨γ3, hs3⟩ := hl { cxa with w1 := w2 } rfl rfl a2 w3 hst2
     have hb2 : w2.heap[l]? = some (.loop { recR fn cs ps assign body D with state := .busy }) := by rw [← hw2]; exact World.putObj_heap_same k2
     obtain ⟨j1, j2, j3⟩ := hs3.fr l ⟨q1, q2⟩
     have j4 : w3.heap[l]? = some (.loop { recR fn cs ps assign body D with state := .busy }) := j3.trans hb2
     refine ⟨_, _, run_endRound (P := E.P) none j4, ?_⟩
     have hs4 := hs3.putObjW (o' := .loop (recR fn cs ps assign body D)) j4 rfl q0 j1 (hs3.defers.d0 hrg) hylE
     show ∃ u γ', _ ∧ _
     have hw4 : w3.putObj l (.loop { { recR fn cs ps assign body D with state := .busy } with state := if (none : Option Code).isNone = true then LoopState.ready else LoopState.done, pending := none }) = w3.putObj l (.loop (recR fn cs ps assign body D)) := rfl
     rw [hw4]
     have hr4 : (w3.putObj l (.loop (recR fn cs ps assign body D))).heap[l]? = some (.loop (recR fn cs ps assign body D)) := World.putObj_heap_same j2
     generalize hwe : w3.putObj l (.loop (recR fn cs ps assign body D)) = w4 at hs4 hr4 ⊢
     have z1 : w.heap.size ≤ w1.heap.size := hs1.defers.sz
     have z2 : w1.heap.size = w2.heap.size := by rw [← hw2, z3i]
     have z3 : w2.heap.size ≤ w3.heap.size := hs3.defers.sz
     have z4 : w3.heap.size = w4.heap.size := by rw [← hwe, z3i]
     have hfr : ∀ b, ¬ own γ b → b < w.heap.size → w4.heap[b]? = w.heap[b]? ∧ ¬ own γ3 b := fun b hb hlt => by
      obtain ⟨p1, p2, p3⟩ := hs1.fr b ⟨hlt, hb⟩
      obtain ⟨r1, r2, r3⟩ := hs3.fr b ⟨hlt, hb⟩
      refine ⟨?_, r1⟩
      by_cases hbl : b = l
      ·subst hbl; exact hr4.trans q3.symm
      ·have e1 : w4.heap[b]? = w3.heap[b]? := by rw [← hwe]; exact z2i hbl
       have e2 : w2.heap[b]? = w1.heap[b]? := by rw [← hw2]; exact z2i hbl
       exact e1.trans (r3.trans (e2.trans p3))
     refine ⟨.bool true, γ3, rfl, ⟨fun t => .any _, fun i => by have := hs4.me i; unfold AS.find at this ⊢; rw [← hme']; exact this, hs4.inj, hs4.ge, hs4.below, hnt0.symm, ⟨fun _ => rfl, ⟨[], rfl, .nil, fun r hr => by cases hr⟩, fun t ht => by rw [hnp0] at ht; omega, fun l' R' hl' => ?_, Nat.le_trans hme.defers.sz (by omega)⟩, hs4.gh, fun b hb => ?_, fun hd => absurd (hdr0.symm.trans hd) (by simp)⟩, .bool _, by omega, fun i ty es hi => ?_, hfr⟩
     ·rw [hyl'] at hl'
      injection hl' with hl'
      injection hl' with e1 e2
      subst e1 e2
      exact ⟨q0, by omega, j1, hr4⟩
     ·obtain ⟨p1, p2, p3⟩ := hme.fr b hb
      obtain ⟨r1, r2⟩ := hfr b p1 p2
      exact ⟨r2, by omega, r1.trans p3⟩
     ·have hb' := List.all_eq_true.1 hbx (i, .box ty es) (lkE_in hi)
      have hb' := (Bool.or_eq_true _ _).mp hb'
      rcases hb' with hb' | hb'
      ·cases hb'
      obtain ⟨t, ht, htb⟩ := List.any_eq_true.1 hb'
      rw [List.mem_range] at ht
      rw [Bool.and_eq_true] at htb
      obtain ⟨b1, b2⟩ := htb
      split at b1
      ·rename_i k hk
       have e1 : k = i := Nat.eq_of_beq_eq_true b1
       subst e1
       split at b2
       ·rename_i k2 ty2 es2 hk2 hk3
        have e2 : k2 = k := Nat.eq_of_beq_eq_true b2
        subst e2
        obtain ⟨hlt, hat⟩ := List.getElem?_eq_some_iff.1 hk
        have r1 := hca t hlt
        rw [hat] at r1
        have r2 := hs3.tm t
        rw [hk2, hs3.defers.pin t ht] at r2
        have m1 := hme.me k2
        unfold AS.find at m1
        rw [hi] at m1
        obtain ⟨x, hx, g, vs1, hd1, _⟩ := m1
        have m2 := hs3.me k2
        unfold AS.find at m2
        rw [hme', hk3] at m2
        obtain ⟨x2, hx2, g2, vs2, hd2, _⟩ := m2
        subst hd1 hd2
        have p1 := r1.ptr_inv hx
        have p2 : cs.getD t undef = _ := r2.ptr_inv hx2
        rw [p2] at p1
        injection p1 with p1
        injection p1 with p1
        injection p1 with p1
        rw [hx, hx2, p1]
       ·cases b2
      ·cases b1
   | _ => exact hq2.elim
 | _ => exact hq1.elim
end Go.Proofs.YtjpknpjjcddnnaaGreat
namespace Go.Proofs.YtjpknpjjcddnnaaGreat
open Go.RowKit
noncomputable def E0p (np : Nat) : Env := { E0 with np := np }
noncomputable def E0y (l : Nat) (R : Obj) (np : Nat) : Env := { E0 with np := np, yl := some (l, R) }
noncomputable def E0r : Env := { E0 with rg := true }
theorem ConG.up {P : Program} {yl : Option (Nat × Obj)} {C : CalT} {args caps : List AV} {me me' : List (Nat × Ent)} {res : AV} (h : ConG P none C args caps me res me') : ConG P yl C args caps me res me' :=
 fun cx γ w vs cs h1 h2 _ => h cx γ w vs cs h1 h2 (fun x hx => by cases hx)
theorem Con.env {E E' : Env} {fr : Bool} {f : FuncId} {avs : List AV} {res : AV} (hP : E'.P = E.P) (hd : E'.dr = false) (h : Con E fr f avs res) : Con E' fr f avs res := by
 refine ⟨by have := h.1; unfold z9y at *; rw [hP]; exact this, fun S w vs ha => ?_⟩
 have := h.2 S w vs ha
 rw [hP]
 exact this.mono fun e w' ⟨v, h1, ⟨h2, _⟩, h3⟩ => ⟨v, h1, ⟨h2, fun hd' => absurd (hd.symm.trans hd') (by simp)⟩, h3⟩
theorem ConT.env {E E' : Env} {f : FuncId} {avs xs : List AV} {ty sz : Nat} {res : AV} (hP : E'.P = E.P) (h : ConT E f avs ty sz xs res) : ConT E' f avs ty sz xs res := by
 refine ⟨by have := h.1; unfold z9y at *; rw [hP]; exact this, h.2.1, fun S w vs ha => ?_⟩
 rw [hP]
 exact h.2.2 S w vs ha
section
variable {α β : Type}
theorem z0p.oM {o : Option α} {k : α → Option β} {r : β} {E : Env} {f : FuncId} {avs : List AV} {K : AV → Prop} {R : Nat → Nat → List AV → AV → Prop} {find : Nat → Option Ent} {KR : AV → List Nat → List (Nat × Ent) → Prop} (h : bnd o k = some r)
  (ps ps' : List (Nat × Nat)) (cargs : List AV) (me : List (Nat × Ent)) (meF : α → List (Nat × Ent)) (resF : α → AV) (dead : List Nat) (hc : ∀ a, o = some a → ConG E.P E.yl (CalF E.P f 0) cargs [] me (resF a) (meF a)) (he : z9y E f) (hdr0 : E.dr = false) (hra : AV.renL (rho ps) cargs = avs) (hia : AV.inML (me.map (·.1)) cargs = true) (hle : LeF find (rho ps) (me.map (·.1)) me)
  (hn : ∀ a, zg0 find (rho ps) (rho ps') me (meF a) (resF a) dead) (kk : ∀ a, k a = some r → KR ((resF a).ren (rho ps')) (idsG (rho ps) (rho ps') me (meF a)) (wrG (rho ps') (meF a) dead)) : z0p E f avs K R find KR := by
 cases o with
 | none => unfold bnd at h; cases h
 | some a => exact .memo ps ps' cargs me (meF a) (resF a) dead he hdr0 (hc a rfl) hra hia hle (hn a) (kk a (by unfold bnd at h; exact h))
theorem z9v.oM {o : Option α} {k : α → Option β} {r : β} {E : Env} {f : FuncId} {avs raw : List AV} {K : AV → Prop} {dst : Option Nat} {find : Nat → Option Ent} {KR : AV → List Nat → List (Nat × Ent) → Prop} (h : bnd o k = some r)
  (ps ps' : List (Nat × Nat)) (cargs : List AV) (me : List (Nat × Ent)) (meF : α → List (Nat × Ent)) (resF : α → AV) (dead : List Nat) (hc : ∀ a, o = some a → ConG E.P E.yl (CalF E.P f 0) cargs [] me (resF a) (meF a)) (he : z9y E f) (hdr0 : E.dr = false) (hra : AV.renL (rho ps) cargs = raw) (hia : AV.inML (me.map (·.1)) cargs = true) (hle : LeF find (rho ps) (me.map (·.1)) me)
  (hn : ∀ a, zg0 find (rho ps) (rho ps') me (meF a) (resF a) dead) (kk : ∀ a, k a = some r → KR ((resF a).ren (rho ps')) (idsG (rho ps) (rho ps') me (meF a)) (wrG (rho ps') (meF a) dead)) : z9v E f avs K raw find dst KR := by
 cases o with
 | none => unfold bnd at h; cases h
 | some a => exact .memo ps ps' cargs me (meF a) (resF a) dead he hdr0 (hc a rfl) hra hia hle (hn a) (kk a (by unfold bnd at h; exact h))
theorem YldX.oM {o : Option α} {k : α → Option β} {r : β} {E : Env} {l : Nat} {T : Array Value} {raw cap : List AV} {find : Nat → Option Ent} {KR : AV → List Nat → List (Nat × Ent) → Prop} (h : bnd o k = some r)
  (ps ps' : List (Nat × Nat)) (cargs ccaps : List AV) (me : List (Nat × Ent)) (meF : α → List (Nat × Ent)) (resF : α → AV) (dead : List Nat) (hc : ∀ a, o = some a → ConG E.P E.yl (fun vs cs w R => cs = T → CalY E.P l vs cs w R) cargs ccaps me (resF a) (meF a)) (hdr0 : E.dr = false) (hra : AV.renL (rho ps) cargs = raw) (hrc : AV.renL (rho ps) ccaps = cap) (hia : AV.inML (me.map (·.1)) cargs = true) (hic : AV.inML (me.map (·.1)) ccaps = true) (hle : LeF find (rho ps) (me.map (·.1)) me)
  (hn : ∀ a, zg0 find (rho ps) (rho ps') me (meF a) (resF a) dead) (kk : ∀ a, k a = some r → KR ((resF a).ren (rho ps')) (idsG (rho ps) (rho ps') me (meF a)) (wrG (rho ps') (meF a) dead)) : YldX E l T raw cap find KR := by
 cases o with
 | none => unfold bnd at h; cases h
 | some a => exact .mk ps ps' cargs ccaps me (meF a) (resF a) dead hdr0 (hc a rfl) hra hrc hia hic hle (hn a) (kk a (by unfold bnd at h; exact h))
theorem RngX.oM {o : Option α} {k : α → Option β} {r : β} {E : Env} {nt gf : Nat} {cap : List AV} {ps : Array Tmp} {a b : Code} {σ : AS} {K : AS → Prop} (h : bnd o k = some r)
  (pp pp' : List (Nat × Nat)) (ycaps ccaps : List AV) (me : List (Nat × Ent)) (meF : α → List (Nat × Ent)) (dead : List Nat)
  (hiter : ∀ x, o = some x → ∀ (l D : Nat) (fn : FuncId) (T : Array Value), T.size = nt → ConG E.P (some (l, .loop (recR fn T ps a b D))) (CalF E.P gf 0) (.yld l T ycaps :: ccaps) [] me (.tup []) (meF x))
  (he : z9y E gf) (hrg : E.rg = true) (hdr0 : E.dr = false) (hyl0 : E.yl = none) (hrc : AV.renL (rho pp) ccaps = cap) (hic : AV.inML (me.map (·.1)) ccaps = true) (hy : LeY σ (rho pp) (me.map (·.1)) 0 ycaps) (hle : LeF σ.find (rho pp) (me.map (·.1)) me) (hn : ∀ x, zg0 σ.find (rho pp) (rho pp') me (meF x) (.tup []) dead)
  (kk : ∀ x, k x = some r → K (σ.upd none (.tup []) (wrG (rho pp') (meF x) dead))) : RngX E nt (.fn gf cap) ps a b σ K := by
 cases o with
 | none => unfold bnd at h; cases h
 | some x => exact .mk gf cap rfl he hrg hdr0 hyl0 pp pp' ycaps ccaps me (meF x) dead hrc hic hy hle (hn x) (hiter x rfl) (kk x (by unfold bnd at h; exact h))
theorem GX.o {x r : α} {E : Env} {nt : Nat} {fn : Func} {args : List AV} {me : List (Nat × Ent)} {σ : AS} {res : α → AV} {meF : α → List (Nat × Ent)} (h : some x = some r) (k : GX E nt fn args me σ (res x) (meF x)) : GX E nt fn args me σ (res r) (meF r) := by
 injection h with h; subst h; exact k
theorem BX.o {x r : α} {E : Env} {nt : Nat} {ycaps : List AV} {me : List (Nat × Ent)} {σ : AS} {meF : α → List (Nat × Ent)} (h : some x = some r) (k : BX E nt ycaps me σ (meF x)) : BX E nt ycaps me σ (meF r) := by
 injection h with h; subst h; exact k
end
end Go.Proofs.YtjpknpjjcddnnaaGreat
namespace Go.Proofs.YtjpknpjjcddnnaaGreat
open Go.RowKit
section
variable {β : Type} {E : Env} {nt : Nat} {o : Oper} {σ : AS} {K : OpK}
def bld {α : Type} (l : List α) (k : List α → Option β) : Option β := k l
theorem OpX.bld {α : Type} {l : List α} {k : List α → Option β} {r : β} (enc : α → AV) {T n d e esz eb : Nat} {ps : Array (Nat × Operand)} {i ie : TyI} (hF : bld l k = some r) (ho : o.op = .buildSlice T n ps) (hdst : o.dst = some d) (hd : dokN E nt o.dst = true) (hT : lkT E.tab T = some i) (hs : i.shape = .slc e esz eb) (he : lkT E.tab e = some ie) (hz : Nat.beq esz 0 = false) (hn : Nat.ble (n * esz) 16777216 = true)
  (hze : zh2 ie.zero.cells.toList = true) (hz0 : Nat.blt 0 ie.zero.cells.size = true) (hok : zin σ ps = true) (hcl : AV.closedL (l.map enc) = true) (hlen : (l.map enc).length = n) (hl : (l.map enc).all (fun x => Nat.beq x.cells.length esz) = true)
  (hf : zo8 (fun j => some (j * esz, esz)) (List.replicate (n * esz) .any) (zcu σ ps) = some ((l.map enc).flatMap AV.cells)) (hnn : σ.find d = none) (hk : ∀ l', k l' = some r → K (.row d) (d :: zio (zcu σ ps)) [(d, .row e esz (l'.map enc))]) : OpX E nt o σ K :=
 .mk _ _ _ (fun cx hE hnt => zn5 ho hdst (z0y hd hE hnt) (by rw [hE]; exact hT) hs (by rw [hE]; exact he) (nbne hz) hn (z9i hze) hz0 hok hcl hlen hl hf hnn) (hk l hF)
def bldS {α : Type} (l : List α) (k : List α → Option β) : Option β := k l
theorem OpX.bldS {α : Type} {l : List α} {k : List α → Option β} {r : β} (enc : α → AV) {T n e esz eb : Nat} {ps : Array (Nat × Operand)} {i ie : TyI} (hF : Proofs.YtjpknpjjcddnnaaGreat.bldS l k = some r) (ho : o.op = .buildSlice T n ps) (hd : dokN E nt o.dst = true) (hT : lkT E.tab T = some i) (hs : i.shape = .slc e esz eb) (he : lkT E.tab e = some ie) (hz : Nat.beq esz 0 = false) (hn : Nat.ble (n * esz) 16777216 = true)
  (hze : zh2 ie.zero.cells.toList = true) (hz0 : Nat.blt 0 ie.zero.cells.size = true) (hok : zin σ ps = true) (hcl : AV.closedL (l.map enc) = true) (hlen : (l.map enc).length = n) (hl : (l.map enc).all (fun x => Nat.beq x.cells.length esz) = true)
  (hf : zo8 (fun j => some (j * esz, esz)) (List.replicate (n * esz) .any) (zcu σ ps) = some ((l.map enc).flatMap AV.cells)) (hk : ∀ l', k l' = some r → K (.sl esz (l'.map enc)) (zio (zcu σ ps)) []) : OpX E nt o σ K :=
 .mk _ _ _ (fun cx hE hnt => r_buildSlice ho (z0y hd hE hnt) (by rw [hE]; exact hT) hs (by rw [hE]; exact he) (nbne hz) hn (z9i hze) hz0 hok hcl hlen hl hf) (hk l hF)
end
end Go.Proofs.YtjpknpjjcddnnaaGreat
namespace Go.Proofs.YtjpknpjjcddnnaaGreat
open Go.RowKit
noncomputable def E0q (np : Nat) : Env := { E0 with np := np, bl := true }
theorem ConC.env {E E' : Env} {inp : Bool} {f : FuncId} {avs xs xs' : List AV} {ty sz ty' sz' : Nat} {res : AV} (hP : E'.P = E.P) (h : ConC inp E f avs ty sz xs ty' sz' xs' res) : ConC inp E' f avs ty sz xs ty' sz' xs' res := by
 refine ⟨by have := h.1; unfold z9y at *; rw [hP]; exact this, h.2.1, fun S w0 w vs v us => ?_⟩
 rw [hP]
 exact h.2.2 S w0 w vs v us
section
variable {cx : Cx} {o : Oper} {σ : AS}
theorem mapv_val {γ : Gam} {w : World} {S : Nat → Prop} {ps : List (AV × AV)} {v : Value} (hv : Rep w S γ (.mapv ps) v) : ∃ g, v = .map (some g) ∧ zsw w S g ps := by
 cases hv with
 | mapv g es clock hS hg hh hl hk hv => exact ⟨g, rfl, es, clock, hh, hl, fun j h h' => ⟨hk j h h', hv j h h'⟩⟩
theorem r_lookup_v {T kt et : Nat} {x y : Operand} {ok : Bool} {i ie : TyI} {k av : AV} {ps : List (AV × AV)} {r : Option Nat} (ho : o.op = .lookup T x y ok) (hd : dok cx o = true) (hxo : z0o x = true) (hyo : z0o y = true) (hx : σ.eval x = .mapv ps) (hy : σ.eval y = k)
  (hT : lkT cx.E.tab T = some i) (hs : i.shape = .map kt et) (he : lkT cx.E.tab et = some ie) (hzo : aggOk ie.zero = true) (hk : z9u cx.P kt k = true) (hf : zci k (ps.map (·.1)) 0 = some r)
  (hav : Sub (lkVal (zln ie.zero) ps r) av) : z0u cx o σ (lkRes av r.isSome ok) [] [] :=
 z0z hd fun τ γ a w h1 h2 hst => by
  have ex := hst.ev x hxo
  rw [h1 x (by simp [ho, Op.operands]), hx] at ex
  have ey := hst.ev y hyo
  rw [h1 y (by simp [ho, Op.operands]), hy] at ey
  obtain ⟨g, hv, hm⟩ := mapv_val ex
  obtain ⟨v, hv1, hv2⟩ := lookup_run (S := Sg cx.S0 cx.w0.heap.size γ) (zA := zln ie.zero) ok (und_map (cx.E.ok T i hT) hs) hk (ey.flat (zlk hk)) hm ((cx.E.ok et ie he).zeroV w) (rep_const _ _ _ _ hzo) hf
  have hv1 : Rep w (Sg cx.S0 cx.w0.heap.size γ) G0 (lkVal (zln ie.zero) ps r) v := by cases r <;> exact hv1
  have hv1 := (hv1.open_ (γ' := γ)).sub hav
  refine ⟨(if ok then .tuple #[v, .bool r.isSome] else v), by simp only [execOp, ho, hv, Sem.run_bind, hv2, Result.andThen_ok, Sem.run_pure], ?_⟩
  cases ok with
  | false => exact hv1
  | true =>
    simp only [lkRes, if_true]
    refine .tup #[v, .bool r.isSome] rfl (fun j hj => ?_)
    have hj : j < 2 := hj
    rcases j with _ | _ | j
    ·exact hv1
    ·exact .bool _
    ·omega
theorem r_store_row {T id q sz k t s2 : Nat} {x : Operand} {i : TyI} {ty ety : TypeId} {xs ys : List AV} {el : AV} (ho : o.op = .store T x (.tmp t)) (hd : dok cx o = true) (hdst : o.dst = none) (hxo : z0o x = true) (hx : σ.eval x = .elt id sz k 0) (hy : σ.get t = .row q) (hT : lkT cx.E.tab T = some i) (hi : i.sz = 1) (hl : σ.find id = some (.row ty sz xs)) (hq : σ.find q = some (.row ety s2 ys)) (hne : id ≠ q)
  (he : xs[k]? = some el) (hsz : 1 ≤ sz) {el' : AV} (hel : el'.cells = .sl s2 ys :: el.cells.drop 1) :
  z0u cx o σ (.tup []) [id, q] [(id, .row ty sz (xs.set k el')), (q, .dead)] := by
 refine ⟨fun id' e he => ?_, fun τ h1 h2 a w Q K hst hK => ?_⟩
 ·simp only [lkE] at he
  cases hb : Nat.beq id id' with
  | true => simp [Nat.eq_of_beq_eq_true hb]
  | false =>
    rw [hb] at he
    simp only at he
    cases hb2 : Nat.beq q id' with
    | true => simp [Nat.eq_of_beq_eq_true hb2]
    | false => rw [hb2] at he; cases he
 have tx : τ.eval x = .elt id sz k 0 := by rw [h1 x (by simp [ho, Op.operands]), hx]
 have ty' : τ.get t = .row q := by have := h1 (.tmp t) (by simp [ho, Op.operands]); simpa [AS.eval, hy] using this
 have tl : τ.find id = some (.row ty sz xs) := by rw [h2 id (by simp), hl]
 have tq : τ.find q = some (.row ety s2 ys) := by rw [h2 q (by simp), hq]
 have fr : St cx (τ.freeze t q s2 ys) a w := LeX.freeze (E := cx.E) (nt := cx.nt) t q ety s2 ys ty' tq cx rfl rfl a w hst
 have g1 : (τ.freeze t q s2 ys).eval x = .elt id sz k 0 := by
  cases x with
  | tmp u =>
    have hu : u ≠ t := fun e => by
     subst e
     have : τ.get u = .elt id sz k 0 := tx
     rw [ty'] at this; cases this
    show (τ.freeze t q s2 ys).get u = _
    have e : (τ.freeze t q s2 ys).get u = τ.get u := by
     unfold AS.freeze AS.get
     simp only [lkV]
     cases hb : Nat.beq t u with
     | true => exact absurd (Nat.eq_of_beq_eq_true hb).symm hu
     | false => rfl
    rw [e]; exact tx
  | _ => exact tx
 have g2 : (τ.freeze t q s2 ys).eval (.tmp t) = .sl s2 ys := by simp [AS.eval, AS.freeze, AS.get, lkV]
 have fnd : ∀ j, j ≠ q → (τ.freeze t q s2 ys).find j = τ.find j := fun j hj => by
  unfold AS.freeze AS.find
  simp only [lkE]
  cases hb : Nat.beq q j with
  | true => exact absurd (Nat.eq_of_beq_eq_true hb).symm hj
  | false => rfl
 have fndq : (τ.freeze t q s2 ys).find q = some .dead := by simp [AS.freeze, AS.find, lkE]
 have g3 : (τ.freeze t q s2 ys).find id = some (.row ty sz xs) := by rw [fnd id hne, tl]
 have R := r_store_elt (cx := cx) (o := o) (σ := τ.freeze t q s2 ys) (el' := el') ho hd hxo rfl g1 g2 hT g3 he (by rw [hi]; rfl) (by rw [hi]; omega) rfl rfl (by rw [hi]; simpa [AV.cells] using hel)
 refine R.2 _ (fun _ _ => rfl) (fun _ _ => rfl) a w Q K fr (fun a' w' hst' => hK a' w' ?_)
 obtain ⟨γ, hs⟩ := hst'
 rw [hdst] at hs ⊢
 have dq : γ q = some none := by
  have := hs.me q
  rw [AS.find_upd] at this
  have e : lkE [(id, Ent.row ty sz (xs.set k el'))] q = none := by
   simp only [lkE]
   cases hb : Nat.beq id q with
   | true => exact absurd (Nat.eq_of_beq_eq_true hb) hne
   | false => rfl
  rw [e, Option.none_or, fndq] at this
  obtain ⟨d, hd, he⟩ := this
  have he : d = none := he
  rw [hd, he]
 refine ⟨γ, fun u => ?_, fun j => ?_, hs.inj, hs.ge, hs.below, hs.size, hs.defers, hs.gh, hs.fr, hs.dr⟩
 ·rw [AS.get_upd, if_neg (by simp)]
  have hv := hs.tm u
  rw [AS.get_upd, if_neg (by simp)] at hv
  by_cases hu : t = u
  ·subst hu
   rw [ty']
   exact .row dq (fun g s e _ => by cases e)
  ·have e : (τ.freeze t q s2 ys).get u = τ.get u := by
    unfold AS.freeze AS.get
    simp only [lkV]
    cases hb : Nat.beq t u with
    | true => exact absurd (Nat.eq_of_beq_eq_true hb) hu
    | false => rfl
   rw [e] at hv
   exact hv
 ·have hm := hs.me j
  rw [AS.find_upd] at hm ⊢
  simp only [lkE] at hm ⊢
  cases hb : Nat.beq id j with
  | true => rw [hb] at hm; exact hm
  | false =>
    rw [hb] at hm
    simp only [Option.none_or] at hm ⊢
    cases hb2 : Nat.beq q j with
    | true => 
      have := Nat.eq_of_beq_eq_true hb2
      subst this
      exact ⟨none, dq, rfl⟩
    | false =>
      simp only [Option.none_or]
      rw [fnd j (fun e => by subst e; simp at hb2)] at hm
      exact hm
theorem r_nilCheck_ref {x : Operand} {cs : List AV} (ho : o.op = .nilCheck x) (hd : dok cx o = true) (hxo : z0o x = true) (hx : σ.eval x = .ref cs) : z0u cx o σ (.ref cs) [] [] :=
 z0z hd fun τ γ a w h1 h2 hst => by
  have ex := hst.ev x hxo
  rw [h1 x (by simp [ho, Op.operands]), hx] at ex
  obtain ⟨b, off, hv, _⟩ := ex.ref_inv
  refine ⟨a.eval x, by simp only [execOp, ho, hv, Sem.run_pure], ex⟩
theorem r_nilCheck_ptr {x : Operand} {id off ty : Nat} {cs : List AV} (ho : o.op = .nilCheck x) (hd : dok cx o = true) (hxo : z0o x = true) (hx : σ.eval x = .ptr id off) (hl : σ.find id = some (.box ty cs)) : z0u cx o σ (.ptr id off) [id] [] :=
 z0z hd fun τ γ a w h1 h2 hst => by
  have ex := hst.ev x hxo
  rw [h1 x (by simp [ho, Op.operands]), hx] at ex
  have hme := hst.me id
  rw [h2 id (by simp), hl] at hme
  obtain ⟨d, hd', g, vs, hde, _⟩ := hme
  subst hde
  have hv := ex.ptr_inv hd'
  refine ⟨a.eval x, by simp only [execOp, ho, hv, Sem.run_pure], ex⟩
end
section
variable {α β κ ν : Type} {E : Env} {nt : Nat} {o : Oper} {σ : AS} {K : OpK}
theorem OpX.nckR {x : Operand} {cs : List AV} (ho : o.op = .nilCheck x) (hd : dokN E nt o.dst = true) (hxo : z0o x = true) (hx : σ.eval x = .ref cs) (hk : K (.ref cs) [] []) : OpX E nt o σ K := .mk _ _ _ (fun cx hE hnt => r_nilCheck_ref ho (z0y hd hE hnt) hxo hx) hk
theorem OpX.nckP {x : Operand} {id off ty : Nat} {cs : List AV} (ho : o.op = .nilCheck x) (hd : dokN E nt o.dst = true) (hxo : z0o x = true) (hx : σ.eval x = .ptr id off) (hl : σ.find id = some (.box ty cs)) (hk : K (.ptr id off) [id] []) : OpX E nt o σ K := .mk _ _ _ (fun cx hE hnt => r_nilCheck_ptr ho (z0y hd hE hnt) hxo hx hl) hk
theorem OpX.str {ε : Type} (er : ε → AV) {l : List (List ε)} {m : Nat} {v : List ε} {k : List (List ε) → Option β} {r : β} {T t id q ty ety sz : Nat} {x : Operand} {i : TyI} (hF : stx l m (fun _ => v) k = some r) (ho : o.op = .store T x (.tmp t)) (hdst : o.dst = none) (hd : dokN E nt o.dst = true) (hxo : z0o x = true) (hx : σ.eval x = .elt id 1 m 0) (hy : σ.get t = .row q) (hT : lkT E.tab T = some i) (hi : i.sz = 1)
  (hl : σ.find id = some (.row ty 1 (l.map fun q => .sl sz (q.map er)))) (hq : σ.find q = some (.row ety sz (v.map er))) (hne : Nat.beq id q = false) (hk : ∀ l', k l' = some r → K (.tup []) [id, q] [(id, .row ty 1 (l'.map fun q => .sl sz (q.map er))), (q, .dead)]) : OpX E nt o σ K := by
 unfold stx at hF
 split at hF
 ·rename_i y hy'
  refine .mk _ _ _ (fun cx hE hnt => ?_) (hk _ hF)
  have h := r_store_row (cx := cx) (el' := .sl sz (v.map er)) ho (z0y hd hE hnt) hdst hxo hx hy (by rw [hE]; exact hT) hi hl hq (nbne hne) (by rw [List.getElem?_map, hy']; rfl) (Nat.le_refl _) rfl
  rw [List.map_set]
  exact h
 ·cases hF
def mgv [DecidableEq κ] (l : List (κ × ν)) (k : κ) (z : ν) (c : ν → Bool → Option β) : Option β := c ((mlk l k).getD z) (mlk l k).isSome
theorem OpX.lkv [DecidableEq κ] (ek : κ → AV) (er : ν → AV) {l : List (κ × ν)} {k : κ} {z : ν} {ok : Bool} {c : ν → Bool → Option β} {r : β} {T kt et : Nat} {x y : Operand} {i ie : TyI} (hF : mgv l k z c = some r) (heq : ∀ a b, eqK (ek a) (ek b) = some (decide (a = b))) (ho : o.op = .lookup T x y ok) (hd : dokN E nt o.dst = true) (hxo : z0o x = true) (hyo : z0o y = true) (hx : σ.eval x = .mapv (l.map (encM ek er))) (hy : σ.eval y = ek k)
  (hT : lkT E.tab T = some i) (hs : i.shape = .map kt et) (he : lkT E.tab et = some ie) (hzo : zh2 ie.zero.cells.toList = true) (hkf : z9u E.P kt (ek k) = true) (hz : Sub (zln ie.zero) (er z)) (hk : ∀ v b, c v b = some r → K (lkRes (er v) b ok) [] []) : OpX E nt o σ K := by
 have h := LkX.o (P := E.P) (kt := kt) (zA := zln ie.zero) (K := fun av b => K (lkRes av b ok) [] []) ek er (show mgt l k z c = some r by unfold mgv at hF; unfold mgt; exact hF) hkf heq hz (fun v b hc => hk v b hc)
 cases h with
 | mk q av b hk' hf hb hsu hc =>
   subst hb
   exact .mk _ _ _ (fun cx hE hnt => r_lookup_v (ok := ok) ho (z0y hd hE hnt) hxo hyo hx hy (by rw [hE]; exact hT) hs (by rw [hE]; exact he) (zq4 hzo) (by rw [show cx.P = E.P by rw [← hE]]; exact hk') hf hsu) hc
theorem findK_up (k : AV) : ∀ (l : List AV) (i : Nat), zci k l (i + 1) = (zci k l i).map (·.map (· + 1))
 | [], i => rfl
 | a :: l, i => by
   simp only [zci]
   cases eqK k a with
   | none => rfl
   | some b => cases b with
     | true => rfl
     | false => exact findK_up k l (i + 1)
def LkC (n : Int) (z : AV) (qs : List (AV × AV)) (K : AV → Prop) : Prop := ∃ r av, zci (.int .i64 n) (qs.map (·.1)) 0 = some r ∧ Sub (lkVal z qs r) av ∧ K av
theorem LkC.cons {n : Int} {z v : AV} {k : Nat} {qs : List (AV × AV)} {K : AV → Prop} {x y : Option β} {r : β} (h : natc n k x y = some r) (h0 : x = some r → K v) (h1 : y = some r → LkC n z qs K) : LkC n z ((.int .i64 (k : Int), v) :: qs) K := by
 rw [natc_eq] at h
 split at h
 ·rename_i e
  refine ⟨some 0, v, ?_, .refl _, h0 h⟩
  simp only [List.map_cons, zci, eqK, eq1, e]
  simp
 ·rename_i e
  obtain ⟨q, av, g1, g2, g3⟩ := h1 h
  refine ⟨q.map (· + 1), av, ?_, ?_, g3⟩
  ·simp only [List.map_cons, zci, eqK, eq1]
   rw [decide_eq_false e]
   simp only [findK_up, g1, Option.map_some]
   rfl
  ·cases q with
   | none => exact g2
   | some j => exact g2
theorem OpX.lkc {qs : List (AV × AV)} {n : Int} {T kt et : Nat} {x y : Operand} {i ie : TyI} (ho : o.op = .lookup T x y false) (hx : σ.eval x = .mapv qs) (hd : dokN E nt o.dst = true) (hxo : z0o x = true) (hyo : z0o y = true) (hy : σ.eval y = .int .i64 n)
  (hT : lkT E.tab T = some i) (hs : i.shape = .map kt et) (he : lkT E.tab et = some ie) (hzo : zh2 ie.zero.cells.toList = true) (hkf : z9u E.P kt (.int .i64 n) = true) (hk : LkC n (zln ie.zero) qs fun av => K av [] []) : OpX E nt o σ K := by
 obtain ⟨r, av, g1, g2, g3⟩ := hk
 exact .mk _ _ _ (fun cx hE hnt => r_lookup_v (ok := false) ho (z0y hd hE hnt) hxo hyo hx hy (by rw [hE]; exact hT) hs (by rw [hE]; exact he) (zq4 hzo) (by rw [show cx.P = E.P by rw [← hE]]; exact hkf) g1 g2) g3
end
def isPtr0 : AV → Bool
 | .ptr _ 0 => true
 | _ => false
def frb {β : Type} (r : Nat) (x : Option β) : Option β := x
section
variable {β : Type} {E : Env} {nt : Nat}
theorem LeX.frb {σ : AS} {ty : Nat} {cs : List AV} (r : Nat) (hr : σ.find r = some (.box ty cs)) (hc : AV.closedL cs = true) : LeX E nt σ (σ.rpAll r isPtr0 (.ref cs) .dead) := by
 refine LeX.rpAll r isPtr0 _ _ _ hr (fun ty cs h => by cases h) (fun cx γ a w d hst hd he => ?_)
 obtain ⟨g, vs, hde, hb, hsz, hrr, hone⟩ := he
 subst hde
 refine ⟨none, (fun b hb => by cases hb), fun S' hS hS2 => ⟨rfl, fun γ' x v hγ' hsrc hx hv => ?_⟩⟩
 have hx' : x = .ptr r 0 := by
  cases x with
  | ptr i off => cases off with
    | zero => simp only [AV.leafId, Option.some.injEq] at hx; rw [hx]
    | succ n => simp [isPtr0] at hsrc
  | _ => simp [isPtr0] at hsrc
 subst hx'
 have hv' : v = .pointer (some ⟨g, 0, none⟩) := by
  cases hv with
  | ptr h hv => rw [hd] at h; injection h with h; exact hv _ _ h.symm
 subst hv'
 refine .ref g 0 (fun j => vs.getD j undef) (hS2 g z4p (fun h => by cases h)) hb.lt (fun j hj => by rw [Nat.zero_add]; exact zj0 hb j (by omega)) (fun j hj => ?_) (fun j hj => hone j (by omega))
 exact ((hrr j hj).close (AV.closedL_at hc j hj)).mono (Nat.le_refl _) (fun b hb _ => ⟨rfl, hS b hb⟩)
variable {R : Exit → AS → Prop} {K : List z16}
theorem AW.frb0 {ty : Nat} {cs : List AV} {c : Code} {σ : AS} (r : Nat) (hr : σ.find r = some (.box ty cs)) (hc : AV.closedL cs = true) (k : AW E nt R (.code c :: K) .normal (σ.rpAll r isPtr0 (.ref cs) .dead)) : AW E nt R (.code c :: K) .normal σ := AW.weaken (LeX.frb r hr hc) k
theorem AW.frbO {id ty : Nat} {cs : List AV} {c : Code} {σ : AS} {x : Option β} {y : β} (h : Proofs.YtjpknpjjcddnnaaGreat.frb id x = some y) (r : Nat) (hr : σ.find r = some (.box ty cs)) (hc : AV.closedL cs = true) (k : x = some y → AW E nt R (.code c :: K) .normal (σ.rpAll r isPtr0 (.ref cs) .dead)) : AW E nt R (.code c :: K) .normal σ := AW.weaken (LeX.frb r hr hc) (k h)
end
section
variable {α β : Type} {E : Env} {nt : Nat} {o : Oper} {σ : AS} {K : OpK}
theorem OpX.bldR {l : List α} {k : List α → Option β} {r : β} (enc : α → AV) {T n d e esz eb : Nat} {ps : Array (Nat × Operand)} {i ie : TyI} {fl xs : List AV} {ag : Bool} (hF : Proofs.YtjpknpjjcddnnaaGreat.bld l k = some r) (ho : o.op = .buildSlice T n ps) (hdst : o.dst = some d) (hd : dokN E nt o.dst = true) (hT : lkT E.tab T = some i) (hs : i.shape = .slc e esz eb) (he : lkT E.tab e = some ie) (hz : Nat.beq esz 0 = false) (hn : Nat.ble (n * esz) 16777216 = true)
  (hze : zh2 ie.zero.cells.toList = true) (hz0 : Nat.blt 0 ie.zero.cells.size = true) (hok : zin σ ps = true) (hag : ie.shape.agg = ag) (hf : zo8 (fun j => some (j * esz, esz)) (List.replicate (n * esz) .any) (zcu σ ps) = some fl) (hxs : zn8 ag esz n fl = xs) (hc : (ag || (Nat.beq esz 1 && fl.all notAgg)) = true) (hcl : AV.closedL xs = true) (hsub : SubR xs (l.map enc))
  (hnn : σ.find d = none) (hk : ∀ l', k l' = some r → K (.row d) (d :: zio (zcu σ ps)) [(d, .row e esz (l'.map enc))]) : OpX E nt o σ K := by
 have hlen := zo7 _ _ _ _ hf
 rw [List.length_replicate] at hlen
 simp only [Bool.or_eq_true, Bool.and_eq_true] at hc
 obtain ⟨c1, c2, c3⟩ := chunks_flat ag esz _ fl hlen (hc.imp id (fun ⟨h1, h2⟩ => ⟨nbeq h1, h2⟩))
 subst hxs
 refine .mk _ _ _ (fun cx hE hnt => z0u.weak (.cons _ (.row _ _ hsub) .nil) (zn5 ho hdst (z0y hd hE hnt) (by rw [hE]; exact hT) hs (by rw [hE]; exact he) (nbne hz) hn (z9i hze) hz0 hok hcl c2 (by simp only [List.all_eq_true]; intro x hx; rw [c3 x hx]; simp) (by rw [c1]; exact hf) hnn)) (hk l hF)
def bndM (t : Nat) (o : Option α) (k : α → Option β) : Option β := bnd o k
theorem z3n (t : Nat) {o : Option α} {k : α → Option β} {r : β} (h : bndM t o k = some r) : bnd o k = some r := h
theorem bndM_some (t : Nat) (a : α) (k : α → Option β) : bndM t (some a) k = k a := by unfold bndM bnd; rfl
end
section
variable {α β γ : Type} {E : Env} {nt : Nat} {f : FuncId} {avs : List AV}
def bndP (o : Option α) (rl : α → Option γ) (kN : α → Option β) (kS : α → γ → Option β) : Option β := match o with | some a => (match rl a with | some q => kS a q | none => kN a) | none => none
theorem z0p.oP {o : Option α} {rl : α → Option γ} {kN : α → Option β} {kS : α → γ → Option β} {r : β} {fr : Bool} {K : AV → Prop} {R : Nat → Nat → List AV → AV → Prop} {find : Nat → Option Ent} {KR : AV → List Nat → List (Nat × Ent) → Prop} (h : bndP o rl kN kS = some r) (enc : α → AV) (encN : α → AV) (encS : α → γ → AV) (hN : ∀ a, rl a = none → enc a = encN a) (hS : ∀ a q, rl a = some q → enc a = encS a q) (hc : ∀ a, o = some a → Con E fr f avs (enc a)) (hk : ∀ a, kN a = some r → K (encN a)) (hk' : ∀ a q, kS a q = some r → K (encS a q)) : z0p E f avs K R find KR := by
 unfold bndP at h
 split at h
 ·rename_i a
  split at h
  ·rename_i q hq
   exact .mk fr _ (hc _ rfl) (by rw [hS _ _ hq]; exact hk' _ _ h)
  ·rename_i hq
   exact .mk fr _ (hc _ rfl) (by rw [hN _ hq]; exact hk _ h)
 ·cases h
end
attribute [irreducible] mgv bndP frb bndM
end Go.Proofs.YtjpknpjjcddnnaaGreat
namespace Go.Proofs.YtjpknpjjcddnnaaGreat
open Go.RowKit
section
variable {α β : Type}
theorem cnd_t (x y : Option β) : cnd true x y = x := by unfold cnd; rfl
theorem cnd_f (x y : Option β) : cnd false x y = y := by unfold cnd; rfl
theorem z6o (p : Prop) [Decidable p] (x y : Option β) : cnd (decide p) x y = if p then x else y := by
 by_cases h : p <;> simp [h, cnd_t, cnd_f]
theorem zb6 (b : Bool) (x y : Option β) : cnd (!b) x y = cnd b y x := by cases b <;> simp [cnd_t, cnd_f]
theorem cnd_b (b : Bool) (x y : Option β) : cnd b x y = if b = true then x else y := by cases b <;> simp [cnd_t, cnd_f]
theorem z1y (a : α) (k : α → Option β) : bnd (some a) k = k a := by unfold bnd; rfl
theorem bndR_some (a : α) (k : α → Option β) : bndR (some a) k = k a := by unfold bndR; rfl
theorem bndC_some (a : α) (k : α → Option β) : bndC (some a) k = k a := by unfold bndC; rfl
theorem reg_eq (x : Option β) : reg x = x := by unfold reg; rfl
theorem za0 {l : List α} {i : Nat} (h : i < l.length) (k : α → Option β) : idx l (i : Int) k = k l[i] := by
 unfold idx
 simp [h]
theorem nat_nat {i len : Nat} (h : i < len) (k : Nat → Option β) : nat (i : Int) len k = k i := by
 unfold nat
 simp [h]
theorem elt_ok {l : List α} {m : Nat} (h : m < l.length) (k : α → Option β) : elt l m k = k l[m] := by unfold elt; simp [h]
theorem stx_ok {l : List α} {m : Nat} (h : m < l.length) (f : α → α) (k : List α → Option β) : stx l m f k = k (l.set m (f l[m])) := by unfold stx; simp [h]
theorem app_ok {l m : List α} {bytes : Nat} (h : l.length + m.length ≤ 1000000000) (hb : bytes ≤ 100000) (k : List α → Option β) : app l m bytes k = k (l ++ m) := by
 unfold app
 have h2 := Nat.mul_le_mul h hb
 rw [if_pos ⟨by omega, by omega⟩]
theorem sls_ok {l : List α} {a b : Nat} (h1 : a ≤ b) (h2 : b ≤ l.length) (k : List α → Option β) : sls l (a : Int) (b : Int) k = k ((l.take b).drop a) := by
 unfold sls
 rw [if_pos (by omega)]
 simp
theorem wrapS (k : Nat) (h : k ≤ 1000000000000) : IntKind.wrap .i64 ((k : Int) + 1) = ((k + 1 : Nat) : Int) := by rw [wrap_in _ (by omega)]; omega
end
end Go.Proofs.YtjpknpjjcddnnaaGreat
