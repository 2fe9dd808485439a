/- The abstract walk: a container is given up: what it holds is from here on like any other. Forms of terms: parts of own rows, clear, maps that hold own rows. The abstract walk: functions walked for contracts that say what becomes of memory that is given. The abstract walk: a range over a function: the statement, its rounds, and the function that holds it. The abstract walk: the rounds of a range over a function. Forms of terms: calls of closures with boxes, yields, ranges over functions. What some functions compute, over plain values. Printed by a program of mine (gen_fun.lean). Layer 5, plain: placed events, equality, Few, Same, Check. -/
import Derived.Test.YtkbopbgcjfcjjaaK07
import Derived.Test.YtkbopbgcjfcjjaaK08
set_option linter.unusedVariables false
set_option linter.unusedSimpArgs false
set_option maxRecDepth 100000
set_option maxHeartbeats 8000000
namespace Go.Proofs.Ytkbopbgcjfcjjaa
open Go.RowKit

def AV.leafId : AV → Option Nat
  | .row i => some i
  | .ptr i _ => some i
  | .elt i _ _ _ => some i
  | .der _ i => some i
  | _ => none
def isCon : AV → Bool
  | .der .con _ => true
  | _ => false
def AV.rp0 (r : Nat) (src : AV → Bool) (tgt x : AV) : AV := match x.leafId with
  | some i => match Nat.beq i r with
    | true => match src x with
      | true => tgt
      | false => .any
    | false => x
  | none => x
mutual
def AV.rp (r : Nat) (src : AV → Bool) (tgt : AV) : AV → AV
  | .fn f cap => .fn f (AV.rpL r src tgt cap)
  | .yld l T cap => .yld l T (AV.rpL r src tgt cap)
  | .agg cs => .agg (AV.rpL r src tgt cs)
  | .tup cs => .tup (AV.rpL r src tgt cs)
  | x => AV.rp0 r src tgt x
def AV.rpL (r : Nat) (src : AV → Bool) (tgt : AV) : List AV → List AV
  | [] => []
  | x :: l => AV.rp r src tgt x :: AV.rpL r src tgt l
end
section
variable {r : Nat} {src : AV → Bool} {tgt : AV}
theorem AV.rpL_length (l : List AV) : (AV.rpL r src tgt l).length = l.length := by
  induction l with
  | nil => rfl
  | cons x l ih => simp [AV.rpL, ih]
theorem AV.rpL_at (l : List AV) (i : Nat) (hi : i < l.length) : (AV.rpL r src tgt l)[i]'(by rw [AV.rpL_length]; exact hi) = AV.rp r src tgt l[i] := by
  induction l generalizing i with
  | nil => simp at hi
  | cons x l ih =>
    cases i with
    | zero => rfl
    | succ i => exact ih i (by simpa using hi)
theorem Rep.rp {w : World} {S : Nat → Prop} {γ γ' : Gam} (hγ : ∀ i x, i ≠ r → γ i = some x → γ' i = some x) (ht : ∀ x v, src x = true → x.leafId = some r → Rep w S γ x v → Rep w S γ' tgt v) {av : AV} {v : Value} (h : Rep w S γ av v) : Rep w S γ' (AV.rp r src tgt av) v := by
  have leaf : ∀ {x : AV} {v : Value} {i : Nat}, x.leafId = some i → Rep w S γ x v → (∀ h : i ≠ r, Rep w S γ' x v) → Rep w S γ' (AV.rp0 r src tgt x) v := fun {x v i} hx h ho => by
    simp only [AV.rp0, hx]
    cases hb : Nat.beq i r with
    | true =>
      have := Nat.eq_of_beq_eq_true hb
      subst this
      simp only
      cases hs : src x with
      | true => exact ht x v hs hx h
      | false => exact .any _
    | false => exact ho (Nat.ne_of_beq_eq_false hb)
  induction h with
  | any => exact .any _
  | int => exact .int _ _
  | bool => exact .bool _
  | str => exact .str _
  | nilp => exact .nilp
  | nils => exact .nils
  | nilf => exact .nilf
  | @ptr γ id off v d' h hv => exact leaf rfl (.ptr h hv) (fun hi => .ptr (hγ _ _ hi h) hv)
  | @elt γ id sz k j v d' h hv => exact leaf rfl (.elt h hv) (fun hi => .elt (hγ _ _ hi h) hv)
  | @der γ φ id v d' h hv => exact leaf rfl (.der h hv) (fun hi => .der (hγ _ _ hi h) hv)
  | @row γ id v d' h hv => exact leaf rfl (.row h hv) (fun hi => .row (hγ _ _ hi h) hv)
  | mapv g es clock hS hg hh hl hk hv ih1 ih2 => exact .mapv g es clock hS hg hh hl hk hv
  | slen A n c => exact .slen A n c
  | sl A c cell hc hlen hb hr2 h1 ih => exact .sl A c cell hc hlen hb hr2 h1
  | ref b off cell hS hb hc hr2 h1 ih => exact .ref b off cell hS hb hc hr2 h1
  | fn vs hl hrr ih =>
    exact .fn vs (by rw [hl, AV.rpL_length]) (fun i hi' => by
      have hi2 := hi'
      rw [AV.rpL_length] at hi2
      rw [AV.rpL_at _ i hi2]
      exact ih i hi2 hγ ht leaf)
  | yld hrr ih =>
    exact .yld (fun i hi' => by
      have hi2 := hi'
      rw [AV.rpL_length] at hi2
      rw [AV.rpL_at _ i hi2]
      exact ih i hi2 hγ ht leaf)
  | agg vs hl hrr h1 ih =>
    exact .agg vs (by rw [hl, AV.rpL_length]) (fun i hi' => by
      have hi2 := hi'
      rw [AV.rpL_length] at hi2
      rw [AV.rpL_at _ i hi2]
      exact ih i hi2 hγ ht leaf) h1
  | tup vs hl hrr ih =>
    exact .tup vs (by rw [hl, AV.rpL_length]) (fun i hi' => by
      have hi2 := hi'
      rw [AV.rpL_length] at hi2
      rw [AV.rpL_at _ i hi2]
      exact ih i hi2 hγ ht leaf)
end
def Ent.rp (r : Nat) (src : AV → Bool) (tgt : AV) : Ent → Ent
  | .box ty cs => .box ty (AV.rpL r src tgt cs)
  | e => e
def AS.rpAll (σ : AS) (r : Nat) (src : AV → Bool) (tgt : AV) (e : Ent) : AS := ⟨σ.tm.map fun p => (p.1, AV.rp r src tgt p.2), (r, e) :: σ.me.map fun p => (p.1, p.2.rp r src tgt)⟩
theorem EntRep.free {w : World} {S : Nat → Prop} {γ γ' : Gam} {B : Nat} {d : Option (Option Nat × Value)} {e : Ent} (h : EntRep w S γ B d e) (hb : ∀ ty cs, e ≠ .box ty cs) : EntRep w S γ' B d e := by
  cases e with
  | box ty cs => exact absurd rfl (hb ty cs)
  | _ => exact h
theorem LeX.rpAll {E : Env} {nt : Nat} {σ : AS} (r : Nat) (src : AV → Bool) (tgt : AV) (e e' : Ent) (hr : σ.find r = some e) (he' : ∀ ty cs, e' ≠ .box ty cs)
    (H : ∀ (cx : Cx) (γ : Gam) (a : Act) (w : World) (d : Option (Option Nat × Value)), StG cx γ σ a w → γ r = some d → EntRep w (Sg cx.S0 cx.w0.heap.size γ) γ cx.w0.heap.size d e → ∃ d', (∀ b, b ∈ blks d' → b ∈ blks d) ∧ ∀ S' : Nat → Prop, (∀ b, Sg cx.S0 cx.w0.heap.size γ b → S' b) → (∀ b, b ∈ blks d → b ∉ blks d' → S' b) →
      EntRep w S' G0 cx.w0.heap.size d' e' ∧ ∀ γ' x v, γ' r = some d' → src x = true → x.leafId = some r → Rep w S' γ x v → Rep w S' γ' tgt v) : LeX E nt σ (σ.rpAll r src tgt e') := fun cx hE hn a w ⟨γ, h⟩ => by
  have hme := h.me r
  rw [hr] at hme
  obtain ⟨d, hd, he⟩ := hme
  obtain ⟨d', hsub, H⟩ := H cx γ a w d h hd he
  have hown : ∀ b, own (γ.set r d') b → own γ b := fun b ⟨i, s, hi, hm⟩ => by
    by_cases hir : i = r
    · subst hir; rw [Gam.set_self] at hi; injection hi with hi; subst hi; exact ⟨_, _, hd, hsub b hm⟩
    · rw [Gam.set_ne _ _ _ hir] at hi; exact ⟨i, s, hi, hm⟩
  have hS : ∀ b, Sg cx.S0 cx.w0.heap.size γ b → Sg cx.S0 cx.w0.heap.size (γ.set r d') b := fun b hb => hb.elim Or.inl (fun ⟨h1, h2⟩ => Or.inr ⟨h1, fun ho => h2 (hown b ho)⟩)
  obtain ⟨H1, H2⟩ := H (Sg cx.S0 cx.w0.heap.size (γ.set r d')) hS (fun b hb hb' => Or.inr ⟨(h.ge b ⟨_, _, hd, hb⟩).1, fun ⟨i, s, hi, hm⟩ => by
    by_cases hir : i = r
    · subst hir; rw [Gam.set_self] at hi; injection hi with hi; subst hi; exact hb' hm
    · rw [Gam.set_ne _ _ _ hir] at hi; exact hir (h.inj _ _ _ _ _ hi hd hm hb)⟩)
  have mv : ∀ {av v}, Rep w (Sg cx.S0 cx.w0.heap.size γ) γ av v → Rep w (Sg cx.S0 cx.w0.heap.size (γ.set r d')) (γ.set r d') (AV.rp r src tgt av) v := fun hv =>
    (hv.mono (Nat.le_refl _) (fun b hb _ => ⟨rfl, hS b hb⟩)).rp (src := src) (fun i x hi hx => by rw [Gam.set_ne _ _ _ hi]; exact hx) (fun x v hs hl hx => H2 _ x v (Gam.set_self _ _ _) hs hl hx)
  refine ⟨γ.set r d', fun u => ?_, fun i => ?_, fun i j b s s' hi hj mi mj => ?_, fun b hb => h.ge b (hown b hb), h.below, h.size, h.defers.gam hown, h.gh, fun b hb => by obtain ⟨f2, f3, f4⟩ := h.fr b hb; exact ⟨fun ho => f2 (hown b ho), f3, f4⟩, h.dr⟩
  · have e : (σ.rpAll r src tgt e').get u = AV.rp r src tgt (σ.get u) := lkV_map _ rfl _ _
    rw [e]
    exact mv (h.tm u)
  · by_cases hi : r = i
    · subst hi
      have e : (σ.rpAll r src tgt e').find r = some e' := by simp [AS.rpAll, AS.find, lkE]
      rw [e]
      exact ⟨d', Gam.set_self _ _ _, H1.free he'⟩
    · have e : (σ.rpAll r src tgt e').find i = (σ.find i).map (Ent.rp r src tgt) := by
        unfold AS.rpAll AS.find
        simp only [lkE]
        cases hb : Nat.beq r i with
        | true => exact absurd (Nat.eq_of_beq_eq_true hb) hi
        | false => exact lkE_map _ _ _
      rw [e, Gam.set_ne _ _ _ (Ne.symm hi)]
      have := h.me i
      cases hf : σ.find i with
      | none => rw [hf] at this; exact this
      | some en =>
        rw [hf] at this
        obtain ⟨x, hx, he⟩ := this
        have heq : ∀ en : Ent, (∀ ty cs, en ≠ .box ty cs) → EntRep w (Sg cx.S0 cx.w0.heap.size γ) γ cx.w0.heap.size x en → EntRep w (Sg cx.S0 cx.w0.heap.size (γ.set r d')) (γ.set r d') cx.w0.heap.size x en := fun en hb he =>
          (he.move (γ' := γ) (Nat.le_refl _) (fun b hb _ => ⟨rfl, hS b hb⟩) (fun id d h => Or.inl h) (fun _ _ => rfl)).free hb
        cases en with
        | box ty cs =>
          obtain ⟨g, vs, h1, h2, h3, h4, h5⟩ := he
          exact ⟨x, hx, g, vs, h1, h2, by rw [h3, AV.rpL_length], fun i hi => by
            have hi2 := hi
            rw [AV.rpL_length] at hi2
            rw [AV.rpL_at _ i hi2]
            exact mv (h4 i hi2), h5⟩
        | _ => exact ⟨x, hx, heq _ (fun ty cs h => by cases h) he⟩
  · by_cases hir : i = r
    · by_cases hjr : j = r
      · rw [hir, hjr]
      · subst hir
        rw [Gam.set_self] at hi
        injection hi with hi
        subst hi
        rw [Gam.set_ne _ _ _ hjr] at hj
        exact h.inj _ _ _ _ _ hd hj (hsub b mi) mj
    · rw [Gam.set_ne _ _ _ hir] at hi
      by_cases hjr : j = r
      · subst hjr
        rw [Gam.set_self] at hj
        injection hj with hj
        subst hj
        exact h.inj _ _ _ _ _ hi hd mi (hsub b mj)
      · rw [Gam.set_ne _ _ _ hjr] at hj
        exact h.inj _ _ _ _ _ hi hj mi mj
end Go.Proofs.Ytkbopbgcjfcjjaa
namespace Go.Proofs.Ytkbopbgcjfcjjaa
open Go.RowKit

section
variable {α β κ ν : Type}
def nle (n : Int) (len : Nat) (k : Nat → Option β) : Option β := if 0 ≤ n ∧ n.toNat ≤ len then k n.toNat else none
def gle (a b : Nat) (x : Option β) : Option β := if a ≤ b then x else none
def clr (l : List α) (lo : Nat) (z : α) (k : List α → Option β) : Option β := if lo ≤ l.length then k (clrL l lo z) else none
def rget [DecidableEq κ] (l : List (κ × List ν)) (k : κ) : List ν := (mlk l k).getD []
def men [DecidableEq κ] (l : List (κ × List ν)) (k : κ) (c : List ν → Option β) : Option β := c (rget l k)
def lkn [DecidableEq κ] (l : List (κ × List ν)) (k : κ) (c : Option β) : Option β := c
def mes [DecidableEq κ] (l : List (κ × List ν)) (k : κ) (v : List ν) (c : List (κ × List ν) → Option β) : Option β := c (mput l k v)
def frn (r : Nat) (x : Option β) : Option β := x
def kpos [DecidableEq κ] : List (κ × List ν) → κ → Nat
  | [], _ => 0
  | (a, _) :: r, k => if k = a then 0 else kpos r k + 1
def encN (ek : κ → AV) (er : ν → AV) (ty sz : Nat) (p : κ × List ν) : AV × NE := (ek p.1, .row ty sz (p.2.map er))
def holeN [DecidableEq κ] (ek : κ → AV) (er : ν → AV) (ty sz : Nat) (l : List (κ × List ν)) (k : κ) : List (AV × NE) := ((mput l k []).map (encN ek er ty sz)).set (kpos l k) (ek k, .hole)
theorem findK_n [DecidableEq κ] (ek : κ → AV) (he : ∀ a b, eqK (ek a) (ek b) = some (decide (a = b))) (k : κ) : ∀ (l : List (κ × List ν)) (i : Nat),
    ∃ r, findK (ek k) (l.map fun p => ek p.1) i = some r ∧ (r = none → mlk l k = none ∧ kpos l k = l.length ∧ ∀ v, mput l k v = l ++ [(k, v)]) ∧
      ∀ j, r = some j → i ≤ j ∧ j - i < l.length ∧ kpos l k = j - i ∧ ∃ v, mlk l k = some v ∧ l[j - i]? = some (k, v) ∧ ∀ v', mput l k v' = l.set (j - i) (k, v')
  | [], i => ⟨none, rfl, fun _ => ⟨rfl, rfl, fun v => rfl⟩, fun j h => by cases h⟩
  | (a, v) :: r, i => by
    simp only [List.map_cons, findK, he, mlk, mput, kpos]
    by_cases hk : k = a
    · subst hk
      simp only [decide_true]
      refine ⟨some i, rfl, (fun h => by cases h), fun j hj => ?_⟩
      injection hj with hj
      subst hj
      refine ⟨Nat.le_refl _, by simp, by simp, v, by simp, by simp, fun v' => by simp⟩
    · rw [decide_eq_false hk]
      obtain ⟨q, h1, h2, h3⟩ := findK_n ek he k r (i + 1)
      refine ⟨q, h1, fun hq => ?_, fun j hj => ?_⟩
      · obtain ⟨g1, g2, g3⟩ := h2 hq
        simp only [if_neg hk, g1, g2, g3, List.length_cons, List.cons_append]
        simp
      · obtain ⟨g1, g2, g3, v', g4, g5, g6⟩ := h3 j hj
        have e : j - i = (j - (i + 1)) + 1 := by omega
        refine ⟨by omega, by simp; omega, by rw [if_neg hk, g3, e], v', by rw [if_neg hk]; exact g4, by rw [e, List.getElem?_cons_succ]; exact g5, fun v'' => by rw [if_neg hk, g6, e, List.set_cons_succ]⟩
end
section
variable {α β κ ν : Type} {E : Env} {nt : Nat} {o : Oper} {σ : AS} {K : OpK}
theorem OpX.sub {n : Int} {k : Nat → Option β} {r : β} {T id e esz eb ty : Nat} {x y : Operand} {i : TyI} {kd : IntKind} {xs : List AV} (hF : nle n xs.length k = some r) (ho : o.op = .slice T x (some y) none none) (hd : dokN E nt o.dst = true) (hxo : opdOk x = true) (hyo : opdOk y = true) (hx : σ.eval x = .row id) (hy : σ.eval y = .int kd n)
    (hT : lkT E.tab T = some i) (hs : i.shape = .slc e esz eb) (hz : Nat.beq esz 0 = false) (hl : σ.find id = some (.row ty esz xs)) (hk : ∀ m, k m = some r → K (.der (.sub esz m) id) [id] []) : OpX E nt o σ K := by
  unfold nle at hF
  split at hF
  · rename_i hn
    exact .mk _ _ _ (fun cx hE hnt => r_slice_sub (lo := n.toNat) ho (dok_of hd hE hnt) hxo hyo hx (by rw [hy]; congr 1; omega) (by rw [hE]; exact hT) hs (nbne hz) hl hn.2) (hk _ hF)
  · cases hF
theorem OpX.clr (enc : α → AV) {l : List α} {lo : Nat} {z : α} {k : List α → Option β} {r : β} {T id e esz eb : Nat} {x : Operand} {i ie : TyI} (hF : Proofs.Ytkbopbgcjfcjjaa.clr l lo z k = some r) (ho : o.op = .call { callee := .builtin .clear, args := #[x], argTypes := #[T] }) (hd : dokN E nt o.dst = true) (hxo : opdOk x = true) (hx : σ.eval x = .der (.sub esz lo) id) (hl : σ.find id = some (.row e esz (l.map enc)))
    (hT : lkT E.tab T = some i) (hs : i.shape = .slc e esz eb) (he : lkT E.tab e = some ie) (hz : Nat.beq esz 0 = false) (hzo : zeroOk ie = true) (hone : allOne ie.zero.cells.toList = true) (hsub : SubL (zeroA ie).cells (enc z).cells) (hk : ∀ l', k l' = some r → K (.tup []) [id] [(id, .row e esz (l'.map enc))]) : OpX E nt o σ K := by
  unfold Proofs.Ytkbopbgcjfcjjaa.clr at hF
  split at hF
  · rename_i hlo
    refine .mk _ _ _ (fun cx hE hnt => ?_) (hk _ hF)
    have h1 := r_clear_sub (cx := cx) ho (dok_of hd hE hnt) hxo hx hl (by rw [hE]; exact hT) hs (by rw [hE]; exact he) (nbne hz) hzo (allOne_all hone) (by rw [List.length_map]; exact hlo)
    refine h1.weak (.cons _ (.row _ _ ?_) .nil)
    rw [← clrL_map]
    unfold clrL
    exact (SubR.refl _).append (.replicate hsub _)
  · cases hF
theorem OpX.mmn {T d : Nat} (ho : o.op = .makeMap T none) (hdst : o.dst = some d) (hd : dokN E nt o.dst = true) (hn : σ.find d = none) (hk : K (.der .con d) [d] [(d, .mpn [])]) : OpX E nt o σ K :=
  .mk _ _ _ (fun cx hE hnt => r_makeMap_n ho hdst (dok_of hd hE hnt) hn) hk
variable [DecidableEq κ]
omit [DecidableEq κ] in
theorem keysN (ek : κ → AV) (er : ν → AV) (ty sz : Nat) (l : List (κ × List ν)) : (l.map (encN ek er ty sz)).map (·.1) = l.map fun p => ek p.1 := by simp [encN]
theorem OpX.lkn (ek : κ → AV) (er : ν → AV) {l : List (κ × List ν)} {k : κ} {c : Option β} {r : β} {T kt et id ty sz : Nat} {x y : Operand} {i ie : TyI} (hF : Proofs.Ytkbopbgcjfcjjaa.lkn l k c = some r) (heq : ∀ a b, eqK (ek a) (ek b) = some (decide (a = b))) (ho : o.op = .lookup T x y false) (hd : dokN E nt o.dst = true) (hxo : opdOk x = true) (hyo : opdOk y = true) (hx : σ.eval x = .der .con id) (hy : σ.eval y = ek k) (hl : σ.find id = some (.mpn (l.map (encN ek er ty sz))))
    (hT : lkT E.tab T = some i) (hs : i.shape = .map kt et) (he : lkT E.tab et = some ie) (hz : ie.zero = .slice none 0 0) (hkf : keyFl E.P kt (ek k) = true) (hk : c = some r → K (.slen (rget l k).length) [id] []) : OpX E nt o σ K := by
  obtain ⟨q, h1, h2, h3⟩ := findK_n (ν := ν) ek heq k l 0
  refine .mk _ _ _ (fun cx hE hnt => r_lookup_n (r := q) ho (dok_of hd hE hnt) hxo hyo hx hy hl (by rw [hE]; exact hT) hs (by rw [hE]; exact he) hz (by rw [show cx.P = E.P by rw [← hE]]; exact hkf) (by rw [keysN]; exact h1) ?_) (hk hF)
  cases q with
  | none => simp [nLen, rget, (h2 rfl).1]
  | some j =>
    obtain ⟨_, _, _, v, g4, g5, _⟩ := h3 j rfl
    simp only [Nat.sub_zero] at g5
    simp [nLen, rget, g4, g5, encN]
theorem OpX.lnl {T n e esz eb : Nat} {x : Operand} {i : TyI} (ho : o.op = .call { callee := .builtin .len, args := #[x], argTypes := #[T] }) (hd : dokN E nt o.dst = true) (hxo : opdOk x = true) (hx : σ.eval x = .slen n) (hT : lkT E.tab T = some i) (hs : i.shape = .slc e esz eb) (hk : K (.int .i64 (n : Int)) [] []) : OpX E nt o σ K :=
  .mk _ _ _ (fun cx hE hnt => r_len_slen ho (dok_of hd hE hnt) hxo hx (by rw [hE]; exact hT) hs) hk
theorem OpX.men (ek : κ → AV) (er : ν → AV) {l : List (κ × List ν)} {k : κ} {c : List ν → Option β} {r : β} {T kt et id d ty sz : Nat} {x y : Operand} {i ie : TyI} (hF : Proofs.Ytkbopbgcjfcjjaa.men l k c = some r) (heq : ∀ a b, eqK (ek a) (ek b) = some (decide (a = b))) (ho : o.op = .mapEntry T x y) (hdst : o.dst = some d) (hd : dokN E nt o.dst = true) (hxo : opdOk x = true) (hyo : opdOk y = true) (hx : σ.eval x = .der .con id) (hy : σ.eval y = ek k) (hl : σ.find id = some (.mpn (l.map (encN ek er ty sz)))) (hn : σ.find d = none) (hne : Nat.beq id d = false)
    (hT : lkT E.tab T = some i) (hs : i.shape = .map kt et) (he : lkT E.tab et = some ie) (hz : ie.zero = .slice none 0 0) (hkf : keyFl E.P kt (ek k) = true) (hk : ∀ v, c v = some r → K (.tup [.row d, .int .i64 (kpos l k : Int)]) [id, d] [(id, .mpn (holeN ek er ty sz l k)), (d, .row ty sz (v.map er))]) : OpX E nt o σ K := by
  obtain ⟨q, h1, h2, h3⟩ := findK_n (ν := ν) ek heq k l 0
  refine .mk _ _ _ (fun cx hE hnt => r_mapEntry_n (r := q) ho hdst (dok_of hd hE hnt) hxo hyo hx hy hl hn (nbne hne) (by rw [hE]; exact hT) hs (by rw [hE]; exact he) hz (by rw [show cx.P = E.P by rw [← hE]]; exact hkf) (by rw [keysN]; exact h1) ?_) (hk _ hF)
  cases q with
  | none =>
    obtain ⟨g1, g2, g3⟩ := h2 rfl
    simp only [entN, rget, g1, Option.getD_none, List.map_nil, List.length_map, Option.some.injEq, Prod.mk.injEq, and_true, holeN, g2, g3, List.map_append, List.map_cons]
    rw [List.set_append_right _ _ (by simp)]
    simp
  | some j =>
    obtain ⟨_, g1, g2, v, g4, g5, g6⟩ := h3 j rfl
    simp only [Nat.sub_zero] at g1 g2 g5 g6
    simp [entN, rget, g4, g5, encN, holeN, g2, g6, List.map_set]
theorem OpX.mes (ek : κ → AV) (er : ν → AV) {l : List (κ × List ν)} {k : κ} {v : List ν} {c : List (κ × List ν) → Option β} {r : β} {T id q ty sz : Nat} {x y z : Operand} (hF : Proofs.Ytkbopbgcjfcjjaa.mes l k v c = some r) (heq : ∀ a b, eqK (ek a) (ek b) = some (decide (a = b))) (ho : o.op = .entryStore T x y z) (hd : dokN E nt o.dst = true) (hxo : opdOk x = true) (hyo : opdOk y = true) (hzo : opdOk z = true) (hx : σ.eval x = .der .con id) (hy : σ.eval y = .int .i64 (kpos l k : Int)) (hz : σ.eval z = .row q)
    (hl : σ.find id = some (.mpn (holeN ek er ty sz l k))) (hq : σ.find q = some (.row ty sz (v.map er))) (hne : Nat.beq id q = false) (hk : ∀ l', c l' = some r → K (.tup []) [id, q] [(id, .mpn (l'.map (encN ek er ty sz))), (q, .dead)]) : OpX E nt o σ K := by
  obtain ⟨q', h1, h2, h3⟩ := findK_n (ν := ν) ek heq k l 0
  have hlen : kpos l k < ((mput l k []).map (encN ek er ty sz)).length := by
    cases q' with
    | none => obtain ⟨g1, g2, g3⟩ := h2 rfl; simp [g2, g3]
    | some j => obtain ⟨_, g1, g2, v, g4, g5, g6⟩ := h3 j rfl; rw [g2, g6]; simpa using g1
  have h := hk _ hF
  have he : (holeN ek er ty sz l k).set (kpos l k) (ek k, .row ty sz (v.map er)) = (mput l k v).map (encN ek er ty sz) := by
    unfold holeN
    rw [List.set_set]
    cases q' with
    | none => 
      obtain ⟨g1, g2, g3⟩ := h2 rfl
      rw [g3, g3, g2, List.map_append, List.set_append_right _ _ (by simp)]
      simp [encN]
    | some j =>
      obtain ⟨_, g1, g2, v0, g4, g5, g6⟩ := h3 j rfl
      rw [g6, g6, g2]
      simp [List.map_set, encN]
  rw [← he] at h
  exact .mk _ _ _ (fun cx hE hnt => r_entryStore_n ho (dok_of hd hE hnt) hxo hyo hzo hx hy hz hl hq (nbne hne) (by unfold holeN; rw [List.getElem?_set_self hlen])) h
end
section
variable {α β κ ν : Type} {E : Env} {nt : Nat}
theorem LeX.frzN {σ : AS} {l : List (κ × List ν)} (r : Nat) (ek : κ → AV) (er : ν → AV) (ty sz : Nat) (hr : σ.find r = some (.mpn (l.map (encN ek er ty sz)))) : LeX E nt σ (σ.rpAll r isCon (.row r) (.mp (l.map (encM ek fun q => .sl sz (q.map er))))) := by
  refine LeX.rpAll r isCon (.row r) _ _ hr (fun ty cs h => by cases h) (fun cx γ a w d hst hd he => ?_)
  obtain ⟨g, es, vs, hde, hh, hl, hsz, hbn, hkk, hvv, hnn, hdb⟩ := he
  have hde : d = conV g vs := hde
  subst hde
  refine ⟨some (some g, .map (some g)), fun b hb => mem_conV.2 (Or.inl (blks_eq rfl hb)), fun S' hS hS2 => ⟨⟨g, rfl, es, _, hh, by simpa using hl, fun j h h' => ?_⟩, fun γ' x v hγ' hs hx hv => ?_⟩⟩
  · have hjl : j < l.length := by simpa using h'
    have h1 := hkk j h (by simpa using hjl)
    have h2 := hvv j h (by simpa using hjl)
    have h3 := hnn j (by simpa using hjl)
    simp only [List.getElem_map, encN, encM] at h1 h2 h3 ⊢
    have h2 := h2 (by simp)
    obtain ⟨q1, us, q2, q3, q4, q5⟩ := h3
    obtain ⟨ob1, ob2⟩ := own_blk q2
    obtain ⟨s, hs1, hs2⟩ := row_sl (w := w) (S := Sg cx.S0 cx.w0.heap.size γ) (γ := γ) (S' := S') (d := some ((vs.getD j undef).ownBlock, vs.getD j undef)) ⟨_, us, rfl, q1, q2, q3, q4, q5⟩ (fun b hb _ => hS b hb) (fun s g' e => by
      injection e with e
      injection e with e1 e2
      rw [ob1] at e1
      refine hS2 g' (mem_conV.2 (Or.inr ⟨j, e1⟩)) (fun hb => ?_)
      have := blks_eq rfl hb
      subst this
      exact hdb.2 j _ rfl e1) G0
    injection hs1 with hs1
    injection hs1 with _ hs1
    refine ⟨h1.mono (Nat.le_refl _) (fun b hb _ => ⟨rfl, hS b hb⟩), ?_⟩
    rw [h2, hs1]
    exact hs2
  · have hx' : x = .der .con r := by
      cases x with
      | der φ i =>
        cases φ with
        | con => simp only [AV.leafId, Option.some.injEq] at hx; rw [hx]
        | _ => simp [isCon] at hs
      | _ => simp [isCon] at hs
    subst hx'
    refine .row hγ' (fun g' s e _ => ?_)
    injection e with e
    injection e with _ e
    subst e
    rw [hv.der_inv hd]
    simp only [Dv.of, con0]
variable {R : Exit → AS → Prop} {K : List KItem}
end
attribute [irreducible] nle gle clr men lkn mes frn
end Go.Proofs.Ytkbopbgcjfcjjaa
namespace Go.Proofs.Ytkbopbgcjfcjjaa
open Go.RowKit

def startG (args : List AV) (me : List (Nat × Ent)) : AS := ⟨args.zipIdx.map fun p => (p.2, p.1), me⟩
def boxB (np : Nat) (args : List AV) (τ : AS) (me me' : List (Nat × Ent)) (yk : List Nat) : Bool := me.all fun x => match x.2 with
  | .box _ _ => memB x.1 yk || (List.range np).any fun t => (match args[t]? with | some (.ptr k 0) => Nat.beq k x.1 | _ => false) && (match τ.get t, lkE me' x.1 with | .ptr k 0, some (.box _ _) => Nat.beq k x.1 | _, _ => false)
  | _ => true
def YK (np : Nat) (args : List AV) (τ : AS) (me' : List (Nat × Ent)) : List Nat → Prop
  | [] => True
  | k :: r => ((∃ (t t' i l : Nat) (T : Array Value) (caps caps' : List AV) (ty : TypeId) (es : List AV), args[t]? = some (.yld l T caps) ∧ τ.get t' = .yld l T caps' ∧ caps[i]? = some (.ptr k 0) ∧ caps'[i]? = some (.ptr k 0) ∧ lkE me' k = some (.box ty es)) ∨
      ∃ (t i f : Nat) (caps caps' : List AV) (ty : TypeId) (es : List AV), t < np ∧ args[t]? = some (.fn f caps) ∧ τ.get t = .fn f caps' ∧ caps[i]? = some (.ptr k 0) ∧ caps'[i]? = some (.ptr k 0) ∧ lkE me' k = some (.box ty es)) ∧ YK np args τ me' r
theorem YK.at {np : Nat} {args : List AV} {τ : AS} {me' : List (Nat × Ent)} : ∀ {l : List Nat}, YK np args τ me' l → ∀ k ∈ l, (∃ (t t' i l : Nat) (T : Array Value) (caps caps' : List AV) (ty : TypeId) (es : List AV), args[t]? = some (.yld l T caps) ∧ τ.get t' = .yld l T caps' ∧ caps[i]? = some (.ptr k 0) ∧ caps'[i]? = some (.ptr k 0) ∧ lkE me' k = some (.box ty es)) ∨
      ∃ (t i f : Nat) (caps caps' : List AV) (ty : TypeId) (es : List AV), t < np ∧ args[t]? = some (.fn f caps) ∧ τ.get t = .fn f caps' ∧ caps[i]? = some (.ptr k 0) ∧ caps'[i]? = some (.ptr k 0) ∧ lkE me' k = some (.box ty es)
  | [], _, k, hk => by cases hk
  | x :: r, h, k, hk => by
    rcases List.mem_cons.1 hk with rfl | hk
    · exact h.1
    · exact h.2.at k hk
inductive GX (E : Env) (nt : Nat) (fn : Func) (args : List AV) (me : List (Nat × Ent)) (σ : AS) (res : AV) (me' : List (Nat × Ent)) : Prop
  | mk (τ : AS) (hl : LeX E nt σ τ) (hme : τ.me = me') (avs : List AV) (h1 : retA E.tab τ fn.results.toList = some avs) (h2 : Sub (packA avs) res) (yk : List Nat) (hyk : YK E.np args τ me' yk) (hb : boxB E.np args τ me me' yk = true)
def EndG (E : Env) (nt : Nat) (fn : Func) (args : List AV) (me : List (Nat × Ent)) (res : AV) (me' : List (Nat × Ent)) : Exit → AS → Prop
  | .normal, σ => GX E nt fn args me σ res me'
  | .ret, σ => GX E nt fn args me σ res me'
  | _, _ => False
theorem ConG.walk {E : Env} {f : FuncId} {fn : Func} {args caps : List AV} {me me' : List (Nat × Ent)} {res : AV} (c : Code) (hf : E.P.funcs[f]? = some fn) (hb : fn.body = some c) (hn : Nat.ble (args ++ caps).length fn.ntmps = true) (hnp : Nat.ble E.np (args ++ caps).length = true) (hrg : E.rg = false) (hdr : E.dr = false)
    (h : AW E fn.ntmps (EndG E fn.ntmps fn (args ++ caps) me res me') [.code c] .normal (startG (args ++ caps) me)) : ConG E.P E.yl (CalF E.P f caps.length) args caps me res me' := by
  intro cx γ w vs cs hP hdr0 hyl hnt0 hnp0 hme hvs hva hca hcs
  have hlen : (vs ++ cs).size = (args ++ caps).length := by simp [hvs, hcs]
  have hn' := Nat.le_of_ble_eq_true hn
  have hnp' := Nat.le_of_ble_eq_true hnp
  refine callsIn_wide.1 (callsIn_of_wp (F := Fence.wide) (n := 0) hf hb trivial ?_)
  let cx' : Cx := ⟨E, cx.S0, cx.w0, fn.ntmps, fun b => b < w.heap.size ∧ ¬ own γ b, w, none, vs ++ cs, fun _ => rfl⟩
  have h0 : WP cx' c (EndG E fn.ntmps fn (args ++ caps) me res me') (startG (args ++ caps) me) := WP.mono (h.out cx' rfl rfl) fun e σ hk => by cases e <;> exact hk
  have hrep : ∀ t (ht : t < (args ++ caps).length), Rep w (Sg cx.S0 cx.w0.heap.size γ) γ (args ++ caps)[t] ((vs ++ cs).getD t undef) := fun t ht => by
    by_cases h1 : t < args.length
    · rw [List.getElem_append_left h1, Array.getD_eq_getD_getElem?, Array.getElem?_append_left (by omega), ← Array.getD_eq_getD_getElem?]
      exact hva t h1
    · rw [List.getElem_append_right (by omega), Array.getD_eq_getD_getElem?, Array.getElem?_append_right (by omega), ← Array.getD_eq_getD_getElem?, hvs]
      exact hca _ (by rw [List.length_append] at ht; omega)
  have hget : ∀ t, t < (args ++ caps).length → (vs ++ cs ++ Array.replicate (fn.ntmps - (vs ++ cs).size) undef).getD t undef = (vs ++ cs).getD t undef := fun t ht => by
    rw [Array.getD_eq_getD_getElem?, Array.getD_eq_getD_getElem?, Array.getElem?_append_left (by omega)]
  have hst : StG cx' γ (startG (args ++ caps) me) { tmps := vs ++ cs ++ Array.replicate (fn.ntmps - (vs ++ cs).size) undef, defers := [] } w := by
    refine ⟨fun t => ?_, hme.me, hme.inj, hme.ge, hme.below, ?_, ⟨fun _ => rfl, ⟨[], rfl, .nil, fun r hr => by cases hr⟩, fun t ht => ?_, fun l R hl => hme.defers.yl l R (hyl _ hl), Nat.le_refl _⟩, hme.gh, fun b hb => ⟨hb.2, hb.1, rfl⟩, fun hd => ?_⟩
    · unfold AS.get startG
      rw [lkV_zip]
      by_cases ht : 0 ≤ t ∧ t < 0 + (args ++ caps).length
      · rw [dif_pos ht]
        have ht' : t < (args ++ caps).length := by omega
        show Rep w _ γ _ ((vs ++ cs ++ Array.replicate (fn.ntmps - (vs ++ cs).size) undef).getD t undef)
        rw [hget t ht']
        exact hrep t ht'
      · rw [dif_neg ht]; exact .any _
    · show (vs ++ cs ++ Array.replicate (fn.ntmps - (vs ++ cs).size) undef).size = fn.ntmps
      rw [Array.size_append, Array.size_replicate]; omega
    · have ht' : t < E.np := ht
      exact hget t (by omega)
    · exact absurd (hdr.symm.trans hd) (by simp)
  refine wpIn_mono (h0 _ _ ⟨γ, hst⟩) (fun e a w' ⟨σ, hq, hst0⟩ => ?_)
  have key : GX E fn.ntmps fn (args ++ caps) me σ res me' → bodyPost E.P fn (fun e w' => ∃ u γ', e = .returned u ∧ MeSt cx γ' me' w' ∧ Rep w' (Sg cx.S0 cx.w0.heap.size γ') γ' res u ∧ w.heap.size ≤ w'.heap.size ∧ (∀ i ty es, lkE me i = some (.box ty es) → γ' i = γ i) ∧
      (∀ b, ¬ own γ b → b < w.heap.size → w'.heap[b]? = w.heap[b]? ∧ ¬ own γ' b)) .ret a w' := by
    rintro ⟨τ, hl, hme', avs, h1, h2, yk, hyk, hbx⟩
    obtain ⟨γ', hs⟩ := hl cx' rfl rfl a w' hst0
    obtain ⟨u, hu, hr⟩ := results_run hs h1
    have hfr : ∀ b, ¬ own γ b → b < w.heap.size → w'.heap[b]? = w.heap[b]? ∧ ¬ own γ' b := fun b hb hlt => by
      obtain ⟨q1, q2, q3⟩ := hs.fr b ⟨hlt, hb⟩
      exact ⟨q3, q1⟩
    have hsz : w.heap.size ≤ w'.heap.size := hs.defers.sz
    refine ⟨hs.defers.d0 hrg, u, hu, u, γ', rfl, ?_, hr.sub h2, hsz, fun i ty es hi => ?_, hfr⟩
    · refine ⟨fun t => .any _, fun i => by have := hs.me i; unfold AS.find at this ⊢; rw [← hme']; exact this, hs.inj, hs.ge, hs.below, hnt0.symm, ⟨fun _ => rfl, ⟨[], rfl, .nil, fun r hr => by cases hr⟩, fun t ht => by rw [hnp0] at ht; omega, fun l R hl => ?_, Nat.le_trans hme.defers.sz hsz⟩, hs.gh, fun b hb => ?_, fun hd => absurd (hdr0.symm.trans hd) (by simp)⟩
      · obtain ⟨q0, q1, q2, q3⟩ := hme.defers.yl l R hl
        obtain ⟨k1, k2⟩ := hfr l q2 q1
        exact ⟨q0, by omega, k2, k1.trans q3⟩
      · obtain ⟨q1, q2, q3⟩ := hme.fr b hb
        obtain ⟨k1, k2⟩ := hfr b q1 q2
        exact ⟨k2, by omega, k1.trans q3⟩
    · have hb' := List.all_eq_true.1 hbx (i, .box ty es) (lkE_in hi)
      have hb' := (Bool.or_eq_true _ _).mp hb'
      rcases hb' with hb' | hb'
      · rcases hyk.at i ((memB_iff _ _).1 hb') with ⟨t, t', j, l, T, yc, yc', ty', es', e1, e2, e3, e4, e5⟩ | ⟨t, j, f', yc, yc', ty', es', ht0, e1, e2, e3, e4, e5⟩
        · obtain ⟨hlt, hat⟩ := List.getElem?_eq_some_iff.1 e1
          have r1 := hrep t hlt
          rw [hat] at r1
          have r2 := hs.tm t'
          rw [e2] at r2
          obtain ⟨hj, hja⟩ := List.getElem?_eq_some_iff.1 e3
          obtain ⟨hj', hja'⟩ := List.getElem?_eq_some_iff.1 e4
          have s1 := r1.yld_inv.2 j hj
          have s2 := r2.yld_inv.2 j hj'
          rw [hja] at s1
          rw [hja'] at s2
          have m1 := hme.me i
          unfold AS.find at m1
          rw [hi] at m1
          obtain ⟨x, hx, g, vs1, hd1, _⟩ := m1
          have m2 := hs.me i
          unfold AS.find at m2
          rw [hme', e5] at m2
          obtain ⟨x2, hx2, g2, vs2, hd2, _⟩ := m2
          subst hd1 hd2
          have p1 := s1.ptr_inv hx
          rw [s2.ptr_inv hx2] at p1
          injection p1 with p1
          injection p1 with p1
          injection p1 with p1
          rw [hx, hx2, p1]
        · obtain ⟨hlt, hat⟩ := List.getElem?_eq_some_iff.1 e1
          have r1 := hrep t hlt
          rw [hat] at r1
          have r2 := hs.tm t
          rw [e2, hs.defers.pin t ht0] at r2
          obtain ⟨hj, hja⟩ := List.getElem?_eq_some_iff.1 e3
          obtain ⟨hj', hja'⟩ := List.getElem?_eq_some_iff.1 e4
          obtain ⟨us, ev1, _, s1⟩ := r1.fn_inv
          obtain ⟨us', ev2, _, s2⟩ := r2.fn_inv
          have p3 : (vs ++ cs).getD t undef = cx'.pv.getD t undef := rfl
          rw [p3, ev2] at ev1
          injection ev1 with _ _ ev1
          subst ev1
          have s1 := s1 j hj
          have s2 := s2 j hj'
          rw [hja] at s1
          rw [hja'] at s2
          have m1 := hme.me i
          unfold AS.find at m1
          rw [hi] at m1
          obtain ⟨x, hx, g, vs1, hd1, _⟩ := m1
          have m2 := hs.me i
          unfold AS.find at m2
          rw [hme', e5] at m2
          obtain ⟨x2, hx2, g2, vs2, hd2, _⟩ := m2
          subst hd1 hd2
          have p1 := s1.ptr_inv hx
          rw [s2.ptr_inv hx2] at p1
          injection p1 with p1
          injection p1 with p1
          injection p1 with p1
          rw [hx, hx2, p1]
      obtain ⟨t, ht, htb⟩ := List.any_eq_true.1 hb'
      rw [List.mem_range] at ht
      rw [Bool.and_eq_true] at htb
      obtain ⟨b1, b2⟩ := htb
      split at b1
      · rename_i k hk
        have e1 : k = i := Nat.eq_of_beq_eq_true b1
        subst e1
        split at b2
        · rename_i k2 ty2 es2 hk2 hk3
          have e2 : k2 = k := Nat.eq_of_beq_eq_true b2
          subst e2
          obtain ⟨hlt, hat⟩ := List.getElem?_eq_some_iff.1 hk
          have r1 := hrep t hlt
          rw [hat] at r1
          have r2 := hs.tm t
          rw [hk2, hs.defers.pin t ht] at r2
          have m1 := hme.me k2
          unfold AS.find at m1
          rw [hi] at m1
          obtain ⟨x, hx, g, vs1, hd1, _⟩ := m1
          have m2 := hs.me k2
          unfold AS.find at m2
          rw [hme', hk3] at m2
          obtain ⟨x2, hx2, g2, vs2, hd2, _⟩ := m2
          subst hd1 hd2
          have p1 := r1.ptr_inv hx
          have p2 := r2.ptr_inv hx2
          have p3 : (vs ++ cs).getD t undef = cx'.pv.getD t undef := rfl
          rw [p3, p2] at p1
          injection p1 with p1
          injection p1 with p1
          injection p1 with p1
          rw [hx, hx2, p1]
        · cases b2
      · cases b1
  cases e with
  | normal => exact key hq
  | ret => exact key hq
  | _ => exact hq.elim
end Go.Proofs.Ytkbopbgcjfcjjaa
namespace Go.Proofs.Ytkbopbgcjfcjjaa
open Go.RowKit

end Go.Proofs.Ytkbopbgcjfcjjaa
namespace Go.Proofs.Ytkbopbgcjfcjjaa
open Go.RowKit

theorem set_rep {w : World} {S : Nat → Prop} {γ : Gam} : ∀ (ps : List Nat) (avs : List AV) (vs : List Value) (T : Array Value) (base : List (Nat × AV)), (∀ t, Rep w S γ (lkV base t) (T.getD t undef)) → (∀ p ∈ ps, p < T.size) → avs.length = ps.length → vs.length = ps.length →
    (∀ i (hi : i < avs.length), Rep w S γ avs[i] (vs.getD i undef)) → ∀ t, Rep w S γ (lkV ((ps.zip avs).foldl (fun tm x => x :: tm) base) t) (((ps.zip vs).foldl (fun t x => t.setIfInBounds x.1 x.2) T).getD t undef)
  | [], _, _, T, base, h0, _, _, _, _ => fun t => h0 t
  | p :: ps, [], _, T, base, _, _, h1, _, _ => by simp at h1
  | p :: ps, av :: avs, [], T, base, _, _, _, h2, _ => by simp at h2
  | p :: ps, av :: avs, v :: vs, T, base, h0, hp, h1, h2, h3 => by
    simp only [List.zip_cons_cons, List.foldl_cons]
    refine set_rep ps avs vs _ _ (fun t => ?_) (fun q hq => by rw [Array.size_setIfInBounds]; exact hp q (List.mem_cons_of_mem _ hq)) (by simpa using h1) (by simpa using h2) (fun i hi => by have := h3 (i + 1) (by simpa using hi); simpa using this)
    have hpT := hp p (List.mem_cons_self ..)
    simp only [lkV]
    cases hb : Nat.beq p t with
    | true =>
      have := Nat.eq_of_beq_eq_true hb
      subst this
      have h := h3 0 (by simp)
      simp only [List.getElem_cons_zero, List.getD_cons_zero] at h
      simpa [hpT] using h
    | false =>
      have hne : p ≠ t := Nat.ne_of_beq_eq_false hb
      have e : (T.setIfInBounds p v).getD t undef = T.getD t undef := by
        rw [Array.getD_eq_getD_getElem?, Array.getElem?_setIfInBounds_ne hne, ← Array.getD_eq_getD_getElem?]
      rw [e]; exact h0 t
theorem set_size : ∀ (l : List (Nat × Value)) (T : Array Value), (l.foldl (fun t x => t.setIfInBounds x.1 x.2) T).size = T.size
  | [], T => rfl
  | x :: l, T => by rw [List.foldl_cons, set_size l, Array.size_setIfInBounds]
theorem set_other {t : Nat} : ∀ (l : List (Nat × Value)) (T : Array Value), (∀ x ∈ l, x.1 ≠ t) → (l.foldl (fun t x => t.setIfInBounds x.1 x.2) T).getD t undef = T.getD t undef
  | [], T, _ => rfl
  | x :: l, T, h => by
    rw [List.foldl_cons, set_other l _ (fun y hy => h y (List.mem_cons_of_mem _ hy)), Array.getD_eq_getD_getElem?, Array.getElem?_setIfInBounds_ne (h x (List.mem_cons_self ..)), ← Array.getD_eq_getD_getElem?]

def startR (ps : List Nat) (args ycaps : List AV) (me : List (Nat × Ent)) : AS := ⟨(ps.zip args).foldl (fun tm x => x :: tm) (ycaps.zipIdx.map fun p => (p.2, p.1)), me⟩
inductive BX (E : Env) (nt : Nat) (ycaps : List AV) (me : List (Nat × Ent)) (σ : AS) (me' : List (Nat × Ent)) : Prop
  | mk (τ : AS) (hl : LeX E nt σ τ) (hme : τ.me = me') (hb : boxB E.np ycaps τ me me' [] = true)
def EndB (E : Env) (nt : Nat) (ycaps : List AV) (me me' : List (Nat × Ent)) : Exit → AS → Prop
  | .normal, σ => BX E nt ycaps me σ me'
  | _, _ => False
theorem StG.putObjW {cx : Cx} {γ : Gam} {σ : AS} {a : Act} {w : World} (h : StG cx γ σ a w) {r : Nat} {o o' : Obj} (hr : w.heap[r]? = some o) (ho : o.isCells = false) (hB : cx.w0.heap.size ≤ r) (hno : ¬ own γ r) (hd : a.defers = []) (hyl : cx.E.yl = none) (hom : ∀ es c, o ≠ .map es c := by intro es c h; cases h) : StG { cx with w1 := w.putObj r o' } γ σ a (w.putObj r o') := by
  have hn := no_cell (k := 0) hr ho
  have hnm : ∀ es c, w.heap[r]? ≠ some (.map es c) := fun es c h => by rw [hr] at h; injection h with h; exact hom es c h
  have hne : ∀ b, own γ b → b ≠ r := fun b hb e => hno (e ▸ hb)
  refine ⟨fun t => (h.tm t).putObj hn hnm, fun id => ?_, h.inj, fun b hb => by rw [putObj_size]; exact h.ge b hb, h.below.trans ⟨rfl, rfl, rfl, by rw [putObj_size]; exact Nat.le_refl _, fun b hb => putObj_other (by omega)⟩, h.size,
    ⟨fun _ => hd, ⟨[], hd, .nil, fun r hr => by cases hr⟩, h.defers.pin, fun l R hl => absurd (hyl.symm.trans hl) (by simp), Nat.le_refl _⟩, fun b hb => by rw [putObj_size]; exact h.gh b hb, fun b hb => ?_, h.dr⟩
  · have := h.me id
    cases hf : σ.find id with
    | none => rw [hf] at this; exact this
    | some e =>
      rw [hf] at this
      obtain ⟨x, hx, he⟩ := this
      exact ⟨x, hx, he.putObj hn hnm (fun b hb => hne b ⟨id, x, hx, hb⟩)⟩
  · obtain ⟨q1, q2, q3⟩ := h.fr b hb
    exact ⟨q1, by rw [putObj_size]; exact q2, rfl⟩

theorem ConG.round {E : Env} {nt : Nat} {ps : Array Tmp} {assign body : Code} {args ycaps : List AV} {me me' : List (Nat × Ent)} (hrg : E.rg = false) (hylE : E.yl = none) (hdr : E.dr = false) (hps : ps.toList.all (fun p => Nat.ble E.np p && Nat.blt p nt) = true) (hlen : args.length = ps.size) (hcl : Nat.ble ycaps.length nt = true)
    (h : AW E nt (thenA (fun σ => AW E nt (EndB E nt ycaps me me') [.code body] .normal σ) (fun _ _ => False)) [.code assign] .normal (startR ps.toList args ycaps me))
    (l D : Nat) (fn : FuncId) (T : Array Value) (hT : T.size = nt) : ConG E.P (some (l, .loop (recR fn T ps assign body D))) (fun vs cs w R => cs = T → CalY E.P l vs cs w R) args ycaps me (.bool true) me' := by
  intro cx γ w vs cs hP hdr0 hyl hnt0 hnp0 hme hvs hva hca hcs
  subst hcs
  have hyl' := hyl _ rfl
  obtain ⟨q0, q1, q2, q3⟩ := hme.defers.yl l _ hyl'
  refine ⟨fn, _, assign, body, run_yield (P := E.P) (args := vs) q3 (by rw [hvs, hlen]), roundIn_of_wpIn trivial ?_⟩
  have ef : (ps.zip vs).foldl (fun (t : Array Value) (x : Tmp × Value) => t.setIfInBounds x.1 x.2) cs = (ps.toList.zip vs.toList).foldl (fun t x => t.setIfInBounds x.1 x.2) cs := by
    rw [← Array.foldl_toList, Array.toList_zip]
  obtain ⟨tm, htm⟩ : ∃ tm, tm = (ps.toList.zip vs.toList).foldl (fun t x => t.setIfInBounds x.1 x.2) cs := ⟨_, rfl⟩
  have etm : (ps.zip vs).foldl (fun (t : Array Value) (x : Tmp × Value) => t.setIfInBounds x.1 x.2) cs = tm := by rw [ef, htm]
  show assign.wpIn (Fence.wide.inRound l) 0 E.P _ { tmps := (ps.zip vs).foldl (fun (t : Array Value) (x : Tmp × Value) => t.setIfInBounds x.1 x.2) cs, defers := [] } w
  rw [etm]
  have hps' : ∀ p ∈ ps.toList, E.np ≤ p ∧ p < nt := fun p hp => by
    have := List.all_eq_true.1 hps p hp
    simpa using this
  let cxa : Cx := ⟨E, cx.S0, cx.w0, nt, fun b => b < w.heap.size ∧ ¬ own γ b, w, some l, cs, fun h => absurd (hrg.symm.trans h) (by simp)⟩
  have hst : StG cxa γ (startR ps.toList args ycaps me) { tmps := tm, defers := [] } w := by
    refine ⟨fun t => ?_, hme.me, hme.inj, hme.ge, hme.below, by rw [htm]; exact (set_size _ _).trans hT, ⟨fun _ => rfl, ⟨[], rfl, .nil, fun r hr => by cases hr⟩, fun t ht => ?_, fun l R hl => absurd (hylE.symm.trans hl) (by simp), Nat.le_refl _⟩, hme.gh, fun b hb => ⟨hb.2, hb.1, rfl⟩, fun hd => absurd (hdr.symm.trans hd) (by simp)⟩
    · rw [htm]
      refine set_rep ps.toList args vs.toList cs _ (fun t => ?_) (fun p hp => by rw [hT]; exact (hps' p hp).2) (by simpa using hlen) (by simp [hvs, hlen]) (fun i hi => ?_) t
      · rw [lkV_zip]
        by_cases ht : 0 ≤ t ∧ t < 0 + ycaps.length
        · rw [dif_pos ht]; exact hca t (by omega)
        · rw [dif_neg ht]; exact .any _
      · have := hva i hi
        rwa [Array.getD_eq_getD_getElem?, ← Array.getElem?_toList, ← List.getD_eq_getElem?_getD] at this
    · show tm.getD t undef = cs.getD t undef
      rw [htm]
      exact set_other _ _ (fun x hx e => by have := (hps' x.1 (List.of_mem_zip hx).1).1; have ht' : t < E.np := ht; omega)
  have hA : WP cxa assign (thenA (fun σ => AW E nt (EndB E nt ycaps me me') [.code body] .normal σ) (fun _ _ => False)) (startR ps.toList args ycaps me) := WP.mono (h.out cxa rfl rfl) fun e σ hk => by cases e <;> exact hk
  refine wpIn_mono (F := Fence.wide.inRound l) (hA _ _ ⟨γ, hst⟩) (fun e a1 w1 ⟨σ1, hq1, hst1⟩ => ?_)
  cases e with
  | normal =>
    obtain ⟨γ1, hs1⟩ := hst1
    obtain ⟨k1, k2, k3⟩ := hs1.fr l ⟨q1, q2⟩
    have k4 : w1.heap[l]? = some (.loop (recR fn cs ps assign body D)) := k3.trans q3
    refine ⟨_, run_beginRound (P := E.P) k4 rfl, ?_⟩
    have hs2 := hs1.putObjW (o' := .loop { recR fn cs ps assign body D with state := .busy }) k4 rfl q0 k1 (hs1.defers.d0 hrg) hylE
    generalize hw2 : w1.putObj l (.loop { recR fn cs ps assign body D with state := .busy }) = w2 at hs2 ⊢
    have hB : WP { cxa with w1 := w2 } body (EndB E nt ycaps me me') σ1 := WP.mono ((show AW E nt (EndB E nt ycaps me me') [.code body] .normal σ1 from hq1).out { cxa with w1 := w2 } rfl rfl) fun e σ hk => by cases e <;> exact hk
    refine wpIn_mono (F := Fence.wide.inRound l) (hB _ _ ⟨γ1, hs2⟩) (fun e2 a2 w3 ⟨σ2, hq2, hst2⟩ => ?_)
    cases e2 with
    | normal =>
      obtain ⟨τ, hl, hme', hbx⟩ := hq2
      obtain ⟨γ3, hs3⟩ := hl { cxa with w1 := w2 } rfl rfl a2 w3 hst2
      have hb2 : w2.heap[l]? = some (.loop { recR fn cs ps assign body D with state := .busy }) := by rw [← hw2]; exact World.putObj_heap_same k2
      obtain ⟨j1, j2, j3⟩ := hs3.fr l ⟨q1, q2⟩
      have j4 : w3.heap[l]? = some (.loop { recR fn cs ps assign body D with state := .busy }) := j3.trans hb2
      refine ⟨_, _, run_endRound (P := E.P) none j4, ?_⟩
      have hs4 := hs3.putObjW (o' := .loop (recR fn cs ps assign body D)) j4 rfl q0 j1 (hs3.defers.d0 hrg) hylE
      show ∃ u γ', _ ∧ _
      have hw4 : w3.putObj l (.loop { { recR fn cs ps assign body D with state := .busy } with state := if (none : Option Code).isNone = true then LoopState.ready else LoopState.done, pending := none }) = w3.putObj l (.loop (recR fn cs ps assign body D)) := rfl
      rw [hw4]
      have hr4 : (w3.putObj l (.loop (recR fn cs ps assign body D))).heap[l]? = some (.loop (recR fn cs ps assign body D)) := World.putObj_heap_same j2
      generalize hwe : w3.putObj l (.loop (recR fn cs ps assign body D)) = w4 at hs4 hr4 ⊢
      have z1 : w.heap.size ≤ w1.heap.size := hs1.defers.sz
      have z2 : w1.heap.size = w2.heap.size := by rw [← hw2, putObj_size]
      have z3 : w2.heap.size ≤ w3.heap.size := hs3.defers.sz
      have z4 : w3.heap.size = w4.heap.size := by rw [← hwe, putObj_size]
      have hfr : ∀ b, ¬ own γ b → b < w.heap.size → w4.heap[b]? = w.heap[b]? ∧ ¬ own γ3 b := fun b hb hlt => by
        obtain ⟨p1, p2, p3⟩ := hs1.fr b ⟨hlt, hb⟩
        obtain ⟨r1, r2, r3⟩ := hs3.fr b ⟨hlt, hb⟩
        refine ⟨?_, r1⟩
        by_cases hbl : b = l
        · subst hbl; exact hr4.trans q3.symm
        · have e1 : w4.heap[b]? = w3.heap[b]? := by rw [← hwe]; exact putObj_other hbl
          have e2 : w2.heap[b]? = w1.heap[b]? := by rw [← hw2]; exact putObj_other hbl
          exact e1.trans (r3.trans (e2.trans p3))
      refine ⟨.bool true, γ3, rfl, ⟨fun t => .any _, fun i => by have := hs4.me i; unfold AS.find at this ⊢; rw [← hme']; exact this, hs4.inj, hs4.ge, hs4.below, hnt0.symm, ⟨fun _ => rfl, ⟨[], rfl, .nil, fun r hr => by cases hr⟩, fun t ht => by rw [hnp0] at ht; omega, fun l' R' hl' => ?_, Nat.le_trans hme.defers.sz (by omega)⟩, hs4.gh, fun b hb => ?_, fun hd => absurd (hdr0.symm.trans hd) (by simp)⟩, .bool _, by omega, fun i ty es hi => ?_, hfr⟩
      · rw [hyl'] at hl'
        injection hl' with hl'
        injection hl' with e1 e2
        subst e1 e2
        exact ⟨q0, by omega, j1, hr4⟩
      · obtain ⟨p1, p2, p3⟩ := hme.fr b hb
        obtain ⟨r1, r2⟩ := hfr b p1 p2
        exact ⟨r2, by omega, r1.trans p3⟩
      · have hb' := List.all_eq_true.1 hbx (i, .box ty es) (lkE_in hi)
        have hb' := (Bool.or_eq_true _ _).mp hb'
        rcases hb' with hb' | hb'
        · cases hb'
        obtain ⟨t, ht, htb⟩ := List.any_eq_true.1 hb'
        rw [List.mem_range] at ht
        rw [Bool.and_eq_true] at htb
        obtain ⟨b1, b2⟩ := htb
        split at b1
        · rename_i k hk
          have e1 : k = i := Nat.eq_of_beq_eq_true b1
          subst e1
          split at b2
          · rename_i k2 ty2 es2 hk2 hk3
            have e2 : k2 = k := Nat.eq_of_beq_eq_true b2
            subst e2
            obtain ⟨hlt, hat⟩ := List.getElem?_eq_some_iff.1 hk
            have r1 := hca t hlt
            rw [hat] at r1
            have r2 := hs3.tm t
            rw [hk2, hs3.defers.pin t ht] at r2
            have m1 := hme.me k2
            unfold AS.find at m1
            rw [hi] at m1
            obtain ⟨x, hx, g, vs1, hd1, _⟩ := m1
            have m2 := hs3.me k2
            unfold AS.find at m2
            rw [hme', hk3] at m2
            obtain ⟨x2, hx2, g2, vs2, hd2, _⟩ := m2
            subst hd1 hd2
            have p1 := r1.ptr_inv hx
            have p2 : cs.getD t undef = _ := r2.ptr_inv hx2
            rw [p2] at p1
            injection p1 with p1
            injection p1 with p1
            injection p1 with p1
            rw [hx, hx2, p1]
          · cases b2
        · cases b1
    | _ => exact hq2.elim
  | _ => exact hq1.elim
end Go.Proofs.Ytkbopbgcjfcjjaa
namespace Go.Proofs.Ytkbopbgcjfcjjaa
open Go.RowKit

section
variable {α β : Type}
theorem GX.o {x r : α} {E : Env} {nt : Nat} {fn : Func} {args : List AV} {me : List (Nat × Ent)} {σ : AS} {res : α → AV} {meF : α → List (Nat × Ent)} (h : some x = some r) (k : GX E nt fn args me σ (res x) (meF x)) : GX E nt fn args me σ (res r) (meF r) := by
  injection h with h; subst h; exact k
theorem BX.o {x r : α} {E : Env} {nt : Nat} {ycaps : List AV} {me : List (Nat × Ent)} {σ : AS} {meF : α → List (Nat × Ent)} (h : some x = some r) (k : BX E nt ycaps me σ (meF x)) : BX E nt ycaps me σ (meF r) := by
  injection h with h; subst h; exact k
end
end Go.Proofs.Ytkbopbgcjfcjjaa
namespace Go.Proofs.Ytkbopbgcjfcjjaa
open Go.RowKit
def F_tidegateref05_Placed (n : Nat) (a0 : T_api_Event) : Option (Bool) :=
  cnd (decide (0 ≤ a0.fTime))
    (cnd (decide (a0.fTime ≤ 1099511627776))
      (cnd (decide (0 ≤ a0.fSource))
        (cnd (decide (a0.fSource < 8))
          (cnd (decide (0 ≤ a0.fSeq))
            (some (decide (a0.fSeq ≤ 1099511627776)))
          <| some false)
        <| some false)
      <| some false)
    <| some false)
  <| some false
def F_tidegateref05_Ref (n : Nat) (a0 : T_api_Event) : Option (T_api_Ref) :=
  some (⟨a0.fTime, a0.fSource, a0.fSeq⟩)
def F_tidegateref05_Order (n : Nat) (a0 : T_api_Ref) (a1 : T_api_Ref) : Option (Int) :=
  cnd (!decide (a0.fTime = a1.fTime))
    (cnd (decide (a0.fTime < a1.fTime))
      (some (-1))
    <| some 1)
  <| cnd (!decide (a0.fSource = a1.fSource))
    (cnd (decide (a0.fSource < a1.fSource))
      (some (-1))
    <| some 1)
  <| cnd (decide (a0.fSeq < a1.fSeq))
    (some (-1))
  <| cnd (decide (a1.fSeq < a0.fSeq))
    (some 1)
  <| some 0
def F_tidegateref05_Twin (n : Nat) (a0 : T_api_Event) (a1 : T_api_Event) : Option (Bool) :=
  cnd (decide (a0.fSource = a1.fSource))
    (some (decide (a0.fSeq = a1.fSeq)))
  <| some false
def F_tidegateref05_Check_l2 (n : Nat) (a0 : (List T_api_Event)) (v1_0 : Int) (k2_1_0 : Option (Int)) : Nat → Int → Option (Int)
  | 0, _ => none
  | mv2_1 + 1, v2_1 =>
    cnd (decide (v2_1 < v1_0))
      (idx a0 v2_1 fun x88 =>
      idx a0 v1_0 fun x89 =>
      bnd (F_tidegateref05_Twin n x88 x89) fun x90 =>
      cnd (x90)
        (some 7)
      <| F_tidegateref05_Check_l2 n a0 v1_0 k2_1_0 mv2_1 (IntKind.wrap .i64 (v2_1 + 1)))
    <| k2_1_0
def F_tidegateref05_Check_l3 (n : Nat) (a0 : (List T_api_Event)) (v1_0 : Int) (k3_2_0 : Option (Int)) : Nat → Int → Option (Int)
  | 0, _ => none
  | mv3_2 + 1, v3_2 =>
    cnd (decide (v3_2 < v1_0))
      (idx a0 v3_2 fun x131 =>
      idx a0 v1_0 fun x132 =>
      bnd (F_tidegateref05_Twin n x131 x132) fun x133 =>
      cnd (x133)
        (some 7)
      <| F_tidegateref05_Check_l3 n a0 v1_0 k3_2_0 mv3_2 (IntKind.wrap .i64 (v3_2 + 1)))
    <| k3_2_0
def F_tidegateref05_Check_l1 (n : Nat) (a0 : (List T_api_Event)) (k1_0_0 : Option (Int)) : Nat → Int → Option (Int)
  | 0, _ => none
  | mv1_0 + 1, v1_0 =>
    cnd (decide (v1_0 < (((List.map e_api_Event (a0)).length : Nat) : Int)))
      (idx a0 v1_0 fun x41 =>
      bnd (F_tidegateref05_Placed n x41) fun x42 =>
      cnd (!(x42))
        (some 2)
      <| cnd (decide (0 < v1_0))
        (idx a0 (IntKind.wrap .i64 (v1_0 - 1)) fun x43 =>
        bnd (F_tidegateref05_Ref n x43) fun x44 =>
        idx a0 v1_0 fun x45 =>
        bnd (F_tidegateref05_Ref n x45) fun x46 =>
        bnd (F_tidegateref05_Order n (⟨x44.fTime, x44.fSource, x44.fSeq⟩ : T_api_Ref) (⟨x46.fTime, x46.fSource, x46.fSeq⟩ : T_api_Ref)) fun x47 =>
        cnd (decide (0 ≤ x47))
          (some 14)
        <| F_tidegateref05_Check_l2 n a0 v1_0
          (F_tidegateref05_Check_l1 n a0 k1_0_0 mv1_0 (IntKind.wrap .i64 (v1_0 + 1))) n 0)
      <| F_tidegateref05_Check_l3 n a0 v1_0
        (F_tidegateref05_Check_l1 n a0 k1_0_0 mv1_0 (IntKind.wrap .i64 (v1_0 + 1))) n 0)
    <| k1_0_0
def F_tidegateref05_Check (n : Nat) (a0 : (List T_api_Event)) : Option (Int) :=
  cnd (decide (4096 < (((List.map e_api_Event (a0)).length : Nat) : Int)))
    (some 5)
  <| F_tidegateref05_Check_l1 n a0
    (some 0) n 0
def F_tidegateref05_Key (n : Nat) (a0 : T_api_Event) (a1 : (List Int)) : Option (T_api_Value × Bool × Int) :=
  cnd (decide ((((List.map aI (a1)).length : Nat) : Int) = 0))
    (some (⟨0, 0, ByteArray.empty⟩, true, 0))
  <| cnd (decide (a0.fType < 0))
    (some (⟨0, 0, ByteArray.empty⟩, false, 1))
  <| cnd (decide ((((List.map aI (a1)).length : Nat) : Int) ≤ a0.fType))
    (some (⟨0, 0, ByteArray.empty⟩, false, 1))
  <| idx a1 a0.fType fun x1 =>
  cnd (decide (x1 < (-1)))
    (some (⟨0, 0, ByteArray.empty⟩, false, 2))
  <| cnd (decide ((((List.map e_api_Value (a0.fValues)).length : Nat) : Int) ≤ x1))
    (some (⟨0, 0, ByteArray.empty⟩, false, 2))
  <| cnd (decide (x1 = (-1)))
    (some (⟨0, 0, ByteArray.empty⟩, false, 0))
  <| idx a0.fValues x1 fun x2 =>
  some (x2, true, 0)
def F_tidegateref01_order (n : Nat) (a0 : Int) (a1 : Int) : Option (Int) :=
  cnd (decide (a0 < a1))
    (some (-1))
  <| cnd (decide (a1 < a0))
    (some 1)
  <| some 0
def F_tidegateref01_Compare (n : Nat) (a0 : T_api_Value) (a1 : T_api_Value) : Option (Int) :=
  cnd (!decide (a0.fKind = a1.fKind))
    (bnd (F_tidegateref01_order n a0.fKind a1.fKind) fun x1 =>
    some x1)
  <| cnd (!decide (a0.fNum = a1.fNum))
    (bnd (F_tidegateref01_order n a0.fNum a1.fNum) fun x2 =>
    some x2)
  <| cnd (Op.bytesLess a0.fText.toList a1.fText.toList)
    (some (-1))
  <| cnd (!(Op.bytesLess a0.fText.toList a1.fText.toList || a0.fText.toList == a1.fText.toList))
    (some 1)
  <| some 0
def F_tidegateref01_Same_l1 (n : Nat) (a1 : (List T_api_Value)) (a0 : (List T_api_Value)) (k1_0_0 : Option (Bool)) : Nat → Int → Option (Bool)
  | 0, _ => none
  | mv1_0 + 1, v1_0 =>
    cnd (decide (v1_0 < (((List.map e_api_Value (a0)).length : Nat) : Int)))
      (idx a0 v1_0 fun x41 =>
      idx a1 v1_0 fun x42 =>
      cnd (!(decide (x41.fKind = x42.fKind) && (decide (x41.fNum = x42.fNum) && ((x41.fText.toList == x42.fText.toList) && true))))
        (some false)
      <| F_tidegateref01_Same_l1 n a1 a0 k1_0_0 mv1_0 (IntKind.wrap .i64 (v1_0 + 1)))
    <| k1_0_0
def F_tidegateref01_Same (n : Nat) (a0 : (List T_api_Value)) (a1 : (List T_api_Value)) : Option (Bool) :=
  cnd (!decide ((((List.map e_api_Value (a0)).length : Nat) : Int) = (((List.map e_api_Value (a1)).length : Nat) : Int)))
    (some false)
  <| F_tidegateref01_Same_l1 n a1 a0
    (some true) n 0
def F_tidegateref05_Equal (n : Nat) (a0 : T_api_Event) (a1 : T_api_Event) : Option (Bool) :=
  bnd (F_tidegateref05_Ref n a0) fun x1 =>
  bnd (F_tidegateref05_Ref n a1) fun x2 =>
  cnd ((decide (x1.fTime = x2.fTime) && (decide (x1.fSource = x2.fSource) && (decide (x1.fSeq = x2.fSeq) && true))))
    (cnd (decide (a0.fType = a1.fType))
      (bnd (F_tidegateref01_Same n a0.fValues a1.fValues) fun x3 =>
      some x3)
    <| some false)
  <| some false
def F_tidegateref05_Same_l1 (n : Nat) (a1 : (List T_api_Event)) (a0 : (List T_api_Event)) (k1_0_0 : Option (Bool)) : Nat → Int → Option (Bool)
  | 0, _ => none
  | mv1_0 + 1, v1_0 =>
    cnd (decide (v1_0 < (((List.map e_api_Event (a0)).length : Nat) : Int)))
      (idx a0 v1_0 fun x41 =>
      idx a1 v1_0 fun x42 =>
      bnd (F_tidegateref05_Equal n x41 x42) fun x43 =>
      cnd (!(x43))
        (some false)
      <| F_tidegateref05_Same_l1 n a1 a0 k1_0_0 mv1_0 (IntKind.wrap .i64 (v1_0 + 1)))
    <| k1_0_0
def F_tidegateref05_Same (n : Nat) (a0 : (List T_api_Event)) (a1 : (List T_api_Event)) : Option (Bool) :=
  cnd (!decide ((((List.map e_api_Event (a0)).length : Nat) : Int) = (((List.map e_api_Event (a1)).length : Nat) : Int)))
    (some false)
  <| F_tidegateref05_Same_l1 n a1 a0
    (some true) n 0
structure T_stream_identity where
  fsource : Int
  fseq : Int
deriving DecidableEq, Inhabited
def e_stream_identity (x : T_stream_identity) : AV := .agg [aI (x.fsource), aI (x.fseq)]
def F_stream_placed (n : Nat) (a0 : T_api_Event) : Option (Bool) :=
  cnd (decide (0 ≤ a0.fTime))
    (cnd (decide (a0.fTime ≤ 1099511627776))
      (cnd (decide (0 ≤ a0.fSource))
        (cnd (decide (a0.fSource < 8))
          (cnd (decide (0 ≤ a0.fSeq))
            (some (decide (a0.fSeq ≤ 1099511627776)))
          <| some false)
        <| some false)
      <| some false)
    <| some false)
  <| some false
def F_stream_of (n : Nat) (a0 : T_api_Event) : Option (T_stream_identity) :=
  some (⟨a0.fSource, a0.fSeq⟩)
def F_stream_Check_l1 (n : Nat) (a0 : (List T_api_Event)) (k1_0_0 : Option (Int)) : Nat → Int × (List (T_stream_identity × Bool)) → Option (Int)
  | 0, _ => none
  | mv1_0 + 1, v1_0 =>
    cnd (decide (v1_0.1 < (((List.map e_api_Event (a0)).length : Nat) : Int)))
      (idx a0 v1_0.1 fun x41 =>
      bnd (F_stream_placed n x41) fun x42 =>
      cnd (!(x42))
        (some 2)
      <| cnd (decide (0 < v1_0.1))
        (idx a0 (IntKind.wrap .i64 (v1_0.1 - 1)) fun x43 =>
        bnd (F_evCmp n x43 x41) fun x44 =>
        cnd (decide (0 ≤ x44))
          (some 14)
        <| bnd (F_stream_of n x41) fun x45 =>
        mgt v1_0.2 x45 (false : Bool) fun x46 x47 =>
        cnd (x46)
          (some 7)
        <| bnd (F_stream_of n x41) fun x48 =>
        mst v1_0.2 x48 true fun x49 =>
        F_stream_Check_l1 n a0 k1_0_0 mv1_0 ((IntKind.wrap .i64 (v1_0.1 + 1)), x49))
      <| bnd (F_stream_of n x41) fun x50 =>
      mgt v1_0.2 x50 (false : Bool) fun x51 x52 =>
      cnd (x51)
        (some 7)
      <| bnd (F_stream_of n x41) fun x53 =>
      mst v1_0.2 x53 true fun x54 =>
      F_stream_Check_l1 n a0 k1_0_0 mv1_0 ((IntKind.wrap .i64 (v1_0.1 + 1)), x54))
    <| k1_0_0
def F_stream_Check (n : Nat) (a0 : (List T_api_Event)) : Option (Int) :=
  cnd (decide (4096 < (((List.map e_api_Event (a0)).length : Nat) : Int)))
    (some 5)
  <| F_stream_Check_l1 n a0
    (some 0) n (0, [])
def F_stream_keyed (n : Nat) (a0 : T_api_Event) (a1 : (List Int)) : Option (T_api_Value × Bool × Int) :=
  cnd (decide ((((List.map aI (a1)).length : Nat) : Int) = 0))
    (some (⟨0, 0, ByteArray.empty⟩, true, 0))
  <| cnd (decide (a0.fType < 0))
    (some (⟨0, 0, ByteArray.empty⟩, false, 1))
  <| cnd (decide ((((List.map aI (a1)).length : Nat) : Int) ≤ a0.fType))
    (some (⟨0, 0, ByteArray.empty⟩, false, 1))
  <| idx a1 a0.fType fun x1 =>
  cnd (decide (x1 < (-1)))
    (some (⟨0, 0, ByteArray.empty⟩, false, 2))
  <| idx a1 a0.fType fun x2 =>
  cnd (decide ((((List.map e_api_Value (a0.fValues)).length : Nat) : Int) ≤ x2))
    (some (⟨0, 0, ByteArray.empty⟩, false, 2))
  <| idx a1 a0.fType fun x3 =>
  cnd (decide (x3 = (-1)))
    (some (⟨0, 0, ByteArray.empty⟩, false, 0))
  <| idx a1 a0.fType fun x4 =>
  idx a0.fValues x4 fun x5 =>
  some (x5, true, 0)
def F_stream_copied (n : Nat) (a0 : T_api_Event) : Option (T_api_Event) :=
  bnd (F_clone n a0.fValues) fun x1 =>
  some (⟨a0.fSource, a0.fSeq, a0.fType, a0.fTime, x1⟩)
def F_stream_Split_l2 (n : Nat) (k1_0_0y0 : (List (T_api_Value × (List T_api_Event)))) (x44 : (List T_api_Value)) (k2_1_0 : (List T_api_Value) → (List (List T_api_Event)) → Option ((List T_api_Value) × (List (List T_api_Event)) × Int)) : Nat → Int × (List (List T_api_Event)) → Option ((List T_api_Value) × (List (List T_api_Event)) × Int)
  | 0, _ => none
  | mv2_1 + 1, v2_1 =>
    cnd (decide (v2_1.1 < (((List.map e_api_Value (x44)).length : Nat) : Int)))
      (nat v2_1.1 (List.map e_api_Value (x44)).length fun x87 =>
      elt x44 x87 fun x88 =>
      reg <| mgt k1_0_0y0 x88 ([] : (List T_api_Event)) fun x89 x90 =>
      app v2_1.2 [x89] 24 fun x91 =>
      F_stream_Split_l2 n k1_0_0y0 x44 k2_1_0 mv2_1 ((IntKind.wrap .i64 (v2_1.1 + 1)), x91))
    <| k2_1_0 x44 v2_1.2
def F_stream_Split_l1 (n : Nat) (a1 : (List Int)) (a0 : (List T_api_Event)) (k1_0_0 : (List (T_api_Value × (List T_api_Event))) → (List T_api_Value) → Option ((List T_api_Value) × (List (List T_api_Event)) × Int)) : Nat → Int × (List (T_api_Value × (List T_api_Event))) × (List T_api_Value) → Option ((List T_api_Value) × (List (List T_api_Event)) × Int)
  | 0, _ => none
  | mv1_0 + 1, v1_0 =>
    cnd (decide (v1_0.1 < (((List.map e_api_Event (a0)).length : Nat) : Int)))
      (idx a0 v1_0.1 fun x92 =>
      bnd (F_stream_keyed n x92 a1) fun x93 =>
      cnd (!decide (x93.2.2 = 0))
        (some ([], [], x93.2.2))
      <| cnd (!(x93.2.1))
        (F_stream_Split_l1 n a1 a0 k1_0_0 mv1_0 ((IntKind.wrap .i64 (v1_0.1 + 1)), v1_0.2.1, v1_0.2.2))
      <| lkn v1_0.2.1 x93.1 <|
      cnd (decide ((((rget v1_0.2.1 x93.1).length : Nat) : Int) = 0))
        (app v1_0.2.2 [x93.1] 32 fun x94 =>
        bnd (F_stream_copied n x92) fun x95 =>
        men v1_0.2.1 x93.1 fun x96 =>
        app x96 [x95] 56 fun x97 =>
        mes v1_0.2.1 x93.1 x97 fun x98 =>
        F_stream_Split_l1 n a1 a0 k1_0_0 mv1_0 ((IntKind.wrap .i64 (v1_0.1 + 1)), x98, x94))
      <| bnd (F_stream_copied n x92) fun x99 =>
      men v1_0.2.1 x93.1 fun x100 =>
      app x100 [x99] 56 fun x101 =>
      mes v1_0.2.1 x93.1 x101 fun x102 =>
      F_stream_Split_l1 n a1 a0 k1_0_0 mv1_0 ((IntKind.wrap .i64 (v1_0.1 + 1)), x102, v1_0.2.2))
    <| k1_0_0 v1_0.2.1 v1_0.2.2
def F_stream_Split (n : Nat) (a0 : (List T_api_Event)) (a1 : (List Int)) : Option ((List T_api_Value) × (List (List T_api_Event)) × Int) :=
  bnd (F_stream_Check n a0) fun x1 =>
  cnd (!decide (x1 = 0))
    (some ([], [], x1))
  <| F_stream_Split_l1 n a1 a0
    (fun k1_0_0y0 k1_0_0y1 => bndC (F_sort vaCmp n k1_0_0y1) fun x44 =>
  F_stream_Split_l2 n k1_0_0y0 x44
    (fun k2_1_0y0 k2_1_0y1 => some (k2_1_0y0, k2_1_0y1, 0)) n (0, [])) n (0, [], [])
def F_tidegateref01_Few_l1 (n : Nat) (a0 : (List T_api_Value)) (k1_0_0 : Option (Bool)) : Nat → Int → Option (Bool)
  | 0, _ => none
  | mv1_0 + 1, v1_0 =>
    cnd (decide (v1_0 < (((List.map e_api_Value (a0)).length : Nat) : Int)))
      (cnd (decide (v1_0 < 40))
        (idx a0 v1_0 fun x41 =>
        cnd (decide (128 < ((x41.fText.size : Nat) : Int)))
          (some false)
        <| F_tidegateref01_Few_l1 n a0 k1_0_0 mv1_0 (IntKind.wrap .i64 (v1_0 + 1)))
      <| k1_0_0)
    <| k1_0_0
def F_tidegateref01_Few (n : Nat) (a0 : (List T_api_Value)) : Option (Bool) :=
  F_tidegateref01_Few_l1 n a0
    (some (decide ((((List.map e_api_Value (a0)).length : Nat) : Int) < 40))) n 0
def F_tidegateref05_Few_l1 (n : Nat) (a0 : (List T_api_Event)) (k1_0_0 : Option (Bool)) : Nat → Int → Option (Bool)
  | 0, _ => none
  | mv1_0 + 1, v1_0 =>
    cnd (decide (v1_0 < (((List.map e_api_Event (a0)).length : Nat) : Int)))
      (cnd (decide (v1_0 < 20))
        (idx a0 v1_0 fun x41 =>
        cnd (decide (12 < (((List.map e_api_Value (x41.fValues)).length : Nat) : Int)))
          (some false)
        <| idx a0 v1_0 fun x42 =>
        bnd (F_tidegateref01_Few n x42.fValues) fun x43 =>
        cnd (!(x43))
          (some false)
        <| F_tidegateref05_Few_l1 n a0 k1_0_0 mv1_0 (IntKind.wrap .i64 (v1_0 + 1)))
      <| k1_0_0)
    <| k1_0_0
def F_tidegateref05_Few (n : Nat) (a0 : (List T_api_Event)) : Option (Bool) :=
  F_tidegateref05_Few_l1 n a0
    (some (decide ((((List.map e_api_Event (a0)).length : Nat) : Int) ≤ 12))) n 0
def F_stream_all_1 (n : Nat) (a0 : T_api_Event) : Option (Bool) :=
  bnd (F_stream_placed n a0) fun x1 =>
  some !(x1)
def F_slices_IndexFunc_l1 (n : Nat) (a0 : (List T_api_Event)) (k1_0_0 : Option (Int)) : Nat → Int → Option (Int)
  | 0, _ => none
  | mv1_0 + 1, v1_0 =>
    cnd (decide (v1_0 < (((List.map e_api_Event (a0)).length : Nat) : Int)))
      (idx a0 v1_0 fun x41 =>
      bnd (F_stream_all_1 n x41) fun x42 =>
      cnd (x42)
        (some v1_0)
      <| F_slices_IndexFunc_l1 n a0 k1_0_0 mv1_0 (IntKind.wrap .i64 (v1_0 + 1)))
    <| k1_0_0
def F_slices_IndexFunc (n : Nat) (a0 : (List T_api_Event)) : Option (Int) :=
  F_slices_IndexFunc_l1 n a0
    (some (-1)) n 0
def F_slices_ContainsFunc (n : Nat) (a0 : (List T_api_Event)) : Option (Bool) :=
  bnd (F_slices_IndexFunc n a0) fun x1 =>
  some (decide (0 ≤ x1))
def F_stream_all (n : Nat) (a0 : (List T_api_Event)) : Option (Int) :=
  cnd (decide (4096 < (((List.map e_api_Event (a0)).length : Nat) : Int)))
    (some 5)
  <| bnd (F_slices_ContainsFunc n a0) fun x1 =>
  cnd (x1)
    (some 2)
  <| some 0
def F_slices_Equal_l1 (n : Nat) (a1 : (List T_api_Value)) (a0 : (List T_api_Value)) (k1_0_0 : Option (Bool)) : Nat → Int → Option (Bool)
  | 0, _ => none
  | mv1_0 + 1, v1_0 =>
    cnd (decide (v1_0 < (((List.map e_api_Value (a0)).length : Nat) : Int)))
      (idx a0 v1_0 fun x41 =>
      idx a1 v1_0 fun x42 =>
      cnd (!(decide (x41.fKind = x42.fKind) && (decide (x41.fNum = x42.fNum) && ((x41.fText.toList == x42.fText.toList) && true))))
        (some false)
      <| F_slices_Equal_l1 n a1 a0 k1_0_0 mv1_0 (IntKind.wrap .i64 (v1_0 + 1)))
    <| k1_0_0
def F_slices_Equal (n : Nat) (a0 : (List T_api_Value)) (a1 : (List T_api_Value)) : Option (Bool) :=
  cnd (!decide ((((List.map e_api_Value (a0)).length : Nat) : Int) = (((List.map e_api_Value (a1)).length : Nat) : Int)))
    (some false)
  <| F_slices_Equal_l1 n a1 a0
    (some true) n 0
def F_stream_equal (n : Nat) (a0 : T_api_Event) (a1 : T_api_Event) : Option (Bool) :=
  bnd (F_stream_of n a0) fun x1 =>
  bnd (F_stream_of n a1) fun x2 =>
  cnd ((decide (x1.fsource = x2.fsource) && (decide (x1.fseq = x2.fseq) && true)))
    (cnd (decide (a0.fType = a1.fType))
      (cnd (decide (a0.fTime = a1.fTime))
        (bnd (F_slices_Equal n a0.fValues a1.fValues) fun x3 =>
        some x3)
      <| some false)
    <| some false)
  <| some false
def F_stream_sorted_l1 (n : Nat) (a0 : (List T_api_Event)) (k1_0_0 : (List T_api_Event) → Option ((List T_api_Event) × Bool)) : Nat → Int × (List (T_stream_identity × T_api_Event)) × (List T_api_Event) → Option ((List T_api_Event) × Bool)
  | 0, _ => none
  | mv1_0 + 1, v1_0 =>
    cnd (decide (v1_0.1 < (((List.map e_api_Event (a0)).length : Nat) : Int)))
      (idx a0 v1_0.1 fun x43 =>
      bnd (F_stream_of n x43) fun x44 =>
      mgt v1_0.2.1 x44 (⟨0, 0, 0, 0, []⟩ : T_api_Event) fun x45 x46 =>
      cnd (x46)
        (bnd (F_stream_equal n x45 x43) fun x47 =>
        cnd (!(x47))
          (some ([], false))
        <| cnd (!(x46))
          (bnd (F_stream_of n x43) fun x48 =>
          mst v1_0.2.1 x48 x43 fun x49 =>
          bnd (F_stream_copied n x43) fun x50 =>
          app v1_0.2.2 [x50] 56 fun x51 =>
          F_stream_sorted_l1 n a0 k1_0_0 mv1_0 ((IntKind.wrap .i64 (v1_0.1 + 1)), x49, x51))
        <| F_stream_sorted_l1 n a0 k1_0_0 mv1_0 ((IntKind.wrap .i64 (v1_0.1 + 1)), v1_0.2.1, v1_0.2.2))
      <| cnd (!(x46))
        (bnd (F_stream_of n x43) fun x52 =>
        mst v1_0.2.1 x52 x43 fun x53 =>
        bnd (F_stream_copied n x43) fun x54 =>
        app v1_0.2.2 [x54] 56 fun x55 =>
        F_stream_sorted_l1 n a0 k1_0_0 mv1_0 ((IntKind.wrap .i64 (v1_0.1 + 1)), x53, x55))
      <| F_stream_sorted_l1 n a0 k1_0_0 mv1_0 ((IntKind.wrap .i64 (v1_0.1 + 1)), v1_0.2.1, v1_0.2.2))
    <| k1_0_0 v1_0.2.2
def F_stream_sorted (n : Nat) (a0 : (List T_api_Event)) : Option ((List T_api_Event) × Bool) :=
  F_stream_sorted_l1 n a0
    (fun k1_0_0y => bndC (F_sort evCmp n k1_0_0y) fun x42 =>
  some (x42, true)) n (0, [], [])
def F_stream_Sort (n : Nat) (a0 : (List T_api_Event)) : Option ((List T_api_Event) × Int) :=
  bnd (F_stream_all n a0) fun x1 =>
  cnd (!decide (x1 = 0))
    (some ([], x1))
  <| bnd (F_stream_sorted n a0) fun x2 =>
  cnd (!(x2.2))
    (some ([], 22))
  <| some (x2.1, 0)
def F_stream_Inversions_l2 (n : Nat) (a0 : (List T_api_Event)) (v1_0 : Int × Int) (x43 : T_api_Event) (x44 : (List T_api_Event)) (k2_1_0 : Int → Option (Int × Int)) : Nat → Int × Int → Option (Int × Int)
  | 0, _ => none
  | mv2_1 + 1, v2_1 =>
    cnd (decide (v2_1.2 < (((List.map e_api_Event (x44)).length : Nat) : Int)))
      (idx x44 v2_1.2 fun x86 =>
      bnd (F_evCmp n x86 x43) fun x87 =>
      cnd (decide (0 < x87))
        (F_stream_Inversions_l2 n a0 v1_0 x43 x44 k2_1_0 mv2_1 ((IntKind.wrap .i64 (v2_1.1 + 1)), (IntKind.wrap .i64 (v2_1.2 + 1))))
      <| F_stream_Inversions_l2 n a0 v1_0 x43 x44 k2_1_0 mv2_1 (v2_1.1, (IntKind.wrap .i64 (v2_1.2 + 1))))
    <| k2_1_0 v2_1.1
def F_stream_Inversions_l1 (n : Nat) (a0 : (List T_api_Event)) (k1_0_0 : Int → Option (Int × Int)) : Nat → Int × Int → Option (Int × Int)
  | 0, _ => none
  | mv1_0 + 1, v1_0 =>
    cnd (decide (v1_0.2 < (((List.map e_api_Event (a0)).length : Nat) : Int)))
      (idx a0 v1_0.2 fun x43 =>
      sls a0 0 v1_0.2 fun x44 =>
      F_stream_Inversions_l2 n a0 v1_0 x43 x44
        (fun k2_1_0y => F_stream_Inversions_l1 n a0 k1_0_0 mv1_0 (k2_1_0y, (IntKind.wrap .i64 (v1_0.2 + 1)))) n (v1_0.1, 0))
    <| k1_0_0 v1_0.1
def F_stream_Inversions (n : Nat) (a0 : (List T_api_Event)) : Option (Int × Int) :=
  bnd (F_stream_all n a0) fun x1 =>
  cnd (!decide (x1 = 0))
    (some (0, x1))
  <| F_stream_Inversions_l1 n a0
    (fun k1_0_0y => some (k1_0_0y, 0)) n (0, 0)
def F_stream_compare (n : Nat) (a0 : T_api_Event) (a1 : T_api_Ref) : Option (Int) :=
  bnd (F_cmpI n a0.fTime a1.fTime) fun x1 =>
  bnd (F_cmpI n a0.fSource a1.fSource) fun x2 =>
  bnd (F_cmpI n a0.fSeq a1.fSeq) fun x3 =>
  bnd (F_cmp_Or_d n ([x1, x2, x3])) fun x4 =>
  some x4
def F_slices_BinarySearchFunc_l1 (n : Nat) (a1 : T_api_Ref) (a0 : (List T_api_Event)) (k1_0_0 : Int → Option (Int × Bool)) : Nat → Int × Int → Option (Int × Bool)
  | 0, _ => none
  | mv1_0 + 1, v1_0 =>
    cnd (decide (v1_0.1 < v1_0.2))
      (shx (1 : Int) <| idx a0 (IntKind.wrap .i64 (Int.fdiv (IntKind.wrap .u64 (IntKind.wrap .i64 (v1_0.1 + v1_0.2))) (2 ^ min (Int.toNat (1 : Int)) (IntKind.bits .u64)))) fun x44 =>
      bnd (F_stream_compare n x44 (⟨a1.fTime, a1.fSource, a1.fSeq⟩ : T_api_Ref)) fun x45 =>
      cnd (decide (x45 < 0))
        (F_slices_BinarySearchFunc_l1 n a1 a0 k1_0_0 mv1_0 ((IntKind.wrap .i64 ((IntKind.wrap .i64 (Int.fdiv (IntKind.wrap .u64 (IntKind.wrap .i64 (v1_0.1 + v1_0.2))) (2 ^ min (Int.toNat (1 : Int)) (IntKind.bits .u64)))) + 1)), v1_0.2))
      <| F_slices_BinarySearchFunc_l1 n a1 a0 k1_0_0 mv1_0 (v1_0.1, (IntKind.wrap .i64 (Int.fdiv (IntKind.wrap .u64 (IntKind.wrap .i64 (v1_0.1 + v1_0.2))) (2 ^ min (Int.toNat (1 : Int)) (IntKind.bits .u64))))))
    <| k1_0_0 v1_0.1
def F_slices_BinarySearchFunc (n : Nat) (a0 : (List T_api_Event)) (a1 : T_api_Ref) : Option (Int × Bool) :=
  F_slices_BinarySearchFunc_l1 n a1 a0
    (fun k1_0_0y => cnd (decide (k1_0_0y < (((List.map e_api_Event (a0)).length : Nat) : Int)))
    (idx a0 k1_0_0y fun x42 =>
    bnd (F_stream_compare n x42 (⟨a1.fTime, a1.fSource, a1.fSeq⟩ : T_api_Ref)) fun x43 =>
    some (k1_0_0y, decide (x43 = 0)))
  <| some (k1_0_0y, false)) n (0, (((List.map e_api_Event (a0)).length : Nat) : Int))
def F_stream_Find (n : Nat) (a0 : (List T_api_Event)) (a1 : T_api_Ref) : Option (Int × Bool × Int) :=
  bnd (F_stream_Check n a0) fun x1 =>
  cnd (!decide (x1 = 0))
    (some (0, false, x1))
  <| bnd (F_slices_BinarySearchFunc n a0 (⟨a1.fTime, a1.fSource, a1.fSeq⟩ : T_api_Ref)) fun x2 =>
  some (x2.1, x2.2, 0)
def F_stream_Slice_l1 (n : Nat) (a2 : Int) (a1 : Int) (a0 : (List T_api_Event)) (k1_0_0 : (List T_api_Event) → Option ((List T_api_Event) × Int)) : Nat → Int × (List T_api_Event) → Option ((List T_api_Event) × Int)
  | 0, _ => none
  | mv1_0 + 1, v1_0 =>
    cnd (decide (v1_0.1 < (((List.map e_api_Event (a0)).length : Nat) : Int)))
      (idx a0 v1_0.1 fun x43 =>
      cnd (decide (a1 ≤ x43.fTime))
        (cnd (decide (x43.fTime ≤ a2))
          (bnd (F_stream_copied n x43) fun x44 =>
          app v1_0.2 [x44] 56 fun x45 =>
          F_stream_Slice_l1 n a2 a1 a0 k1_0_0 mv1_0 ((IntKind.wrap .i64 (v1_0.1 + 1)), x45))
        <| F_stream_Slice_l1 n a2 a1 a0 k1_0_0 mv1_0 ((IntKind.wrap .i64 (v1_0.1 + 1)), v1_0.2))
      <| F_stream_Slice_l1 n a2 a1 a0 k1_0_0 mv1_0 ((IntKind.wrap .i64 (v1_0.1 + 1)), v1_0.2))
    <| k1_0_0 v1_0.2
def F_stream_Slice (n : Nat) (a0 : (List T_api_Event)) (a1 : Int) (a2 : Int) : Option ((List T_api_Event) × Int) :=
  bnd (F_stream_Check n a0) fun x1 =>
  cnd (!decide (x1 = 0))
    (some ([], x1))
  <| F_stream_Slice_l1 n a2 a1 a0
    (fun k1_0_0y => some (k1_0_0y, 0)) n (0, [])
def F_slices_Grow (n : Nat) (a1 : Int) : Option ((List T_api_Event)) :=
  cnd (decide (a1 < 0))
    (none)
  <| cnd (decide (0 < (IntKind.wrap .i64 (a1 - (IntKind.wrap .i64 ((0 : Int) - 0))))))
    (psx (IntKind.wrap .i64 (a1 - (IntKind.wrap .i64 ((0 : Int) - 0)))) <| mak (IntKind.wrap .i64 (a1 - (IntKind.wrap .i64 ((0 : Int) - 0)))) 56 (⟨0, 0, 0, 0, []⟩ : T_api_Event) fun x1 =>
    sls x1 0 0 fun x2 =>
    some x2)
  <| some []
def F_slices_Concat_l2 (n : Nat) (a0 : (List (List T_api_Event))) (k2_1_0 : (List T_api_Event) → Option ((List T_api_Event))) : Nat → Int × (List T_api_Event) → Option ((List T_api_Event))
  | 0, _ => none
  | mv2_1 + 1, v2_1 =>
    cnd (decide (v2_1.1 < (((List.map (fun q => AV.sl 5 (List.map e_api_Event q)) (a0)).length : Nat) : Int)))
      (idx a0 v2_1.1 fun x84 =>
      app v2_1.2 x84 56 fun x85 =>
      F_slices_Concat_l2 n a0 k2_1_0 mv2_1 ((IntKind.wrap .i64 (v2_1.1 + 1)), x85))
    <| k2_1_0 v2_1.2
def F_slices_Concat_l1 (n : Nat) (a0 : (List (List T_api_Event))) (k1_0_0 : Int → Option ((List T_api_Event))) : Nat → Int × Int → Option ((List T_api_Event))
  | 0, _ => none
  | mv1_0 + 1, v1_0 =>
    cnd (decide (v1_0.2 < (((List.map (fun q => AV.sl 5 (List.map e_api_Event q)) (a0)).length : Nat) : Int)))
      (idx a0 v1_0.2 fun x86 =>
      cnd (decide ((IntKind.wrap .i64 (v1_0.1 + (((List.map e_api_Event (x86)).length : Nat) : Int))) < 0))
        (none)
      <| F_slices_Concat_l1 n a0 k1_0_0 mv1_0 ((IntKind.wrap .i64 (v1_0.1 + (((List.map e_api_Event (x86)).length : Nat) : Int))), (IntKind.wrap .i64 (v1_0.2 + 1))))
    <| k1_0_0 v1_0.1
def F_slices_Concat (n : Nat) (a0 : (List (List T_api_Event))) : Option ((List T_api_Event)) :=
  F_slices_Concat_l1 n a0
    (fun k1_0_0y => bndR (F_slices_Grow n k1_0_0y) fun x42 =>
  F_slices_Concat_l2 n a0
    (fun k2_1_0y => some k2_1_0y) n (0, x42)) n (0, 0)
def F_stream_joined (n : Nat) (a0 : (List T_api_Event)) (a1 : (List T_api_Event)) : Option ((List T_api_Event) × Int) :=
  bnd (F_slices_Concat n ([a0, a1])) fun x1 =>
  bnd (F_stream_sorted n x1) fun x2 =>
  cnd (!(x2.2))
    (some ([], 22))
  <| cnd (decide (4096 < (((List.map e_api_Event (x2.1)).length : Nat) : Int)))
    (some ([], 5))
  <| some (x2.1, 0)
def F_stream_Merge (n : Nat) (a0 : (List T_api_Event)) (a1 : (List T_api_Event)) : Option ((List T_api_Event) × Int) :=
  bnd (F_stream_Check n a0) fun x1 =>
  cnd (!decide (x1 = 0))
    (some ([], x1))
  <| bnd (F_stream_Check n a1) fun x2 =>
  cnd (!decide (x2 = 0))
    (some ([], x2))
  <| bnd (F_stream_joined n a0 a1) fun x3 =>
  some (x3.1, x3.2)
def F_tidegatelaw05_awake (n : Nat) : Option (Bool) :=
  bnd (F_stream_Sort n ([⟨0, 0, 0, 5, []⟩, ⟨0, 1, 0, 3, []⟩, ⟨0, 2, 0, 5, []⟩, ⟨0, 0, 0, 5, []⟩])) fun x1 =>
  bnd (F_stream_Inversions n ([⟨0, 0, 0, 5, []⟩, ⟨0, 1, 0, 3, []⟩, ⟨0, 2, 0, 5, []⟩])) fun x2 =>
  bnd (F_stream_Find n x1.1 (⟨5, 0, 1⟩ : T_api_Ref)) fun x3 =>
  bnd (F_stream_Find n x1.1 (⟨5, 0, 2⟩ : T_api_Ref)) fun x4 =>
  bnd (F_stream_Slice n x1.1 4 5) fun x5 =>
  bnd (F_stream_Merge n ([⟨0, 1, 0, 3, []⟩, ⟨0, 0, 0, 5, []⟩]) ([⟨0, 0, 0, 5, [⟨0, 1, ByteArray.empty⟩]⟩])) fun x6 =>
  cnd (!decide (x1.2 = 0))
    (some false)
  <| cnd (!decide (x2.2 = 0))
    (some false)
  <| cnd (!decide (x3.2.2 = 0))
    (some false)
  <| cnd (!decide (x4.2.2 = 0))
    (some false)
  <| cnd (!decide (x5.2 = 0))
    (some false)
  <| cnd (!decide (x6.2 = 22))
    (some false)
  <| bnd (F_tidegateref05_Same n x1.1 ([⟨0, 1, 0, 3, []⟩, ⟨0, 0, 0, 5, []⟩, ⟨0, 2, 0, 5, []⟩])) fun x7 =>
  cnd (x7)
    (cnd (decide (x2.1 = 1))
      (cnd (decide (x3.1 = 2))
        (cnd (!(x3.2.1))
          (cnd (decide (x4.1 = 2))
            (cnd (x4.2.1)
              (bnd (F_tidegateref05_Same n x5.1 ([⟨0, 0, 0, 5, []⟩, ⟨0, 2, 0, 5, []⟩])) fun x8 =>
              some x8)
            <| some false)
          <| some false)
        <| some false)
      <| some false)
    <| some false)
  <| some false
end Go.Proofs.Ytkbopbgcjfcjjaa
namespace Go.Proofs.Ytkbopbgcjfcjjaa
open Go.RowKit

abbrev Ev := T_api_Event
def placedB (e : Ev) : Bool := decide (0 ≤ e.fTime) && (decide (e.fTime ≤ 1099511627776) && (decide (0 ≤ e.fSource) && (decide (e.fSource < 8) && (decide (0 ≤ e.fSeq) && decide (e.fSeq ≤ 1099511627776)))))
def idt (e : Ev) : T_stream_identity := ⟨e.fSource, e.fSeq⟩
theorem p_placed (n : Nat) (e : Ev) : F_stream_placed n e = some (placedB e) := by
  unfold F_stream_placed placedB
  simp only [cnd_if]
  repeat' split
  all_goals (simp_all <;> omega)
theorem p_rplaced (n : Nat) (e : Ev) : F_tidegateref05_Placed n e = some (placedB e) := by
  unfold F_tidegateref05_Placed placedB
  simp only [cnd_if]
  repeat' split
  all_goals (simp_all <;> omega)
theorem p_of (n : Nat) (e : Ev) : F_stream_of n e = some (idt e) := rfl
theorem p_ref (n : Nat) (e : Ev) : F_tidegateref05_Ref n e = some ⟨e.fTime, e.fSource, e.fSeq⟩ := rfl
def refOf (e : Ev) : T_api_Ref := ⟨e.fTime, e.fSource, e.fSeq⟩
def rCmp (a b : T_api_Ref) : Int := or3 (cmpI a.fTime b.fTime) (cmpI a.fSource b.fSource) (cmpI a.fSeq b.fSeq)
theorem p_order (n : Nat) (a b : T_api_Ref) : F_tidegateref05_Order n a b = some (rCmp a b) := by
  unfold F_tidegateref05_Order rCmp or3 cmpI
  simp only [cnd_if, cnd_not]
  repeat' split
  all_goals first | rfl | (exfalso; omega)
theorem p_twin (n : Nat) (a b : Ev) : F_tidegateref05_Twin n a b = some (decide (idt a = idt b)) := by
  unfold F_tidegateref05_Twin
  simp only [cnd_if]
  split
  · rename_i h; simp [idt, h]
  · rename_i h; simp [idt, h]
theorem val_eq (x y : T_api_Value) : (decide (x.fKind = y.fKind) && (decide (x.fNum = y.fNum) && ((x.fText.toList == y.fText.toList) && true))) = decide (x = y) := by
  cases x; cases y
  simp [bytes_dec]
theorem drop_eq_cons {α : Type} (l : List α) (k : Nat) (h : k < l.length) : l.drop k = l[k] :: l.drop (k + 1) := List.drop_eq_getElem_cons h
theorem p_equal_l1 (n : Nat) (b a : List T_api_Value) (K : Option Bool) : ∀ (m k : Nat), k ≤ a.length → a.length = b.length → a.length ≤ 1000000 → a.length < m + k → F_slices_Equal_l1 n b a K m k = if a.drop k = b.drop k then K else some false
  | 0, k, h1, _, h2, h3 => by omega
  | m + 1, k, h1, hl, h2, h3 => by
    unfold F_slices_Equal_l1
    simp only [List.length_map, cnd_if, cnd_not, val_eq]
    by_cases h : k < a.length
    · rw [if_pos (by omega), idx_nat h, idx_nat (by omega : k < b.length), wrapS k (by omega)]
      rw [drop_eq_cons a k h, drop_eq_cons b k (by omega)]
      by_cases he : a[k] = b[k]'(by omega)
      · rw [if_pos he, p_equal_l1 n b a K m (k + 1) (by omega) hl h2 (by omega), he]
        simp only [List.cons.injEq, true_and]
      · rw [if_neg he, if_neg (fun e => he (List.cons.inj e).1)]
    · rw [if_neg (by omega), List.drop_eq_nil_of_le (by omega), List.drop_eq_nil_of_le (by omega), if_pos rfl]
theorem p_equal (n : Nat) (a b : List T_api_Value) (hn : a.length < n) (h2 : a.length ≤ 1000000) : F_slices_Equal n a b = some (decide (a = b)) := by
  unfold F_slices_Equal
  simp only [List.length_map, cnd_if, cnd_not]
  by_cases h : a.length = b.length
  · rw [if_pos (by omega)]
    have := p_equal_l1 n b a (some true) n 0 (by omega) h h2 (by omega)
    simp only [Int.natCast_zero, List.drop_zero] at this
    rw [this]
    by_cases e : a = b <;> simp [e]
  · rw [if_neg (by omega)]
    have : a ≠ b := fun e => h (by rw [e])
    simp [this]
theorem p_rsame1_l1 (n : Nat) (b a : List T_api_Value) (K : Option Bool) : ∀ (m k : Nat), k ≤ a.length → a.length = b.length → a.length ≤ 1000000 → a.length < m + k → F_tidegateref01_Same_l1 n b a K m k = if a.drop k = b.drop k then K else some false
  | 0, k, h1, _, h2, h3 => by omega
  | m + 1, k, h1, hl, h2, h3 => by
    unfold F_tidegateref01_Same_l1
    simp only [List.length_map, cnd_if, cnd_not, val_eq]
    by_cases h : k < a.length
    · rw [if_pos (by omega), idx_nat h, idx_nat (by omega : k < b.length), wrapS k (by omega)]
      rw [drop_eq_cons a k h, drop_eq_cons b k (by omega)]
      by_cases he : a[k] = b[k]'(by omega)
      · rw [if_pos he, p_rsame1_l1 n b a K m (k + 1) (by omega) hl h2 (by omega), he]
        simp only [List.cons.injEq, true_and]
      · rw [if_neg he, if_neg (fun e => he (List.cons.inj e).1)]
    · rw [if_neg (by omega), List.drop_eq_nil_of_le (by omega), List.drop_eq_nil_of_le (by omega), if_pos rfl]
theorem p_rsame1 (n : Nat) (a b : List T_api_Value) (hn : a.length < n) (h2 : a.length ≤ 1000000) : F_tidegateref01_Same n a b = some (decide (a = b)) := by
  unfold F_tidegateref01_Same
  simp only [List.length_map, cnd_if, cnd_not]
  by_cases h : a.length = b.length
  · rw [if_pos (by omega)]
    have := p_rsame1_l1 n b a (some true) n 0 (by omega) h h2 (by omega)
    simp only [Int.natCast_zero, List.drop_zero] at this
    rw [this]
    by_cases e : a = b <;> simp [e]
  · rw [if_neg (by omega)]
    have : a ≠ b := fun e => h (by rw [e])
    simp [this]
def fewV (n : Nat) (e : Ev) : Prop := e.fValues.length < n ∧ e.fValues.length ≤ 1000000
theorem p_evEqual (n : Nat) (a b : Ev) (ha : fewV n a) : F_stream_equal n a b = some (decide (a = b)) := by
  unfold F_stream_equal
  simp only [p_of, bnd_some, p_equal n a.fValues b.fValues ha.1 ha.2, cnd_if, cnd_b]
  obtain ⟨s, q, ty, t, v⟩ := a
  obtain ⟨s', q', ty', t', v'⟩ := b
  simp only [idt, T_api_Event.mk.injEq, Bool.and_true, Bool.and_eq_true, decide_eq_true_eq]
  by_cases h1 : s = s' <;> by_cases h2 : q = q' <;> by_cases h3 : ty = ty' <;> by_cases h4 : t = t' <;> simp [h1, h2, h3, h4]
theorem p_rEqual (n : Nat) (a b : Ev) (ha : fewV n a) : F_tidegateref05_Equal n a b = some (decide (a = b)) := by
  unfold F_tidegateref05_Equal
  simp only [p_ref, bnd_some, p_rsame1 n a.fValues b.fValues ha.1 ha.2, cnd_if, cnd_b]
  obtain ⟨s, q, ty, t, v⟩ := a
  obtain ⟨s', q', ty', t', v'⟩ := b
  simp only [T_api_Event.mk.injEq, Bool.and_true, Bool.and_eq_true, decide_eq_true_eq]
  by_cases h1 : s = s' <;> by_cases h2 : q = q' <;> by_cases h3 : ty = ty' <;> by_cases h4 : t = t' <;> simp [h1, h2, h3, h4]
theorem p_rSame_l1 (n : Nat) (b a : List Ev) (K : Option Bool) (hv : ∀ x ∈ a, fewV n x) : ∀ (m k : Nat), k ≤ a.length → a.length = b.length → a.length ≤ 1000000 → a.length < m + k → F_tidegateref05_Same_l1 n b a K m k = if a.drop k = b.drop k then K else some false
  | 0, k, h1, _, h2, h3 => by omega
  | m + 1, k, h1, hl, h2, h3 => by
    unfold F_tidegateref05_Same_l1
    simp only [List.length_map, cnd_if, cnd_not]
    by_cases h : k < a.length
    · rw [if_pos (by omega), idx_nat h, idx_nat (by omega : k < b.length), wrapS k (by omega)]
      rw [p_rEqual n _ _ (hv _ (List.getElem_mem h)), bnd_some, cnd_if]
      rw [drop_eq_cons a k h, drop_eq_cons b k (by omega)]
      by_cases he : a[k] = b[k]'(by omega)
      · rw [if_pos he, p_rSame_l1 n b a K hv m (k + 1) (by omega) hl h2 (by omega), he]
        simp only [List.cons.injEq, true_and]
      · rw [if_neg he, if_neg (fun e => he (List.cons.inj e).1)]
    · rw [if_neg (by omega), List.drop_eq_nil_of_le (by omega), List.drop_eq_nil_of_le (by omega), if_pos rfl]
theorem p_rSame (n : Nat) (a b : List Ev) (hv : ∀ x ∈ a, fewV n x) (hn : a.length < n) (h2 : a.length ≤ 1000000) : F_tidegateref05_Same n a b = some (decide (a = b)) := by
  unfold F_tidegateref05_Same
  simp only [List.length_map, cnd_if, cnd_not]
  by_cases h : a.length = b.length
  · rw [if_pos (by omega)]
    have := p_rSame_l1 n b a (some true) hv n 0 (by omega) h h2 (by omega)
    simp only [Int.natCast_zero, List.drop_zero] at this
    rw [this]
    by_cases e : a = b <;> simp [e]
  · rw [if_neg (by omega)]
    have : a ≠ b := fun e => h (by rw [e])
    simp [this]

def few1 (l : List T_api_Value) : Bool := (l.take 40).all (fun v => decide (v.fText.size ≤ 128)) && decide (l.length < 40)
theorem p_few1_l1 (n : Nat) (l : List T_api_Value) (K : Option Bool) : ∀ (m k : Nat), k ≤ l.length → k ≤ 40 → 40 < m + k → F_tidegateref01_Few_l1 n l K m k = if ((l.take 40).drop k).all (fun v => decide (v.fText.size ≤ 128)) then K else some false
  | 0, k, h1, h2, h3 => by omega
  | m + 1, k, h1, h2, h3 => by
    unfold F_tidegateref01_Few_l1
    simp only [List.length_map, cnd_if]
    by_cases h : k < l.length
    · rw [if_pos (by omega)]
      by_cases h4 : k < 40
      · rw [if_pos (by omega), idx_nat h, wrapS k (by omega)]
        have hk : k < (l.take 40).length := by rw [List.length_take]; omega
        rw [drop_eq_cons (l.take 40) k hk, List.all_cons, List.getElem_take]
        by_cases h5 : l[k].fText.size ≤ 128
        · rw [if_neg (by omega), p_few1_l1 n l K m (k + 1) (by omega) (by omega) (by omega)]
          simp [h5]
        · rw [if_pos (by omega)]
          simp [h5]
      · rw [if_neg (by omega), List.drop_eq_nil_of_le (by rw [List.length_take]; omega)]; simp
    · rw [if_neg (by omega), List.drop_eq_nil_of_le (by rw [List.length_take]; omega)]; simp
theorem p_few1 (n : Nat) (l : List T_api_Value) (hn : 41 ≤ n) : F_tidegateref01_Few n l = some (few1 l) := by
  unfold F_tidegateref01_Few few1
  have := p_few1_l1 n l (some (decide ((((List.map e_api_Value l).length : Nat) : Int) < 40))) n 0 (by omega) (by omega) (by omega)
  simp only [Int.natCast_zero, List.drop_zero] at this
  rw [this]
  simp only [List.length_map]
  split
  · rename_i h; rw [h]; simp; omega
  · rename_i h; simp only [Bool.not_eq_true] at h; rw [h]; rfl
def fewE (l : List Ev) : Bool := (l.take 20).all (fun e => decide (e.fValues.length ≤ 12) && few1 e.fValues) && decide (l.length ≤ 12)
theorem p_few_l1 (n : Nat) (l : List Ev) (K : Option Bool) (hn : 41 ≤ n) : ∀ (m k : Nat), k ≤ l.length → k ≤ 20 → 20 < m + k → F_tidegateref05_Few_l1 n l K m k = if ((l.take 20).drop k).all (fun e => decide (e.fValues.length ≤ 12) && few1 e.fValues) then K else some false
  | 0, k, h1, h2, h3 => by omega
  | m + 1, k, h1, h2, h3 => by
    unfold F_tidegateref05_Few_l1
    simp only [List.length_map, cnd_if, cnd_not]
    by_cases h : k < l.length
    · rw [if_pos (by omega)]
      by_cases h4 : k < 20
      · rw [if_pos (by omega), idx_nat h, wrapS k (by omega)]
        have hk : k < (l.take 20).length := by rw [List.length_take]; omega
        rw [drop_eq_cons (l.take 20) k hk, List.all_cons, List.getElem_take]
        by_cases h5 : l[k].fValues.length ≤ 12
        · rw [if_neg (by omega), idx_nat h, p_few1 n _ hn, bnd_some, cnd_b, p_few_l1 n l K hn m (k + 1) (by omega) (by omega) (by omega)]
          by_cases h6 : few1 l[k].fValues = true
          · simp [h5, h6]
          · simp [h5, h6]
        · rw [if_pos (by omega)]
          simp [h5]
      · rw [if_neg (by omega), List.drop_eq_nil_of_le (by rw [List.length_take]; omega)]; simp
    · rw [if_neg (by omega), List.drop_eq_nil_of_le (by rw [List.length_take]; omega)]; simp
theorem p_few (n : Nat) (l : List Ev) (hn : 41 ≤ n) : F_tidegateref05_Few n l = some (fewE l) := by
  unfold F_tidegateref05_Few fewE
  have := p_few_l1 n l (some (decide ((((List.map e_api_Event l).length : Nat) : Int) ≤ 12))) hn n 0 (by omega) (by omega) (by omega)
  simp only [Int.natCast_zero, List.drop_zero] at this
  rw [this]
  simp only [List.length_map]
  split
  · rename_i h; rw [h]; simp; omega
  · rename_i h; simp only [Bool.not_eq_true] at h; rw [h]; rfl
theorem fewE_out {l : List Ev} (h : fewE l = true) : l.length ≤ 12 ∧ ∀ e ∈ l, e.fValues.length ≤ 12 := by
  unfold fewE at h
  simp only [Bool.and_eq_true, decide_eq_true_eq, List.all_eq_true] at h
  refine ⟨h.2, fun e he => (h.1 e ?_).1⟩
  rw [List.take_of_length_le (by omega)]
  exact he

def headGe : List Ev → Ev → Bool
  | [], _ => false
  | x :: _, e => decide (0 ≤ evCmp x e)
def chk : List Ev → List Ev → Int
  | _, [] => 0
  | p, e :: r => if placedB e = false then 2 else if headGe p e = true then 14 else if p.any (fun x => decide (idt x = idt e)) then 7 else chk (e :: p) r
def strChk (l : List Ev) : Int := if 4096 < l.length then 5 else chk [] l
def SeenOk (m : List (T_stream_identity × Bool)) (p : List Ev) : Prop := ∀ k, (mlk m k).getD false = p.any (fun x => decide (idt x = k))
theorem mlk_mput {κ ν : Type} [DecidableEq κ] (l : List (κ × ν)) (k : κ) (v : ν) (k' : κ) : mlk (mput l k v) k' = if k' = k then some v else mlk l k' := by
  induction l with
  | nil => simp [mput, mlk]
  | cons a r ih =>
    obtain ⟨a, x⟩ := a
    simp only [mput]
    by_cases h : k = a
    · subst h
      rw [if_pos rfl]
      simp only [mlk]
      by_cases h2 : k' = k
      · simp [h2]
      · simp [h2]
    · rw [if_neg h]
      simp only [mlk, ih]
      by_cases h2 : k' = a
      · have h3 : k' ≠ k := fun e => h (by rw [← e, h2])
        simp [h2, h3]
        intro e; exact absurd e.symm h
      · simp [h2]
theorem SeenOk.put {m : List (T_stream_identity × Bool)} {p : List Ev} (h : SeenOk m p) (e : Ev) : SeenOk (mput m (idt e) true) (e :: p) := fun k => by
  rw [mlk_mput, List.any_cons]
  by_cases hk : k = idt e
  · subst hk; simp
  · rw [if_neg hk, h k]
    have : decide (idt e = k) = false := decide_eq_false (fun e => hk e.symm)
    rw [this, Bool.false_or]
theorem rev_take {l : List Ev} {k : Nat} (h : k < l.length) : (l.take (k + 1)).reverse = l[k] :: (l.take k).reverse := by
  rw [List.take_succ_eq_append_getElem h, List.reverse_append]; rfl
theorem rev_head {l : List Ev} {k : Nat} (h0 : 0 < k) (h : k ≤ l.length) : ∃ t, (l.take k).reverse = l[k - 1] :: t := by
  obtain ⟨j, rfl⟩ : ∃ j, k = j + 1 := ⟨k - 1, by omega⟩
  exact ⟨_, by rw [rev_take (by omega)]; rfl⟩
theorem wrap_pred {k : Nat} (h0 : 0 < k) (h : k ≤ 1000000) : IntKind.wrap .i64 ((k : Int) - 1) = ((k - 1 : Nat) : Int) := by rw [wrap_in _ (by omega)]; omega
theorem mgt_eq {κ ν β : Type} [DecidableEq κ] (l : List (κ × ν)) (k : κ) (z : ν) (c : ν → Bool → Option β) : mgt l k z c = c ((mlk l k).getD z) (mlk l k).isSome := by unfold mgt; rfl
theorem mst_eq {κ ν β : Type} [DecidableEq κ] (l : List (κ × ν)) (k : κ) (v : ν) (c : List (κ × ν) → Option β) : mst l k v c = c (mput l k v) := by unfold mst; rfl
theorem p_chk_l1 (n : Nat) (l : List Ev) : ∀ (m k : Nat) (seen : List (T_stream_identity × Bool)), k ≤ l.length → l.length ≤ 1000000 → l.length < m + k → SeenOk seen (l.take k).reverse →
    F_stream_Check_l1 n l (some 0) m ((k : Int), seen) = some (chk (l.take k).reverse (l.drop k))
  | 0, k, _, h1, h2, h3, _ => by omega
  | m + 1, k, seen, h1, h2, h3, hs => by
    unfold F_stream_Check_l1
    simp only [List.length_map, cnd_if, cnd_not]
    by_cases h : k < l.length
    · rw [if_pos (by omega), idx_nat h, wrapS k (by omega)]
      rw [drop_eq_cons l k h]
      conv => rhs; unfold chk
      have hs' : SeenOk (mput seen (idt l[k]) true) (l.take (k + 1)).reverse := by rw [rev_take h]; exact hs.put _
      have ih := p_chk_l1 n l m (k + 1) _ (by omega) h2 (by omega) hs'
      rw [rev_take h] at ih
      have hseen := hs (idt l[k])
      simp only [p_placed, bnd_some, p_of, cnd_b, mgt_eq, mst_eq, hseen, F_evCmp]
      by_cases hp : placedB l[k] = true
      · have hp' : ¬ placedB l[k] = false := by rw [hp]; simp
        rw [if_pos hp, if_neg hp']
        by_cases hk0 : 0 < k
        · rw [if_pos (by omega), wrap_pred hk0 (by omega), idx_nat (by omega : k - 1 < l.length)]
          obtain ⟨t, ht⟩ := rev_head (l := l) hk0 h1
          try simp only [bnd_some, decide_eq_true_eq]
          rw [ht] at ih ⊢
          simp only [headGe, decide_eq_true_eq]
          by_cases hc : 0 ≤ evCmp l[k - 1] l[k]
          · rw [if_pos hc, if_pos hc]
          · rw [if_neg hc, if_neg hc]
            rw [ih]
            split <;> rfl
        · have hk : k = 0 := by omega
          subst hk
          rw [if_neg (by omega)]
          simp only [List.take_zero, List.reverse_nil, List.any_nil, headGe, Bool.false_eq_true, if_false] at ih ⊢
          rw [ih]
      · have hp' : placedB l[k] = false := by simpa using hp
        rw [if_neg hp, if_pos hp']
    · rw [if_neg (by omega), List.drop_eq_nil_of_le (by omega)]; rfl
theorem p_chk (n : Nat) (l : List Ev) (hn : l.length < n) (h2 : l.length ≤ 1000000) : F_stream_Check n l = some (strChk l) := by
  unfold F_stream_Check strChk
  simp only [List.length_map, cnd_if]
  by_cases h : 4096 < l.length
  · rw [if_pos (by omega), if_pos h]
  · rw [if_neg (by omega), if_neg h]
    have := p_chk_l1 n l n 0 [] (by omega) h2 (by omega) (fun k => rfl)
    simpa using this
theorem p_rchk_l2 (n : Nat) (l : List Ev) (i : Nat) (hi : i < l.length) (K : Option Int) : ∀ (m k : Nat), k ≤ i → l.length ≤ 1000000 → i < m + k → F_tidegateref05_Check_l2 n l (i : Int) K m k = if ((l.take i).drop k).any (fun x => decide (idt x = idt l[i])) then some 7 else K
  | 0, k, h1, h2, h3 => by omega
  | m + 1, k, h1, h2, h3 => by
    unfold F_tidegateref05_Check_l2
    simp only [cnd_if]
    by_cases h : k < i
    · rw [if_pos (by omega), idx_nat (by omega : k < l.length), idx_nat hi, wrapS k (by omega), p_twin, bnd_some, cnd_if]
      have hk : k < (l.take i).length := by rw [List.length_take]; omega
      rw [drop_eq_cons (l.take i) k hk, List.any_cons, List.getElem_take, p_rchk_l2 n l i hi K m (k + 1) (by omega) h2 (by omega)]
      by_cases h5 : idt l[k] = idt l[i] <;> simp [h5]
    · rw [if_neg (by omega), List.drop_eq_nil_of_le (by rw [List.length_take]; omega)]; simp
theorem p_rchk_l3 (n : Nat) (l : List Ev) (i : Nat) (hi : i < l.length) (K : Option Int) : ∀ (m k : Nat), k ≤ i → l.length ≤ 1000000 → i < m + k → F_tidegateref05_Check_l3 n l (i : Int) K m k = if ((l.take i).drop k).any (fun x => decide (idt x = idt l[i])) then some 7 else K
  | 0, k, h1, h2, h3 => by omega
  | m + 1, k, h1, h2, h3 => by
    unfold F_tidegateref05_Check_l3
    simp only [cnd_if]
    by_cases h : k < i
    · rw [if_pos (by omega), idx_nat (by omega : k < l.length), idx_nat hi, wrapS k (by omega), p_twin, bnd_some, cnd_if]
      have hk : k < (l.take i).length := by rw [List.length_take]; omega
      rw [drop_eq_cons (l.take i) k hk, List.any_cons, List.getElem_take, p_rchk_l3 n l i hi K m (k + 1) (by omega) h2 (by omega)]
      by_cases h5 : idt l[k] = idt l[i] <;> simp [h5]
    · rw [if_neg (by omega), List.drop_eq_nil_of_le (by rw [List.length_take]; omega)]; simp
theorem p_rchk_l1 (n : Nat) (l : List Ev) (hn : l.length < n) : ∀ (m k : Nat), k ≤ l.length → l.length ≤ 1000000 → l.length < m + k → F_tidegateref05_Check_l1 n l (some 0) m (k : Int) = some (chk (l.take k).reverse (l.drop k))
  | 0, k, h1, h2, h3 => by omega
  | m + 1, k, h1, h2, h3 => by
    unfold F_tidegateref05_Check_l1
    simp only [List.length_map, cnd_if, cnd_not]
    by_cases h : k < l.length
    · rw [if_pos (by omega), idx_nat h, wrapS k (by omega)]
      rw [drop_eq_cons l k h]
      conv => rhs; unfold chk
      have ih := p_rchk_l1 n l hn m (k + 1) (by omega) h2 (by omega)
      rw [rev_take h] at ih
      simp only [p_rplaced, bnd_some, cnd_b]
      by_cases hp : placedB l[k] = true
      · have hp' : ¬ placedB l[k] = false := by rw [hp]; simp
        rw [if_pos hp, if_neg hp']
        by_cases hk0 : 0 < k
        · rw [if_pos (by omega), wrap_pred hk0 (by omega), idx_nat (by omega : k - 1 < l.length)]
          obtain ⟨t, ht⟩ := rev_head (l := l) hk0 h1
          simp only [bnd_some, p_ref]
          rw [idx_nat h]
          simp only [bnd_some, p_order]
          have ec : rCmp ⟨l[k - 1].fTime, l[k - 1].fSource, l[k - 1].fSeq⟩ ⟨l[k].fTime, l[k].fSource, l[k].fSeq⟩ = evCmp l[k - 1] l[k] := rfl
          rw [ec]
          have hl2 := p_rchk_l2 n l k h (F_tidegateref05_Check_l1 n l (some 0) m ((k + 1 : Nat) : Int)) n 0 (by omega) h2 (by omega)
          simp only [Int.natCast_zero, List.drop_zero] at hl2
          rw [hl2, ih]
          have hany : (l.take k).any (fun x => decide (idt x = idt l[k])) = (l.take k).reverse.any (fun x => decide (idt x = idt l[k])) := by rw [List.any_reverse]
          rw [hany, ht]
          simp only [headGe, decide_eq_true_eq]
          by_cases hc : 0 ≤ evCmp l[k - 1] l[k]
          · rw [if_pos hc, if_pos hc]
          · rw [if_neg hc, if_neg hc]
            split <;> rfl
        · have hk : k = 0 := by omega
          subst hk
          rw [if_neg (by omega)]
          have hl3 := p_rchk_l3 n l 0 h (F_tidegateref05_Check_l1 n l (some 0) m ((0 + 1 : Nat) : Int)) n 0 (by omega) h2 (by omega)
          simp only [Int.natCast_zero, List.drop_zero] at hl3
          simp only [Int.natCast_zero] at hl3 ⊢
          rw [hl3]
          simp only [List.take_zero, List.reverse_nil, List.any_nil, headGe, Bool.false_eq_true, if_false] at ih ⊢
          rw [ih]
      · have hp' : placedB l[k] = false := by simpa using hp
        rw [if_neg hp, if_pos hp']
    · rw [if_neg (by omega), List.drop_eq_nil_of_le (by omega)]; rfl
theorem p_rchk (n : Nat) (l : List Ev) (hn : l.length < n) (h2 : l.length ≤ 1000000) : F_tidegateref05_Check n l = some (strChk l) := by
  unfold F_tidegateref05_Check strChk
  simp only [List.length_map, cnd_if]
  by_cases h : 4096 < l.length
  · rw [if_pos (by omega), if_pos h]
  · rw [if_neg (by omega), if_neg h]
    have := p_rchk_l1 n l hn n 0 (by omega) h2 (by omega)
    simpa using this
end Go.Proofs.Ytkbopbgcjfcjjaa
