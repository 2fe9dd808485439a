/- What a walked function computes, as a term over plain values: the forms of such terms, and how the walk's stops follow them. Clones of slices, for elements of any kind. Chapter 36: plain functions and plain laws. Contracts that were walked by hand, in the form in which the printed ones call them. The abstract walk: functions walked for contracts that say what becomes of memory that is given. The abstract walk: a range over a function: the statement, its rounds, and the function that holds it. The abstract walk: the rounds of a range over a function. Forms of terms: calls of closures with boxes, yields, ranges over functions. The abstract walk: strings (their bytes, appended to a row of bytes), and literals that are own rows. -/
import Derived.Test.YtcbdhigllelmcaaK08
import Derived.Test.YtcbdhigllelmcaaK07
import Derived.Lib.AppendStr
import Derived.Test.YtcbdhigllelmcaaK04
set_option linter.unusedVariables false
set_option linter.unusedSimpArgs false
namespace Go.Proofs.Ytcbdhigllelmcaa
open Go.RowKit

section
variable {α β γ δ : Type}
def cnd (b : Bool) (x y : Option β) : Option β := match b with | true => x | false => y
def idx (l : List α) (n : Int) (k : α → Option β) : Option β := if 0 ≤ n then (match l[n.toNat]? with | some x => k x | none => none) else none
def nat (n : Int) (len : Nat) (k : Nat → Option β) : Option β := if 0 ≤ n ∧ n.toNat < len then k n.toNat else none
def ltx (m len : Nat) (x : Option β) : Option β := if m < len then x else none
def elt (l : List α) (m : Nat) (k : α → Option β) : Option β := match l[m]? with | some x => k x | none => none
def slc (len : Nat) (lo hi : Int) (k : Nat → Nat → Option β) : Option β := if 0 ≤ lo ∧ lo ≤ hi ∧ hi ≤ (len : Int) then k lo.toNat hi.toNat else none
def sls (l : List α) (lo hi : Int) (k : List α → Option β) : Option β := if 0 ≤ lo ∧ lo ≤ hi ∧ hi ≤ (l.length : Int) then k ((l.take hi.toNat).drop lo.toNat) else none
def app (l m : List α) (bytes : Nat) (k : List α → Option β) : Option β := if l.length + m.length ≤ 1099511627776 ∧ (l.length + m.length) * bytes ≤ 140737488355328 then k (l ++ m) else none
def mak (n : Int) (bytes : Nat) (z : α) (k : List α → Option β) : Option β := if 0 ≤ n ∧ n.toNat ≤ 1099511627776 ∧ bytes * n.toNat ≤ 281474976710656 then k (List.replicate n.toNat z) else none
def stx (l : List α) (m : Nat) (f : α → α) (k : List α → Option β) : Option β := match l[m]? with | some x => k (l.set m (f x)) | none => none
def mlk {κ ν : Type} [DecidableEq κ] : List (κ × ν) → κ → Option ν
  | [], _ => none
  | (a, v) :: r, k => if k = a then some v else mlk r k
def mput {κ ν : Type} [DecidableEq κ] : List (κ × ν) → κ → ν → List (κ × ν)
  | [], k, v => [(k, v)]
  | (a, x) :: r, k, v => if k = a then (k, v) :: r else (a, x) :: mput r k v
def mgt {κ ν : Type} [DecidableEq κ] (l : List (κ × ν)) (k : κ) (z : ν) (c : ν → Bool → Option β) : Option β := c ((mlk l k).getD z) (mlk l k).isSome
def mst {κ ν : Type} [DecidableEq κ] (l : List (κ × ν)) (k : κ) (v : ν) (c : List (κ × ν) → Option β) : Option β := c (mput l k v)
def nzx (b : Int) (x : Option β) : Option β := if b = 0 then none else x
def psx (b : Int) (x : Option β) : Option β := if 0 < b then x else none
def shx (b : Int) (x : Option β) : Option β := if 0 ≤ b then x else none
def bnd (o : Option α) (k : α → Option β) : Option β := match o with | some a => k a | none => none
def bndC (o : Option α) (k : α → Option β) : Option β := match o with | some a => k a | none => none
def bndR (o : Option α) (k : α → Option β) : Option β := match o with | some a => k a | none => none
def frz (id : Nat) (x : Option β) : Option β := x
def reg (x : Option β) : Option β := x
theorem CondX.o {b : Bool} {p q : Prop} {x y : Option β} {r : β} (h : cnd b x y = some r) (h1 : x = some r → p) (h2 : y = some r → q) : CondX b p q := ⟨fun e => h1 (by subst e; exact h), fun e => h2 (by subst e; exact h)⟩
theorem IdxX.o {l : List α} (enc : α → AV) {n : Int} {K : AV → Prop} {k : α → Option β} {r : β} (h : idx l n k = some r) (hk : ∀ x, k x = some r → K (enc x)) : IdxX (l.map enc) n K := by
  unfold idx at h
  split at h
  · rename_i hn
    split at h
    · rename_i x hx
      exact .mk n.toNat (enc x) (by omega) (by rw [List.getElem?_map, hx]; rfl) (hk x h)
    · cases h
  · cases h
theorem IdxX.o2 {u v : AV} {n : Int} {K : AV → Prop} {x y : Option β} {r : β} (h : cnd (decide (n = 0)) x (cnd (decide (n = 1)) y none) = some r) (h0 : x = some r → K u) (h1 : y = some r → K v) : IdxX [u, v] n K := by
  unfold cnd at h
  split at h
  · rename_i e; exact .mk 0 u (of_decide_eq_true e) rfl (h0 h)
  · split at h
    · rename_i e; exact .mk 1 v (of_decide_eq_true e) rfl (h1 h)
    · cases h
theorem bytes_dec (a b : ByteArray) : (a.toList == b.toList) = decide (a = b) := by
  rw [← bytes_eqb, Bool.eq_iff_iff, MapKept.bytes_beq]; simp
theorem NatX.o {n : Int} {len : Nat} {K : Nat → Prop} {k : Nat → Option β} {r : β} (h : nat n len k = some r) (hk : ∀ m, k m = some r → K m) : NatX n len K := by
  unfold nat at h
  split at h
  · rename_i hn
    exact .mk n.toNat (by omega) hn.2 (hk _ h)
  · cases h
theorem NatX.o2 {n : Int} {K : Nat → Prop} {x y : Option β} {r : β} (h : cnd (decide (n = 0)) x (cnd (decide (n = 1)) y none) = some r) (h0 : x = some r → K 0) (h1 : y = some r → K 1) : NatX n 2 K := by
  unfold cnd at h
  split at h
  · rename_i e; exact .mk 0 (of_decide_eq_true e) (by omega) (h0 h)
  · split at h
    · rename_i e; exact .mk 1 (of_decide_eq_true e) (by omega) (h1 h)
    · cases h
theorem NatX.o3 {n : Int} {K : Nat → Prop} {x y z : Option β} {r : β} (h : cnd (decide (n = 0)) x (cnd (decide (n = 1)) y (cnd (decide (n = 2)) z none)) = some r) (h0 : x = some r → K 0) (h1 : y = some r → K 1) (h2 : z = some r → K 2) : NatX n 3 K := by
  unfold cnd at h
  split at h
  · rename_i e; exact .mk 0 (of_decide_eq_true e) (by omega) (h0 h)
  · split at h
    · rename_i e; exact .mk 1 (of_decide_eq_true e) (by omega) (h1 h)
    · split at h
      · rename_i e; exact .mk 2 (of_decide_eq_true e) (by omega) (h2 h)
      · cases h
theorem LtX.o {m len : Nat} {K : Prop} {x : Option β} {r : β} (h : ltx m len x = some r) (hk : x = some r → K) : LtX m len K := by
  unfold ltx at h
  split at h
  · rename_i hm; exact .mk hm (hk h)
  · cases h
theorem EltX.o {l : List α} (enc : α → AV) {m : Nat} {K : AV → Prop} {k : α → Option β} {r : β} (h : elt l m k = some r) (hk : ∀ x, k x = some r → K (enc x)) : EltX (l.map enc) m K := by
  unfold elt at h
  split at h
  · rename_i x hx; exact .mk (enc x) (by rw [List.getElem?_map, hx]; rfl) (hk x h)
  · cases h
theorem SlcX.o {len : Nat} {lo hi : Int} {K : Nat → Nat → Prop} {k : Nat → Nat → Option β} {r : β} (h : slc len lo hi k = some r) (hk : ∀ l h, k l h = some r → K l h) : SlcX len lo hi K := by
  unfold slc at h
  split at h
  · rename_i hn; exact .mk lo.toNat hi.toNat (by omega) (by omega) (by omega) (by omega) (hk _ _ h)
  · cases h
theorem SlsX.o {l : List α} (enc : α → AV) {lo hi : Int} {K : List AV → Prop} {k : List α → Option β} {r : β} (h : sls l lo hi k = some r) (hk : ∀ l', k l' = some r → K (l'.map enc)) : SlsX (l.map enc) lo hi K := by
  unfold sls at h
  split at h
  · rename_i hn; exact .mk lo.toNat hi.toNat (by omega) (by omega) (by omega) (by rw [List.length_map]; omega) _ (by rw [List.map_drop, List.map_take]) (hk _ h)
  · cases h
theorem AppX.o {l m : List α} (enc : α → AV) {ys : List AV} {bytes : Nat} {K : List AV → Prop} {k : List α → Option β} {r : β} (h : app l m bytes k = some r) (hs : SubR ys (m.map enc)) (hk : ∀ l', k l' = some r → K (l'.map enc)) : AppX ((l.map enc).length + ys.length) bytes (l.map enc ++ ys) K := by
  have hl := hs.len
  unfold app at h
  split at h
  · rename_i hn
    exact .sub ((l ++ m).map enc) (by rw [List.map_append]; exact .append (.refl _) hs) (by rw [List.length_map, hl, List.length_map]; exact hn.1) (by rw [List.length_map, hl, List.length_map]; exact hn.2) (hk _ h)
  · cases h
theorem AppX.o0 {m : List α} (enc : α → AV) {ys : List AV} {bytes : Nat} {K : List AV → Prop} {k : List α → Option β} {r : β} (h : app [] m bytes k = some r) (hs : SubR ys (m.map enc)) (hk : ∀ l', k l' = some r → K (l'.map enc)) : AppX ys.length bytes ys K := by
  have hl := hs.len
  unfold app at h
  split at h
  · rename_i hn; exact .sub (m.map enc) hs (by rw [hl, List.length_map]; simpa using hn.1) (by rw [hl, List.length_map]; simpa using hn.2) (hk _ h)
  · cases h
theorem MakX.o {z : α} (enc : α → AV) {n : Int} {bytes : Nat} {y : AV} {K : List AV → Prop} {k : List α → Option β} {r : β} (h : mak n bytes z k = some r) (hs : SubL y.cells (enc z).cells) (hk : ∀ l', k l' = some r → K (l'.map enc)) : MakX n bytes y K := by
  unfold mak at h
  split at h
  · rename_i hn; exact .mk n.toNat (by omega) hn.2.1 hn.2.2 _ (by rw [List.map_replicate]; exact .replicate hs _) (hk _ h)
  · cases h
theorem SetX.o {l : List α} (enc : α → AV) {f : α → α} {m j n : Nat} {av : AV} {ok : AV → Bool} {put : AV → AV} {K : List AV → Prop} {k : List α → Option β} {r : β} (h : stx l m f k = some r) (hok : ∀ x, ok (enc x) = true) (hput : ∀ x, SubL (put (enc x)).cells (enc (f x)).cells) (hk : ∀ l', k l' = some r → K (l'.map enc)) : SetX (l.map enc) m j n av ok put K := by
  unfold stx at h
  split at h
  · rename_i x hx; exact .mk (enc x) (by rw [List.getElem?_map, hx]; rfl) (hok x) _ (by rw [List.map_set]; exact .set (hput x) _ _) (hk _ h)
  · cases h
theorem ShX.o {b : Int} {K : Prop} {x : Option β} {r : β} (h : shx b x = some r) (hk : x = some r → K) : ShX b K := by
  unfold shx at h
  split at h
  · rename_i hb; exact .mk hb (hk h)
  · cases h
def encM {κ ν : Type} (encK : κ → AV) (encV : ν → AV) (p : κ × ν) : AV × AV := (encK p.1, encV p.2)
theorem findK_enc {κ ν : Type} [DecidableEq κ] (encK : κ → AV) (encV : ν → AV) (he : ∀ a b, eqK (encK a) (encK b) = some (decide (a = b))) (k : κ) : ∀ (l : List (κ × ν)) (i : Nat),
    ∃ r, findK (encK k) ((l.map (encM encK encV)).map (·.1)) i = some r ∧ r.isSome = (mlk l k).isSome ∧ (∀ j, r = some j → i ≤ j ∧ ∃ v, mlk l k = some v ∧ ((l.map (encM encK encV)).getD (j - i) default).2 = encV v) ∧
      ∀ (v : ν) (x : AV), Sub x (encV v) → SubM (putK (r.map (· - i)) (encK k) x (l.map (encM encK encV))) ((mput l k v).map (encM encK encV))
  | [], i => ⟨none, rfl, rfl, fun j h => (by cases h), fun v x hs => .cons _ hs .nil⟩
  | (a, v) :: r, i => by
    simp only [List.map_cons, encM, findK, he, mlk, mput]
    by_cases hk : k = a
    · subst hk
      simp only [decide_true]
      refine ⟨some i, rfl, by simp, fun j hj => ?_, fun v' x hs => ?_⟩
      · injection hj with hj; subst hj; exact ⟨Nat.le_refl _, v, by simp, by simp⟩
      · simp only [if_true, Option.map_some, Nat.sub_self, putK, List.set_cons_zero, List.map_cons]
        exact .cons _ hs (.refl _)
    · rw [decide_eq_false hk]
      obtain ⟨q, h1, h2, h3, h4⟩ := findK_enc encK encV he k r (i + 1)
      refine ⟨q, h1, by rw [h2, if_neg hk], fun j hj => ?_, fun v' x hs => ?_⟩
      · obtain ⟨g1, v', g2, g3⟩ := h3 j hj
        refine ⟨by omega, v', by rw [if_neg hk]; exact g2, ?_⟩
        rw [show j - i = (j - (i + 1)) + 1 by omega, List.getD_cons_succ]
        exact g3
      · have := h4 v' x hs
        rw [if_neg hk]
        cases q with
        | none => exact .cons _ (.refl _) this
        | some j =>
          obtain ⟨g1, _⟩ := h3 j rfl
          simp only [Option.map_some, putK] at this ⊢
          rw [show j - i = (j - (i + 1)) + 1 by omega, List.set_cons_succ]
          exact .cons _ (.refl _) this
theorem LkX.o {κ ν : Type} [DecidableEq κ] {l : List (κ × ν)} {k : κ} {z : ν} {P : Program} {kt : Nat} {zA : AV} {K : AV → Bool → Prop} {c : ν → Bool → Option β} {r : β} (encK : κ → AV) (encV : ν → AV) (h : mgt l k z c = some r) (hk : keyFl P kt (encK k) = true) (he : ∀ a b, eqK (encK a) (encK b) = some (decide (a = b))) (hz : Sub zA (encV z))
    (hc : ∀ v b, c v b = some r → K (encV v) b) : LkX P kt (encK k) (l.map (encM encK encV)) zA K := by
  obtain ⟨q, h1, h2, h3, _⟩ := findK_enc encK encV he k l 0
  refine .mk q (encV ((mlk l k).getD z)) (mlk l k).isSome hk h1 h2 ?_ (hc _ _ h)
  cases q with
  | none =>
    have : mlk l k = none := by cases hm : mlk l k with
      | none => rfl
      | some v => rw [hm] at h2; cases h2
    rw [this]
    exact hz
  | some j =>
    obtain ⟨_, v, g2, g3⟩ := h3 j rfl
    rw [g2, Option.getD_some, ← g3]
    exact .refl _
theorem UpX.o {κ ν : Type} [DecidableEq κ] {l : List (κ × ν)} {k : κ} {v : ν} {P : Program} {kt : Nat} {x : AV} {K : List (AV × AV) → Prop} {c : List (κ × ν) → Option β} {r : β} (encK : κ → AV) (encV : ν → AV) (h : mst l k v c = some r) (hk : keyFl P kt (encK k) = true) (he : ∀ a b, eqK (encK a) (encK b) = some (decide (a = b))) (hx : Sub x (encV v))
    (hc : ∀ l', c l' = some r → K (l'.map (encM encK encV))) : UpX P kt (encK k) x (l.map (encM encK encV)) K := by
  obtain ⟨q, h1, _, _, h4⟩ := findK_enc encK encV he k l 0
  refine .mk q _ hk h1 ?_ (hc _ h)
  have := h4 v x hx
  cases q with
  | none => exact this
  | some j => exact this
theorem PosX.o {b : Int} {K : Prop} {x : Option β} {r : β} (h : psx b x = some r) (hk : x = some r → K) : PosX b K := by
  unfold psx at h
  split at h
  · rename_i hb; exact .mk hb (hk h)
  · cases h
theorem NzX.o {b : Int} {K : Prop} {x : Option β} {r : β} (h : nzx b x = some r) (hk : x = some r → K) : NzX b K := by
  unfold nzx at h
  split at h
  · cases h
  · rename_i hb; exact .mk hb (hk h)
section
variable {E : Env} {nt : Nat} {f : FuncId} {avs : List AV}
theorem CallX.o {o : Option α} {k : α → Option β} {r : β} {fr : Bool} {K : AV → Prop} {R : Nat → Nat → List AV → AV → Prop} {find : Nat → Option Ent} {KR : AV → List Nat → List (Nat × Ent) → Prop} (h : bnd o k = some r) (enc : α → AV) (hc : ∀ a, o = some a → Con E fr f avs (enc a)) (hk : ∀ a, k a = some r → K (enc a)) : CallX E f avs K R find KR := by
  unfold bnd at h
  split at h
  · exact .mk fr _ (hc _ rfl) (hk _ h)
  · cases h
theorem CallX.oR {o : Option α} {k : α → Option β} {r : β} {K : AV → Prop} {R : Nat → Nat → List AV → AV → Prop} {find : Nat → Option Ent} {KR : AV → List Nat → List (Nat × Ent) → Prop} {ty sz : Nat} (h : bndR o k = some r) (rl : α → List γ) (encE : γ → AV) (res : α → AV) (hdr0 : E.dr = false) (hc : ∀ a, o = some a → ConT E f avs ty sz ((rl a).map encE) (res a)) (hk : ∀ a, k a = some r → R ty sz ((rl a).map encE) (res a)) : CallX E f avs K R find KR := by
  unfold bndR at h
  split at h
  · exact .rowT ty sz _ _ hdr0 (hc _ rfl) (hk _ h)
  · cases h
theorem CallC.o {o : Option α} {k : α → Option β} {r : β} {fr : Bool} {K : AV → Prop} {raw : List AV} {find : Nat → Option Ent} {dst : Option Nat} {KR : AV → List Nat → List (Nat × Ent) → Prop} (h : bnd o k = some r) (enc : α → AV) (hc : ∀ a, o = some a → Con E fr f avs (enc a)) (hf : ∀ a, fr = true ∨ (enc a).flat = true) (hk : ∀ a, k a = some r → K (enc a)) : CallC E f avs K raw find dst KR := by
  unfold bnd at h
  split at h
  · exact .mk fr _ (hc _ rfl) (hf _) (hk _ h)
  · cases h
theorem CallC.oC {o : Option α} {k : α → Option β} {r : β} {K : AV → Prop} {raw : List AV} {find : Nat → Option Ent} {dst : Option Nat} {KR : AV → List Nat → List (Nat × Ent) → Prop} {d ty sz ty' sz' : Nat} {xs cargs : List AV} (h : bndC o k = some r) (id : Nat) (rl : α → List γ) (encE : γ → AV) (res : α → AV) (hdr0 : E.dr = false) (hc : ∀ a, o = some a → ConC false E f cargs ty sz xs ty' sz' ((rl a).map encE) (res a))
    (hr : AV.renL (fun _ => id) cargs = raw) (hin : AV.inML [0] cargs = true) (hl : find id = some (.row ty sz xs)) (hd : dst = some d) (hn : find d = none) (hne : Nat.beq id d = false) (hk : ∀ a, k a = some r → KR ((res a).ren fun _ => d) [d, id] [(d, .row ty' sz' ((rl a).map encE)), (id, .dead)]) : CallC E f avs K raw find dst KR := by
  unfold bndC at h
  split at h
  · exact .take id d ty sz xs ty' sz' _ _ cargs hdr0 (hc _ rfl) hr hin hl hd hn (Nat.ne_of_beq_eq_false hne) (hk _ h)
  · cases h
theorem LoopX.o {V : Type} {L : Nat → V → Option β} {S : V → AS} {σ : AS} {F : (AS → Prop) → AS → Prop} {r : β} {n : Nat} {v0 : V} (h : L n v0 = some r) (hz : ∀ v, L 0 v = none) (hl : LeX E nt σ (S v0)) (round : ∀ m v, L (m + 1) v = some r → F (fun σ' => ∃ v', L m v' = some r ∧ LeX E nt σ' (S v')) (S v))
    (mono : ∀ (P Q : AS → Prop) σ, (∀ σ, P σ → Q σ) → F P σ → F Q σ) : LoopX E nt F σ := by
  refine .mk (fun m σ => ∃ v, L m v = some r ∧ σ = S v) n (S v0) hl ⟨v0, h, rfl⟩ ?_
  rintro m σ ⟨v, hv, rfl⟩
  cases m with
  | zero => rw [hz] at hv; cases hv
  | succ m =>
    refine mono _ _ _ (fun σ' ⟨v', h1, h2⟩ => ?_) (round m v hv)
    exact ⟨m, S v', h2, Nat.lt_succ_self _, v', h1, rfl⟩
end
theorem RetX.o {v : AV} {a r : β} {enc : β → AV} (h : some a = some r) (hs : Sub v (enc a)) : RetX v (enc r) := by injection h with h; subst h; exact .sub hs
theorem TX.o {E : Env} {nt : Nat} {fn : Func} {σ : AS} {ty sz : Nat} {a r : β} {rl : β → List AV} {res : β → AV} (h : some a = some r) (hk : TX E nt fn σ ty sz (rl a) (res a)) : TX E nt fn σ ty sz (rl r) (res r) := by injection h with h; subst h; exact hk
end
section
variable {E : Env} {nt : Nat}
theorem AW.mono1 {c : Code} {K : Exit → AS → Prop} {P Q : AS → Prop} {σ : AS} (h : ∀ σ, P σ → Q σ) (k : AW E nt (thenA P K) [.code c] .normal σ) : AW E nt (thenA Q K) [.code c] .normal σ := ⟨fun cx hE hn => WP.mono (k.out cx hE hn) (fun e σ' hq => by cases e <;> first | exact h _ hq | exact hq)⟩
end
section
variable {β V : Type} {E : Env} {nt : Nat} {R : Exit → AS → Prop} {K : List KItem}
theorem LoopA.o {L : Nat → V → Option β} {S : V → AS} {σ : AS} {c : Code} {r : β} {n : Nat} {v0 : V} (h : L n v0 = some r) (hz : ∀ v, L 0 v = none) (hl : LeX E nt σ (S v0))
    (round : ∀ m v, L (m + 1) v = some r → AW E nt (thenA (fun σ' => ∃ v', L m v' = some r ∧ LeX E nt σ' (S v')) (AW E nt R K)) [.code c] .normal (S v)) : LoopX E nt (fun next σ' => AW E nt (thenA next (AW E nt R K)) [.code c] .normal σ') σ :=
  LoopX.o h hz hl round (fun P Q σ hpq hF => AW.mono1 hpq hF)
theorem AW.frzO {id ty sz : Nat} {xs : List AV} {c : Code} {σ : AS} {x : Option β} {y : β} (h : frz id x = some y) (r : Nat) (hr : σ.find r = some (.row ty sz xs)) (k : x = some y → AW E nt R (.code c :: K) .normal (σ.frzAll r sz xs)) : AW E nt R (.code c :: K) .normal σ := AW.weaken (LeX.frzAll r ty sz xs hr) (k h)
theorem AW.regO {id : Nat} {os : Array Oper} {d : Bool} {σ : AS} {x : Option β} {y : β} (h : reg x = some y) (k : x = some y → AW E nt R (.ops d os os.toList [] [] :: K) .normal σ) : AW E nt R (.code (.region id os d) :: K) .normal σ := AW.into (k h)
end
def AS.putS (σ : AS) (t : Nat) (v : AV) : AS := ⟨(t, v) :: σ.tm, σ.me⟩
theorem LeX.put {E : Env} {nt : Nat} {σ : AS} (t : Nat) (v : AV) (hs : Sub (σ.get t) v) : LeX E nt σ (σ.putS t v) := fun cx hE hn a w ⟨γ, h⟩ => by
  refine ⟨γ, fun u => ?_, fun i => h.me i, h.inj, h.ge, h.below, h.size, h.defers, h.gh, h.fr, h.dr⟩
  by_cases hu : t = u
  · subst hu
    have e : (σ.putS t v).get t = v := by simp [AS.putS, AS.get, lkV]
    rw [e]
    exact (h.tm t).sub hs
  · have e : (σ.putS t v).get u = σ.get u := by
      unfold AS.putS AS.get
      simp only [lkV]
      cases hb : Nat.beq t u with
      | true => exact absurd (Nat.eq_of_beq_eq_true hb) hu
      | false => rfl
    rw [e]
    exact h.tm u
attribute [irreducible] cnd idx nat ltx elt slc sls app mak stx nzx shx bnd bndC bndR frz reg mgt mst psx
end Go.Proofs.Ytcbdhigllelmcaa
namespace Go.Proofs.Ytcbdhigllelmcaa
open Go.RowKit

abbrev Cel (n : Nat) := { l : List Value // l.length = n ∧ ∀ u ∈ l, u.oneCell' = true }
def encC {n : Nat} (x : Cel n) : List Value := x.1
theorem eokC {P : Program} {T e sz eb : Nat} {i ie : TyI} (hT : TyOk P T i) (hs : i.shape = .slc e sz eb) (he : TyOk P e ie) (hz : 0 < sz) (hzs : ie.zero.cells.size = sz) : EOk P T e sz ie.bytes (encC (n := sz)) := by
  obtain ⟨hu, hce, _⟩ := und_slc hT hs
  obtain ⟨x, h1, h2, h3, h4⟩ := he.both
  exact ⟨hu, ⟨x, ie.zero, h1, h4, by rw [h2, ← he.cells, hce], h3, hzs⟩, hz, fun x => x.2.1, fun x => x.2.2⟩
def F_clone {α : Type} (n : Nat) (l : List α) : Option (List α) := if l.length ≤ 1000000000 then some l else none
theorem clone_gen {f : FuncId} {e sz : Nat} {P : Program} {E : Env} (hP : E.P = P) (hE : Enters E f) (any : ∀ (l : List (Cel sz)) (S : Nat → Prop) (v : Value) (w : World), Sl w S sz encC v l → l.length ≤ 1000000000 → Calls P f #[v] w (RetOwn e sz encC l w)) {α : Type} {enc : α → AV} {n : Nat} {a r : List α} (hF : F_clone n a = some r) :
    ConT E f [.sl sz (List.map enc a)] e sz (List.map enc r) (.row 0) := by
  unfold F_clone at hF
  split at hF
  · rename_i hl
    injection hF with hF
    subst hF
    refine .ofRow ⟨hE, fun S w vs ⟨hn, hr⟩ => ?_⟩
    have e1 := getD1 hn
    have h0 : Rep w S G0 (.sl sz (List.map enc a)) (vs.getD 0 undef) := hr 0 (by simp)
    rw [e1, hP]
    obtain ⟨A, c, hv, hc, hlen, cell, hb, hrr, h1⟩ := h0.sl_inv
    let l : List (Cel sz) := (List.range (List.map enc a).length).map fun k => ⟨(List.range sz).map fun j => cell k j, by simp, fun u hu => by
      obtain ⟨j, _, rfl⟩ := List.mem_map.1 hu
      exact h1 k j⟩
    have hll : l.length = (List.map enc a).length := by simp [l]
    have hlk : ∀ k (hk : k < l.length), (encC l[k]) = (List.range sz).map fun j => cell k j := fun k hk => by simp [l, encC]
    have hsl : Sl w S sz encC (vs.getD 0 undef) l := by
      refine ⟨A, c, by rw [hv, hll], by rw [hll]; exact hc, fun h0 => ?_⟩
      obtain ⟨b, off, hA, hS, hlt, hcell⟩ := hb (by rw [← hll]; exact h0)
      refine ⟨b, off, hA, hS, hlt, fun k hk j u hu => ?_⟩
      rw [hlk k hk] at hu
      have hj : j < sz := by have := (List.getElem?_eq_some_iff.1 hu).1; simpa using this
      rw [List.getElem?_map, List.getElem?_range hj] at hu
      simp only [Option.map_some, Option.some.injEq] at hu
      subst hu
      exact hcell k j (by rw [← hll]; exact hk) hj
    refine (any l S _ w hsl (by rw [hll, List.length_map]; exact hl)).mono fun ed w' ⟨A', c', q1, q2, q3⟩ => ?_
    refine ⟨_, l.flatMap encC, q1, q3, ?_, hlen, fun k hk j hj => ?_, fun u hu => ?_⟩
    · have : w'.ownsRow w.heap.size e sz (.slice A' l.length c') l.length (l.flatMap encC) := q2
      rw [hll] at this
      rw [hll]
      exact this
    · have hj' : j < sz := by rw [hlen k hk] at hj; exact hj
      have hk' : k < l.length := by rw [hll]; exact hk
      have hat := flatMap_at (enc := encC (n := sz)) (fun x _ => x.2.1) k hk' j hj' (cell k j) (by rw [hlk k hk', List.getElem?_map, List.getElem?_range hj']; rfl)
      rw [List.getD_eq_getElem?_getD, hat]
      refine (hrr k hk j hj).mono q3.size (fun b hb hlt => ⟨q3.block b hlt, Or.inl hb, fun e => ?_⟩)
      have h2 : w'.ownsRow w.heap.size _ sz (.slice A' l.length c') l.length (l.flatMap encC) := q2
      rcases h2.2 with ⟨h, _⟩ | ⟨g, cap, cur, h, hg, _⟩
      · rw [h] at e; simp [Value.ownBlock] at e
      · rw [h] at e; simp only [Value.ownBlock, Option.some.injEq] at e; subst e; omega
    · obtain ⟨x, _, hx⟩ := List.mem_flatMap.1 hu
      exact x.2.2 u hx
  · cases hF
theorem ConT.close {E : Env} {f : FuncId} {args xs : List AV} {ty sz : Nat} (h : ConT E f args ty sz xs (.row 0)) (hE : E.dr = false) : Con E false f args (.sl sz xs) :=
  ⟨h.1, fun S w vs ha => (h.2.2 S w vs ha).mono fun e w' ⟨u, v, us, h1, h2, h3, h4, h5, h6, h7⟩ => by
    have hr := h7 (fun _ => some (some (v.ownBlock, v))) rfl
    have huv : u = v := hr.row_inv rfl
    subst huv
    refine ⟨u, h1, ⟨h2, fun h => absurd (hE.symm.trans h) (by simp)⟩, ?_⟩
    have hrep : EntRep w' (fun b => (S b ∨ w.heap.size ≤ b) ∧ u.ownBlock ≠ some b) G0 w.heap.size (some (u.ownBlock, u)) (.row ty sz xs) := ⟨u, us, rfl, slice_one h3, h3, h4, h5, h6⟩
    obtain ⟨s, hs, hrr⟩ := row_sl (S' := fun b => (false = false ∧ S b) ∨ w.heap.size ≤ b) hrep (fun b hb _ => hb.1.elim (fun h => Or.inl ⟨rfl, h⟩) Or.inr) (fun s g hg => by
      injection hg with hg
      injection hg with hg _
      rcases h3.2 with ⟨h, _⟩ | ⟨g', cap, cur, h, hb, _⟩
      · rw [h] at hg; simp [Value.ownBlock] at hg
      · rw [h] at hg; simp only [Value.ownBlock, Option.some.injEq] at hg; subst hg; exact Or.inr hb) G0
    injection hs with hs
    injection hs with _ hs
    rw [hs]
    exact hrr⟩
theorem ConT.sub {E : Env} {f : FuncId} {avs bvs xs : List AV} {ty sz : Nat} {res : AV} (h : SubL avs bvs) (hc : ConT E f bvs ty sz xs res) : ConT E f avs ty sz xs res :=
  ⟨hc.1, hc.2.1, fun S w vs ⟨hl, hr⟩ => hc.2.2 S w vs ⟨by rw [hl, h.len], fun i hi => (hr i (by rw [h.len]; exact hi)).sub (h.at i _ hi)⟩⟩
def Xk (w : World) (g off : Nat) (X : List Value) : Prop := ∃ cur ty fr, w.heap[g]? = some (.cells cur ty fr) ∧ 0 < cur.size ∧ ∀ j u, X[j]? = some u → cur[off + j]? = some u
section
variable {w w' : World} {g off : Nat} {X : List Value}
theorem Xk.lt (h : Xk w g off X) : g < w.heap.size := by
  obtain ⟨cur, ty, fr, h, _⟩ := h
  exact (Array.getElem?_eq_some_iff.1 h).1
theorem Xk.cell (h : Xk w g off X) {j : Nat} {u : Value} (hu : X[j]? = some u) : w.cell? ⟨g, off + j, none⟩ = some u := by
  obtain ⟨cur, ty, fr, h, _, h2⟩ := h
  simp [World.cell?, h, h2 j u hu]
theorem Xk.grown {row : Option Nat} (h : Xk w g off X) (hb : w.grownBy w' row) (hg : some g ≠ row) : Xk w' g off X := by
  have hl := h.lt
  obtain ⟨cur, ty, fr, h, h2⟩ := h
  exact ⟨cur, ty, fr, (hb.block g hl hg).trans h, h2⟩
theorem Xk.alloc (h : Xk w g off X) (o : Obj) : Xk (w.alloc o) g off X := by
  have hl := h.lt
  obtain ⟨cur, ty, fr, h, h2⟩ := h
  exact ⟨cur, ty, fr, (Below.heap_alloc w o g hl).trans h, h2⟩
theorem Xk.shape (h : Xk w g off X) : ∃ t k, k ≠ 0 ∧ w.shape? g = some (t, k) := by
  obtain ⟨cur, ty, fr, h, h1, _⟩ := h
  exact ⟨ty, cur.size, by omega, by simp [World.shape?, h]⟩
theorem Sl.one_x {α : Type} {enc : α → List Value} {sz c : Nat} {x : α} (hc : 1 ≤ c) (h : Xk w g off (enc x)) : Sl w (fun _ => True) sz enc (.slice (some ⟨g, off, none⟩) 1 c) [x] :=
  ⟨_, c, rfl, hc, fun _ => ⟨g, off, rfl, trivial, h.lt, fun k hk j u hu => by
    have : k = 0 := by simpa using hk
    subst this
    simpa using h.cell (by simpa using hu)⟩⟩
end
theorem run_overlaps_b {P : Program} (w : World) (tS tR e : TypeId) (ht : P.underlying tS = some (.slice e)) (size : Nat) (hz : ∀ w, (Go.sizeOf e).run P w = .ok size w)
    (a b : Addr) (la ca lb cb : Nat) (hne : a.block ≠ b.block) (hsa : ∃ t k, k ≠ 0 ∧ w.shape? a.block = some (t, k)) (tB : TypeId) (kB : Nat) (hsb : w.shape? b.block = some (tB, kB)) (hkB : kB ≠ 0)
    (hfb : w.frozen? b = false) (hfe : w.frozen? { block := b.block, off := kB } = false) :
    (Extern.SlicesOverlaps.overlaps #[tS, tS] #[tR] #[.slice (some a) la ca, .slice (some b) lb cb]).run P w = .ok (.bool false) w := by
  have hnb : (a.block != b.block) = true := by simpa using hne
  have hnb' : (a.block == b.block) = false := by simpa using hne
  obtain ⟨tA, kA, hkA, hsa⟩ := hsa
  change Sem.run P (α := Value) (underlying tS >>= _) w = _
  by_cases h0 : la = 0 ∨ lb = 0 ∨ size = 0
  · simp [run_underlying ht, hz, h0]
  · cases kB with
    | zero => exact absurd rfl hkB
    | succ kB =>
      cases kA with
      | zero => exact absurd rfl hkA
      | succ kA =>
        cases hfa : w.frozen? a <;> cases hfa' : w.frozen? { block := a.block, off := kA + 1 } <;>
        simp [run_underlying ht, hz, h0, hnb, hnb', frozen, noView, viewAt, mayBeOne, stringish, shape, Sem.run, hsa, hsb, hfa, hfa', hfb, hfe]

def RetInsX {α : Type} (e : TypeId) (sz : Nat) (enc : α → List Value) (base : Nat) (v : Value) (l : List α) (w0 : World) (r : Ending) (w' : World) : Prop :=
  ∃ A c, r = .returned (.slice A l.length c) ∧ Own w' base e sz enc (.slice A l.length c) l ∧ w0.grownBy w' v.ownBlock ∧ ((Value.slice A l.length c).ownBlock = v.ownBlock ∨ (Value.slice A l.length c).ownBlock = some w0.heap.size)
def F_insert {α : Type} (n : Nat) (a : List α) (i : Int) (v : List α) : Option (List α) :=
  match v with
  | [x] => if 0 ≤ i ∧ i.toNat ≤ a.length ∧ a.length ≤ 1000000000 then some (a.take i.toNat ++ x :: a.drop i.toNat) else none
  | _ => none
theorem chunk_all {sz : Nat} (d : Value) (us : List Value) (n : Nat) (h : us.length = n * sz) : (List.range n).flatMap (fun k => (List.range sz).map fun j => us.getD (k * sz + j) d) = us := by
  induction n generalizing us with
  | zero => simp at h; subst h; rfl
  | succ n ih =>
    rw [List.range_succ_eq_map, List.flatMap_cons, List.flatMap_map]
    have h1 : (List.range sz).map (fun j => us.getD (0 * sz + j) d) = us.take sz := by
      apply List.ext_getElem
      · simp [h, Nat.succ_mul]
      · intro j h1 h2
        have hj : j < us.length := by simp at h2; omega
        simp [List.getElem?_eq_getElem hj]
    have h2 : (fun k => (List.range sz).map fun j => us.getD (k.succ * sz + j) d) = fun k => (List.range sz).map fun j => (us.drop sz).getD (k * sz + j) d := by
      funext k
      refine List.map_congr_left fun j _ => ?_
      rw [List.getD_eq_getElem?_getD, List.getD_eq_getElem?_getD, List.getElem?_drop, Nat.succ_mul, Nat.add_right_comm, Nat.add_comm (k * sz + j) sz]
    rw [h1, h2, ih (us.drop sz) (by rw [List.length_drop, h, Nat.succ_mul]; omega), List.take_append_drop]
theorem insert_gen {f : FuncId} {e sz : Nat} {P : Program} {E : Env} (hP : E.P = P) (hE : Enters E f) (hz : 0 < sz)
    (any : ∀ (l : List (Cel sz)) (x : Cel sz) (i base : Nat) (A : Option Addr) (c g off c1 : Nat) (w : World), Own w base e sz encC (.slice A l.length c) l → Xk w g off (encC x) → 1 ≤ c1 → (Value.slice A l.length c).ownBlock ≠ some g → i ≤ l.length → l.length ≤ 1000000000 → base ≤ w.heap.size →
      Calls P f #[.slice A l.length c, .int .i64 i, .slice (some ⟨g, off, none⟩) 1 c1] w (RetInsX e sz encC base (.slice A l.length c) (l.take i ++ x :: l.drop i) w)) {α : Type} {enc : α → AV} {n : Nat} {a v r : List α} {i : Int} (hF : F_insert n a i v = some r) :
    ConC false E f [.row 0, aI i, .sl sz (List.map enc v)] e sz (List.map enc a) e sz (List.map enc r) (.row 0) := by
  unfold F_insert at hF
  split at hF
  · rename_i x
    split at hF
    · rename_i hc
      obtain ⟨q0, rfl⟩ := Int.eq_ofNat_of_zero_le hc.1
      simp only [Int.toNat_natCast] at hc hF
      injection hF with hF
      subst hF
      refine ⟨hE, rfl, fun S w0 w vs v us hw0 hown hlen hre hone hvS hn hargs => ?_⟩
      have e3 : ∃ p q s, vs = #[p, q, s] := by
        obtain ⟨l⟩ := vs
        match l, hn with
        | [p, q, s], _ => exact ⟨p, q, s, rfl⟩
      obtain ⟨p, q, s, rfl⟩ := e3
      have ha := hargs (fun _ => some (some (v.ownBlock, v))) rfl
      have hp : Rep w S (fun _ => some (some (v.ownBlock, v))) (.row 0) p := ha 0 (by simp)
      have hq : Rep w S (fun _ => some (some (v.ownBlock, v))) (aI q0) q := ha 1 (by simp)
      have hs : Rep w S (fun _ => some (some (v.ownBlock, v))) (.sl sz [enc x]) s := ha 2 (by simp)
      have hpv : p = v := hp.row_inv rfl
      subst hpv
      rw [hq.int_inv]
      obtain ⟨A', c1, rfl, hc1, hxl, cell, hb, hrr, h1⟩ := hs.sl_inv
      obtain ⟨g, off, rfl, hSg, hgl, hcell⟩ := hb (by simp)
      have hxl0 : (enc x).cells.length = sz := hxl 0 (by simp)
      let X : Cel sz := ⟨(List.range sz).map (fun j => cell 0 j), by simp, fun u hu => by obtain ⟨j, _, rfl⟩ := List.mem_map.1 hu; exact h1 0 j⟩
      have hXg : ∀ j, j < sz → (encC X)[j]? = some (cell 0 j) := fun j hj => by simp [encC, X, hj]
      have hX : Xk w g off (encC X) := by
        have h0 := hcell 0 0 (by simp) hz
        simp only [Nat.zero_mul, Nat.add_zero] at h0
        have hobj : ∃ cur ty fr, w.heap[g]? = some (.cells cur ty fr) := by
          unfold World.cell? at h0
          split at h0
          · rename_i cur ty fr hh; exact ⟨cur, ty, fr, hh⟩
          · cases h0
        obtain ⟨cur, ty, fr, hh⟩ := hobj
        have hcc : ∀ j, j < sz → cur[off + j]? = some (cell 0 j) := fun j hj => by
          have := hcell 0 j (by simp) hj
          simpa [World.cell?, hh] using this
        refine ⟨cur, ty, fr, hh, ?_, fun j u hu => ?_⟩
        · have := (Array.getElem?_eq_some_iff.1 (hcc 0 hz)).1; omega
        · have hj : j < sz := by have := (List.getElem?_eq_some_iff.1 hu).1; simpa [encC, X] using this
          rw [hXg j hj] at hu
          rw [hcc j hj, hu]
      let l : List (Cel sz) := (List.range (List.map enc a).length).map fun k => ⟨(List.range sz).map fun j => us.getD (k * sz + j) (.bool true), by simp, fun u hu => by
        obtain ⟨j, _, rfl⟩ := List.mem_map.1 hu
        rw [List.getD_eq_getElem?_getD]
        cases hq : us[k * sz + j]? with
        | none => rfl
        | some u => exact hone u (List.mem_of_getElem? hq)⟩
      have hll : l.length = (List.map enc a).length := by simp [l]
      have hfl : l.flatMap encC = us := by
        have := chunk_all (sz := sz) (.bool true) us (List.map enc a).length hown.1
        rw [← this]
        simp [l, encC, List.flatMap_map]
      have ho : Own w w0.heap.size e sz encC p l := by
        show w.ownsRow _ e sz p l.length (l.flatMap encC)
        rw [hfl, hll]
        exact hown
      obtain ⟨A, c, hpe, hnc, _⟩ := ho.val
      subst hpe
      have hi : q0 ≤ l.length := by rw [hll, List.length_map]; exact hc.2.1
      rw [hP]
      refine (any l X q0 w0.heap.size A c g off c1 w ho hX (by simpa using hc1) (fun e => hvS g e hSg) hi (by rw [hll, List.length_map]; exact hc.2.2) hw0.size).mono ?_
      rintro ed w' ⟨A2, c2, rfl, ho2, hg2, hb2⟩
      have hrl : (List.take q0 l ++ X :: List.drop q0 l).length = (List.map enc (List.take q0 a ++ x :: List.drop q0 a)).length := by
        simp [hll]
      have hvb : ∀ b, (Value.slice A2 (List.take q0 l ++ X :: List.drop q0 l).length c2).ownBlock = some b → (Value.slice A l.length c).ownBlock = some b ∨ w.heap.size ≤ b := fun b hb => by
        rcases hb2 with h | h
        · exact Or.inl (h ▸ hb)
        · rw [h] at hb; injection hb with hb; exact Or.inr (by omega)
      have hown2 : w'.ownsRow w0.heap.size e sz (Value.slice A2 (List.take q0 l ++ X :: List.drop q0 l).length c2) (List.take q0 l ++ X :: List.drop q0 l).length ((List.take q0 l ++ X :: List.drop q0 l).flatMap encC) := ho2
      have hcl : ∀ y ∈ a, (enc y).cells.length = sz := fun y hy => by
        obtain ⟨k, hk, rfl⟩ := List.mem_iff_getElem.1 hy
        have := hlen k (by simpa using hk)
        simpa using this
      -- every element of the new row, with its cells
      have hel : ∀ k (hk : k < (List.take q0 l ++ X :: List.drop q0 l).length) (hk' : k < (List.take q0 a ++ x :: List.drop q0 a).length), ((List.take q0 l ++ X :: List.drop q0 l)[k] = X ∧ (List.take q0 a ++ x :: List.drop q0 a)[k] = x) ∨
          ∃ m, ∃ hm : m < l.length, ∃ hm' : m < a.length, (List.take q0 l ++ X :: List.drop q0 l)[k] = l[m] ∧ (List.take q0 a ++ x :: List.drop q0 a)[k] = a[m] := fun k hk hk' => by
        have hla : l.length = a.length := by rw [hll, List.length_map]
        by_cases h1 : k < q0
        · refine Or.inr ⟨k, by omega, by omega, ?_, ?_⟩
          · rw [List.getElem_append_left (by simp; omega)]; simp
          · rw [List.getElem_append_left (by simp; omega)]; simp
        · by_cases h2 : k = q0
          · refine Or.inl ⟨?_, ?_⟩
            · rw [List.getElem_append_right (by simp; omega)]
              simp only [List.length_take, show k - min q0 l.length = 0 by omega, List.getElem_cons_zero]
            · rw [List.getElem_append_right (by simp; omega)]
              simp only [List.length_take, show k - min q0 a.length = 0 by omega, List.getElem_cons_zero]
          · refine Or.inr ⟨k - 1, by simp at hk; omega, by simp at hk'; omega, ?_, ?_⟩
            · rw [List.getElem_append_right (by simp; omega)]
              simp only [List.length_take, show k - min q0 l.length = (k - 1 - q0) + 1 by omega, List.getElem_cons_succ, List.getElem_drop]
              congr 1
              omega
            · rw [List.getElem_append_right (by simp; omega)]
              simp only [List.length_take, show k - min q0 a.length = (k - 1 - q0) + 1 by omega, List.getElem_cons_succ, List.getElem_drop]
              congr 1
              omega
      refine ⟨_, _, (List.take q0 l ++ X :: List.drop q0 l).flatMap encC, rfl, hg2, by rw [← hrl]; exact hown2, fun h => (by cases h), hvb, fun k hk => ?_, fun k hk j hj => ?_, fun u hu => ?_, fun γ' hγ' => .row hγ' (fun g s e => by injection e with e; injection e with _ e)⟩
      · have hk' : k < (List.take q0 a ++ x :: List.drop q0 a).length := by simpa using hk
        rw [List.getElem_map]
        rcases hel k (by rw [hrl]; exact hk) hk' with ⟨_, h⟩ | ⟨m, hm, hm', _, h⟩
        · rw [h]; exact hxl0
        · rw [h]; exact hcl _ (List.getElem_mem hm')
      · have hk' : k < (List.take q0 a ++ x :: List.drop q0 a).length := by simpa using hk
        have hkl : k < (List.take q0 l ++ X :: List.drop q0 l).length := by rw [hrl]; exact hk
        have hS2 : ∀ b, S b → b < w.heap.size → w'.heap[b]? = w.heap[b]? ∧ ((S b ∨ w.heap.size ≤ b) ∧ (Value.slice A2 (List.take q0 l ++ X :: List.drop q0 l).length c2).ownBlock ≠ some b) := fun b hS hlt =>
          ⟨hg2.block b hlt (fun e => hvS b e.symm hS), Or.inl hS, fun e => by
            rcases hvb b e with h | h
            · exact hvS b h hS
            · omega⟩
        simp only [List.getElem_map] at hj ⊢
        rcases hel k hkl hk' with ⟨hX', hx'⟩ | ⟨m, hm, hm', hX', hx'⟩
        · simp only [hx'] at hj ⊢
          have hj' : j < sz := by omega
          have hat := flatMap_at (enc := encC (n := sz)) (fun y _ => y.2.1) k hkl j hj' (cell 0 j) (by rw [hX']; exact hXg j hj')
          rw [List.getD_eq_getElem?_getD, hat]
          have := hrr 0 (by simp) j hj
          exact Rep.mono this hg2.size hS2
        · simp only [hx'] at hj ⊢
          have hj' : j < sz := by rw [hcl _ (List.getElem_mem hm')] at hj; exact hj
          have hlm : (encC l[m])[j]? = some (us.getD (m * sz + j) undef) := by
            have hlt : m * sz + j < us.length := by
              rw [hown.1, ← hll]
              have : (m + 1) * sz ≤ l.length * sz := Nat.mul_le_mul_right _ hm
              rw [Nat.succ_mul] at this
              omega
            simp [l, encC, hj', List.getElem?_eq_getElem hlt]
          have hat := flatMap_at (enc := encC (n := sz)) (fun y _ => y.2.1) k hkl j hj' _ (by rw [hX']; exact hlm)
          rw [List.getD_eq_getElem?_getD, hat]
          have := hre m (by simpa using hm') j (by simpa using hj)
          simp only [List.getElem_map] at this
          exact Rep.mono this hg2.size hS2
      · obtain ⟨y, _, hy⟩ := List.mem_flatMap.1 hu
        exact y.2.2 u hy
    · cases hF
  · cases hF
end Go.Proofs.Ytcbdhigllelmcaa
namespace Go.Proofs.Ytcbdhigllelmcaa
open Go.RowKit

def wChecks : List Trk → Int
  | [] => 0
  | t :: r => if puCheck t ≠ 0 then puCheck t else wChecks r
def wCheck (l : List Trk) : Int := if 8 < l.length then 5 else wChecks l
theorem wChecks_drop (l : List Trk) (k : Nat) (h : k < l.length) : wChecks (l.drop k) = if puCheck l[k] ≠ 0 then puCheck l[k] else wChecks (l.drop (k + 1)) := by
  rw [drop_cons l k h]; rfl
theorem wChecks_zero (l : List Trk) : wChecks l = 0 ↔ ∀ t ∈ l, puCheck t = 0 := by
  induction l with
  | nil => simp [wChecks]
  | cons x r ih =>
    unfold wChecks
    by_cases h : puCheck x = 0
    · rw [if_neg (by simp [h]), ih]; simp [h]
    · rw [if_pos h]; simp [h]
theorem wCheck_zero (l : List Trk) : wCheck l = 0 ↔ l.length ≤ 8 ∧ ∀ t ∈ l, TOk t := by
  unfold wCheck
  split
  · constructor
    · intro h; simp at h
    · intro h; omega
  · rw [wChecks_zero]
    exact ⟨fun h => ⟨by omega, fun t ht => (puCheck_zero t).1 (h t ht)⟩, fun h t ht => (puCheck_zero t).2 (h.2 t ht)⟩
end Go.Proofs.Ytcbdhigllelmcaa
namespace Go.Proofs.Ytcbdhigllelmcaa
open Go.RowKit

instance : Inhabited Trk := ⟨⟨0, [], [], 0⟩⟩

def F_puCheck (n : Nat) (t : Trk) : Option Int := some (puCheck t)
def R_puCheck (r : Int) : AV := aI r
theorem con_puCheck {n : Nat} {t : Trk} {r : Int} (h : F_puCheck n t = some r) : Con E0 true 46 [aTrk t] (R_puCheck r) := by
  injection h with h; subst h; exact puCheck_con t
def F_puAllows (n : Nat) (t : Trk) (seq time : Int) : Option (Bool × Int) := if t.beyond.length ≤ 1000000000 ∧ t.points.length ≤ 1000000000 then some (allowsT t seq time) else none
def R_puAllows (r : Bool × Int) : AV := .tup [.bool r.1, aI r.2]
theorem con_puAllows {n : Nat} {t : Trk} {seq time : Int} {r : Bool × Int} (h : F_puAllows n t seq time = some r) : Con E0 true 70 [aTrk t, aI seq, aI time] (R_puAllows r) := by
  unfold F_puAllows at h
  split at h
  · rename_i hl; injection h with h; subst h; exact allows_con t seq time hl.1 hl.2
  · cases h
def F_puAdd (n : Nat) (t : Trk) (p : Pt) : Option (Trk × Int) := if t.beyond.length ≤ 1000000 ∧ t.points.length ≤ 1000000 then some (addT t p) else none
def R_puAdd (r : Trk × Int) : AV := .tup [aTrk r.1, aI r.2]
theorem con_puAdd {n : Nat} {t : Trk} {p : Pt} {r : Trk × Int} (h : F_puAdd n t p = some r) : Con E0 true 74 [aTrk t, aPt p] (R_puAdd r) := by
  unfold F_puAdd at h
  split at h
  · rename_i hl; injection h with h; subst h; exact add_con t p hl.1 hl.2
  · cases h
def F_puSettle (n : Nat) (t : Trk) : Option (Trk × Int) := if t.beyond.length ≤ 1000000000 ∧ t.points.length ≤ 1000000000 then some (settleT t) else none
theorem con_puSettle {n : Nat} {t : Trk} {r : Trk × Int} (h : F_puSettle n t = some r) : Con E0 true 72 [aTrk t] (R_puAdd r) := by
  unfold F_puSettle at h
  split at h
  · rename_i hl
    injection h with h
    subst h
    exact Con.of1 (enters_of Try.func72 rfl rfl) fun S w x hx => by
      refine (settle_any t S x w (rep_trk.1 hx) hl.1 hl.2).mono fun e w' ⟨A, c, A', c', h1, h2, h3, h4⟩ => ⟨_, h1, h4, ?_⟩
      have := rep_trk.2 (RetTE.trkV h2 h3)
      refine .tup _ rfl fun i hi => ?_
      have hi' : i < 2 := hi
      rcases i with _ | _ | i
      · exact this.mono (Nat.le_refl _) (fun b hb _ => ⟨rfl, Or.inr hb⟩)
      · exact .int _ _
      · omega
  · cases h
end Go.Proofs.Ytcbdhigllelmcaa
namespace Go.Proofs.Ytcbdhigllelmcaa
open Go.RowKit

def startG (args : List AV) (me : List (Nat × Ent)) : AS := ⟨args.zipIdx.map fun p => (p.2, p.1), me⟩
def boxB (np : Nat) (args : List AV) (τ : AS) (me me' : List (Nat × Ent)) (yk : List Nat) : Bool := me.all fun x => match x.2 with
  | .box _ _ => memB x.1 yk || (List.range np).any fun t => (match args[t]? with | some (.ptr k 0) => Nat.beq k x.1 | _ => false) && (match τ.get t, lkE me' x.1 with | .ptr k 0, some (.box _ _) => Nat.beq k x.1 | _, _ => false)
  | _ => true
def YK (args : List AV) (τ : AS) (me' : List (Nat × Ent)) : List Nat → Prop
  | [] => True
  | k :: r => (∃ (t t' i l : Nat) (T : Array Value) (caps caps' : List AV) (ty : TypeId) (es : List AV), args[t]? = some (.yld l T caps) ∧ τ.get t' = .yld l T caps' ∧ caps[i]? = some (.ptr k 0) ∧ caps'[i]? = some (.ptr k 0) ∧ lkE me' k = some (.box ty es)) ∧ YK args τ me' r
theorem YK.at {args : List AV} {τ : AS} {me' : List (Nat × Ent)} : ∀ {l : List Nat}, YK args τ me' l → ∀ k ∈ l, ∃ (t t' i l : Nat) (T : Array Value) (caps caps' : List AV) (ty : TypeId) (es : List AV), args[t]? = some (.yld l T caps) ∧ τ.get t' = .yld l T caps' ∧ caps[i]? = some (.ptr k 0) ∧ caps'[i]? = some (.ptr k 0) ∧ lkE me' k = some (.box ty es)
  | [], _, k, hk => by cases hk
  | x :: r, h, k, hk => by
    rcases List.mem_cons.1 hk with rfl | hk
    · exact h.1
    · exact h.2.at k hk
inductive GX (E : Env) (nt : Nat) (fn : Func) (args : List AV) (me : List (Nat × Ent)) (σ : AS) (res : AV) (me' : List (Nat × Ent)) : Prop
  | mk (τ : AS) (hl : LeX E nt σ τ) (hme : τ.me = me') (avs : List AV) (h1 : retA E.tab τ fn.results.toList = some avs) (h2 : Sub (packA avs) res) (yk : List Nat) (hyk : YK args τ me' yk) (hb : boxB E.np args τ me me' yk = true)
def EndG (E : Env) (nt : Nat) (fn : Func) (args : List AV) (me : List (Nat × Ent)) (res : AV) (me' : List (Nat × Ent)) : Exit → AS → Prop
  | .normal, σ => GX E nt fn args me σ res me'
  | .ret, σ => GX E nt fn args me σ res me'
  | _, _ => False
theorem ConG.walk {E : Env} {f : FuncId} {fn : Func} {args caps : List AV} {me me' : List (Nat × Ent)} {res : AV} (c : Code) (hf : E.P.funcs[f]? = some fn) (hb : fn.body = some c) (hn : Nat.ble (args ++ caps).length fn.ntmps = true) (hnp : Nat.ble E.np (args ++ caps).length = true) (hrg : E.rg = false) (hdr : E.dr = false)
    (h : AW E fn.ntmps (EndG E fn.ntmps fn (args ++ caps) me res me') [.code c] .normal (startG (args ++ caps) me)) : ConG E.P E.yl (CalF E.P f caps.length) args caps me res me' := by
  intro cx γ w vs cs hP hdr0 hyl hnt0 hnp0 hme hvs hva hca hcs
  have hlen : (vs ++ cs).size = (args ++ caps).length := by simp [hvs, hcs]
  have hn' := Nat.le_of_ble_eq_true hn
  have hnp' := Nat.le_of_ble_eq_true hnp
  refine callsIn_wide.1 (callsIn_of_wp (F := Fence.wide) (n := 0) hf hb trivial ?_)
  let cx' : Cx := ⟨E, cx.S0, cx.w0, fn.ntmps, fun b => b < w.heap.size ∧ ¬ own γ b, w, none, vs ++ cs, fun _ => rfl⟩
  have h0 : WP cx' c (EndG E fn.ntmps fn (args ++ caps) me res me') (startG (args ++ caps) me) := WP.mono (h.out cx' rfl rfl) fun e σ hk => by cases e <;> exact hk
  have hrep : ∀ t (ht : t < (args ++ caps).length), Rep w (Sg cx.S0 cx.w0.heap.size γ) γ (args ++ caps)[t] ((vs ++ cs).getD t undef) := fun t ht => by
    by_cases h1 : t < args.length
    · rw [List.getElem_append_left h1, Array.getD_eq_getD_getElem?, Array.getElem?_append_left (by omega), ← Array.getD_eq_getD_getElem?]
      exact hva t h1
    · rw [List.getElem_append_right (by omega), Array.getD_eq_getD_getElem?, Array.getElem?_append_right (by omega), ← Array.getD_eq_getD_getElem?, hvs]
      exact hca _ (by rw [List.length_append] at ht; omega)
  have hget : ∀ t, t < (args ++ caps).length → (vs ++ cs ++ Array.replicate (fn.ntmps - (vs ++ cs).size) undef).getD t undef = (vs ++ cs).getD t undef := fun t ht => by
    rw [Array.getD_eq_getD_getElem?, Array.getD_eq_getD_getElem?, Array.getElem?_append_left (by omega)]
  have hst : StG cx' γ (startG (args ++ caps) me) { tmps := vs ++ cs ++ Array.replicate (fn.ntmps - (vs ++ cs).size) undef, defers := [] } w := by
    refine ⟨fun t => ?_, hme.me, hme.inj, hme.ge, hme.below, ?_, ⟨fun _ => rfl, ⟨[], rfl, .nil, fun r hr => by cases hr⟩, fun t ht => ?_, fun l R hl => hme.defers.yl l R (hyl _ hl), Nat.le_refl _⟩, hme.gh, fun b hb => ⟨hb.2, hb.1, rfl⟩, fun hd => ?_⟩
    · unfold AS.get startG
      rw [lkV_zip]
      by_cases ht : 0 ≤ t ∧ t < 0 + (args ++ caps).length
      · rw [dif_pos ht]
        have ht' : t < (args ++ caps).length := by omega
        show Rep w _ γ _ ((vs ++ cs ++ Array.replicate (fn.ntmps - (vs ++ cs).size) undef).getD t undef)
        rw [hget t ht']
        exact hrep t ht'
      · rw [dif_neg ht]; exact .any _
    · show (vs ++ cs ++ Array.replicate (fn.ntmps - (vs ++ cs).size) undef).size = fn.ntmps
      rw [Array.size_append, Array.size_replicate]; omega
    · have ht' : t < E.np := ht
      exact hget t (by omega)
    · exact absurd (hdr.symm.trans hd) (by simp)
  refine wpIn_mono (h0 _ _ ⟨γ, hst⟩) (fun e a w' ⟨σ, hq, hst0⟩ => ?_)
  have key : GX E fn.ntmps fn (args ++ caps) me σ res me' → bodyPost E.P fn (fun e w' => ∃ u γ', e = .returned u ∧ MeSt cx γ' me' w' ∧ Rep w' (Sg cx.S0 cx.w0.heap.size γ') γ' res u ∧ w.heap.size ≤ w'.heap.size ∧ (∀ i ty es, lkE me i = some (.box ty es) → γ' i = γ i) ∧
      (∀ b, ¬ own γ b → b < w.heap.size → w'.heap[b]? = w.heap[b]? ∧ ¬ own γ' b)) .ret a w' := by
    rintro ⟨τ, hl, hme', avs, h1, h2, yk, hyk, hbx⟩
    obtain ⟨γ', hs⟩ := hl cx' rfl rfl a w' hst0
    obtain ⟨u, hu, hr⟩ := results_run hs h1
    have hfr : ∀ b, ¬ own γ b → b < w.heap.size → w'.heap[b]? = w.heap[b]? ∧ ¬ own γ' b := fun b hb hlt => by
      obtain ⟨q1, q2, q3⟩ := hs.fr b ⟨hlt, hb⟩
      exact ⟨q3, q1⟩
    have hsz : w.heap.size ≤ w'.heap.size := hs.defers.sz
    refine ⟨hs.defers.d0 hrg, u, hu, u, γ', rfl, ?_, hr.sub h2, hsz, fun i ty es hi => ?_, hfr⟩
    · refine ⟨fun t => .any _, fun i => by have := hs.me i; unfold AS.find at this ⊢; rw [← hme']; exact this, hs.inj, hs.ge, hs.below, hnt0.symm, ⟨fun _ => rfl, ⟨[], rfl, .nil, fun r hr => by cases hr⟩, fun t ht => by rw [hnp0] at ht; omega, fun l R hl => ?_, Nat.le_trans hme.defers.sz hsz⟩, hs.gh, fun b hb => ?_, fun hd => absurd (hdr0.symm.trans hd) (by simp)⟩
      · obtain ⟨q0, q1, q2, q3⟩ := hme.defers.yl l R hl
        obtain ⟨k1, k2⟩ := hfr l q2 q1
        exact ⟨q0, by omega, k2, k1.trans q3⟩
      · obtain ⟨q1, q2, q3⟩ := hme.fr b hb
        obtain ⟨k1, k2⟩ := hfr b q1 q2
        exact ⟨k2, by omega, k1.trans q3⟩
    · have hb' := List.all_eq_true.1 hbx (i, .box ty es) (lkE_in hi)
      have hb' := (Bool.or_eq_true _ _).mp hb'
      rcases hb' with hb' | hb'
      · obtain ⟨t, t', j, l, T, yc, yc', ty', es', e1, e2, e3, e4, e5⟩ := hyk.at i ((memB_iff _ _).1 hb')
        obtain ⟨hlt, hat⟩ := List.getElem?_eq_some_iff.1 e1
        have r1 := hrep t hlt
        rw [hat] at r1
        have r2 := hs.tm t'
        rw [e2] at r2
        obtain ⟨hj, hja⟩ := List.getElem?_eq_some_iff.1 e3
        obtain ⟨hj', hja'⟩ := List.getElem?_eq_some_iff.1 e4
        have s1 := r1.yld_inv.2 j hj
        have s2 := r2.yld_inv.2 j hj'
        rw [hja] at s1
        rw [hja'] at s2
        have m1 := hme.me i
        unfold AS.find at m1
        rw [hi] at m1
        obtain ⟨x, hx, g, vs1, hd1, _⟩ := m1
        have m2 := hs.me i
        unfold AS.find at m2
        rw [hme', e5] at m2
        obtain ⟨x2, hx2, g2, vs2, hd2, _⟩ := m2
        subst hd1 hd2
        have p1 := s1.ptr_inv hx
        rw [s2.ptr_inv hx2] at p1
        injection p1 with p1
        injection p1 with p1
        injection p1 with p1
        rw [hx, hx2, p1]
      obtain ⟨t, ht, htb⟩ := List.any_eq_true.1 hb'
      rw [List.mem_range] at ht
      rw [Bool.and_eq_true] at htb
      obtain ⟨b1, b2⟩ := htb
      split at b1
      · rename_i k hk
        have e1 : k = i := Nat.eq_of_beq_eq_true b1
        subst e1
        split at b2
        · rename_i k2 ty2 es2 hk2 hk3
          have e2 : k2 = k := Nat.eq_of_beq_eq_true b2
          subst e2
          obtain ⟨hlt, hat⟩ := List.getElem?_eq_some_iff.1 hk
          have r1 := hrep t hlt
          rw [hat] at r1
          have r2 := hs.tm t
          rw [hk2, hs.defers.pin t ht] at r2
          have m1 := hme.me k2
          unfold AS.find at m1
          rw [hi] at m1
          obtain ⟨x, hx, g, vs1, hd1, _⟩ := m1
          have m2 := hs.me k2
          unfold AS.find at m2
          rw [hme', hk3] at m2
          obtain ⟨x2, hx2, g2, vs2, hd2, _⟩ := m2
          subst hd1 hd2
          have p1 := r1.ptr_inv hx
          have p2 := r2.ptr_inv hx2
          have p3 : (vs ++ cs).getD t undef = cx'.pv.getD t undef := rfl
          rw [p3, p2] at p1
          injection p1 with p1
          injection p1 with p1
          injection p1 with p1
          rw [hx, hx2, p1]
        · cases b2
      · cases b1
  cases e with
  | normal => exact key hq
  | ret => exact key hq
  | _ => exact hq.elim
end Go.Proofs.Ytcbdhigllelmcaa
namespace Go.Proofs.Ytcbdhigllelmcaa
open Go.RowKit

theorem leaves_marks {cx : Cx} {γ : Gam} {σ : AS} {fn : Func} {R : Ending → World → Prop} : ∀ (rs : List Nat) (a : Act) (w : World), StG cx γ σ a w → cx.E.rg = true → (∀ b, cx.Fr b → False) → cx.E.yl = none → a.defers = rs.map (fun r => { target := .collected r, args := #[] }) → rs.Nodup →
    (∀ r ∈ rs, cx.w0.heap.size ≤ r ∧ r < w.heap.size ∧ ¬ own γ r ∧ w.heap[r]? = some (.deferred (some []))) →
    (∀ w' a', StG cx γ σ a' w' → a'.tmps = a.tmps → ∃ v, (results fn a.tmps).run cx.P w' = .ok v w' ∧ R (.returned v) w') → LeavesInM Fence.wide 0 cx.P fn a.tmps R a.defers .returning w
  | [], a, w, h, hrg, hF, hyl, hd, _, _, k => by
    rw [hd]
    obtain ⟨v, h1, h2⟩ := k w a h rfl
    exact ⟨v, h1, h2⟩
  | r :: rs, a, w, h, hrg, hF, hyl, hd, hnd, hrs, k => by
    obtain ⟨q1, q2, q3, q4⟩ := hrs r (List.mem_cons_self ..)
    rw [hd]
    refine ⟨by simp, Or.inl ⟨r, w.putObj r (.deferred none), rfl, run_takeDeferred q4, ?_⟩⟩
    have hnd' := (List.nodup_cons.1 hnd)
    have hrs' : ∀ r' ∈ rs, cx.w0.heap.size ≤ r' ∧ r' < (w.putObj r (.deferred none)).heap.size ∧ ¬ own γ r' ∧ (w.putObj r (.deferred none)).heap[r']? = some (.deferred (some [])) := fun r' hr' => by
      obtain ⟨p1, p2, p3, p4⟩ := hrs r' (List.mem_cons_of_mem _ hr')
      exact ⟨p1, by rw [putObj_size]; exact p2, p3, (putObj_other (b := r') (r := r) (by intro e; subst e; exact hnd'.1 hr')).trans p4⟩
    have hst := h.putObj (o' := .deferred none) (ds := rs.map (fun r => { target := .collected r, args := #[] })) q4 rfl q1 q3
      ⟨fun hr0 => absurd (hr0.symm.trans hrg) (by simp), ⟨rs, rfl, hnd'.2, hrs'⟩, h.defers.pin, fun l R hl => absurd (hyl.symm.trans hl) (by simp), by rw [putObj_size]; exact h.defers.sz⟩ (fun b hb => (hF b hb).elim)
    exact leaves_marks rs _ _ hst hrg hF hyl rfl hnd'.2 hrs' (fun w' a' h1 h2 => k w' a' h1 (h2.trans rfl))
theorem Con.walkM {E : Env} {fr : Bool} {f : FuncId} {fn : Func} {args : List AV} {res : AV} (c : Code) (hf : E.P.funcs[f]? = some fn) (hb : fn.body = some c) (he : Enters E f) (hn : Nat.ble args.length fn.ntmps = true) (hfr : fr = false ∨ res.flat = true)
    (h : AW E fn.ntmps (EndA E fn res) [.code c] .normal (start args)) (hrg : E.rg = true) (hyl : E.yl = none) (hnp : E.np = 0) : Con { E with rg := false } fr f args res := by
  refine ⟨he, fun S w vs ha => callsIn_wide.1 (callsIn_of_wp_marks (F := Fence.wide) (n := 0) hf hb trivial ?_)⟩
  have h0 : WP (Cx.call E S w fn.ntmps) c (EndA E fn res) (start args) := WP.mono (h.out (Cx.call E S w fn.ntmps) rfl rfl) fun e σ hk => by cases e <;> exact hk
  refine wpIn_mono (h0 _ _ (start_st hyl hnp ha (Nat.le_of_ble_eq_true hn))) (fun e a w' ⟨σ, hq, γ, hst⟩ => ?_)
  have key : (∃ avs, retA E.tab σ fn.results.toList = some avs ∧ Sub (closeR σ (packA avs)) res) → bodyPostM Fence.wide 0 E.P fn (fun e w' => ∃ v, e = .returned v ∧ BelE { E with rg := false } w w' ∧ Rep w' (fun b => (fr = false ∧ S b) ∨ w.heap.size ≤ b) G0 res v) .ret a w' := by
    rintro ⟨avs, h1, hsub⟩
    obtain ⟨rs, m1, m2, m3⟩ := hst.defers.marks
    refine leaves_marks (cx := Cx.call E S w fn.ntmps) rs a w' hst hrg (fun b hb => hb.elim) hyl m1 m2 m3 (fun w2 a2 hst2 e2 => ?_)
    obtain ⟨v, hv, hr⟩ := results_run hst2 h1
    rw [e2] at hv
    refine ⟨v, hv, v, rfl, ⟨hst2.below, hst2.dr⟩, ?_⟩
    have h2 := (closeR_rep (S' := fun b => S b ∨ w.heap.size ≤ b) hst2 (fun b hb => ?_) hr).sub hsub
    · rcases hfr with hfr | hfr
      · exact h2.mono (Nat.le_refl _) (fun b hb _ => ⟨rfl, hb.elim (fun h => Or.inl ⟨hfr, h⟩) Or.inr⟩)
      · exact h2.flat hfr
    · rcases hb with hb | hb
      · rcases hb with ⟨hb, _⟩ | ⟨hb, _⟩
        · exact Or.inl hb.1
        · exact Or.inr hb.1
      · exact Or.inr (hst2.ge b hb).1.1
  cases e with
  | normal => exact key (endA_elim hq)
  | ret => exact key (endA_elim hq)
  | _ => exact hq.elim
end Go.Proofs.Ytcbdhigllelmcaa
namespace Go.Proofs.Ytcbdhigllelmcaa
open Go.RowKit

theorem set_rep {w : World} {S : Nat → Prop} {γ : Gam} : ∀ (ps : List Nat) (avs : List AV) (vs : List Value) (T : Array Value) (base : List (Nat × AV)), (∀ t, Rep w S γ (lkV base t) (T.getD t undef)) → (∀ p ∈ ps, p < T.size) → avs.length = ps.length → vs.length = ps.length →
    (∀ i (hi : i < avs.length), Rep w S γ avs[i] (vs.getD i undef)) → ∀ t, Rep w S γ (lkV ((ps.zip avs).foldl (fun tm x => x :: tm) base) t) (((ps.zip vs).foldl (fun t x => t.setIfInBounds x.1 x.2) T).getD t undef)
  | [], _, _, T, base, h0, _, _, _, _ => fun t => h0 t
  | p :: ps, [], _, T, base, _, _, h1, _, _ => by simp at h1
  | p :: ps, av :: avs, [], T, base, _, _, _, h2, _ => by simp at h2
  | p :: ps, av :: avs, v :: vs, T, base, h0, hp, h1, h2, h3 => by
    simp only [List.zip_cons_cons, List.foldl_cons]
    refine set_rep ps avs vs _ _ (fun t => ?_) (fun q hq => by rw [Array.size_setIfInBounds]; exact hp q (List.mem_cons_of_mem _ hq)) (by simpa using h1) (by simpa using h2) (fun i hi => by have := h3 (i + 1) (by simpa using hi); simpa using this)
    have hpT := hp p (List.mem_cons_self ..)
    simp only [lkV]
    cases hb : Nat.beq p t with
    | true =>
      have := Nat.eq_of_beq_eq_true hb
      subst this
      have h := h3 0 (by simp)
      simp only [List.getElem_cons_zero, List.getD_cons_zero] at h
      simpa [hpT] using h
    | false =>
      have hne : p ≠ t := Nat.ne_of_beq_eq_false hb
      have e : (T.setIfInBounds p v).getD t undef = T.getD t undef := by
        rw [Array.getD_eq_getD_getElem?, Array.getElem?_setIfInBounds_ne hne, ← Array.getD_eq_getD_getElem?]
      rw [e]; exact h0 t
theorem set_size : ∀ (l : List (Nat × Value)) (T : Array Value), (l.foldl (fun t x => t.setIfInBounds x.1 x.2) T).size = T.size
  | [], T => rfl
  | x :: l, T => by rw [List.foldl_cons, set_size l, Array.size_setIfInBounds]
theorem set_other {t : Nat} : ∀ (l : List (Nat × Value)) (T : Array Value), (∀ x ∈ l, x.1 ≠ t) → (l.foldl (fun t x => t.setIfInBounds x.1 x.2) T).getD t undef = T.getD t undef
  | [], T, _ => rfl
  | x :: l, T, h => by
    rw [List.foldl_cons, set_other l _ (fun y hy => h y (List.mem_cons_of_mem _ hy)), Array.getD_eq_getD_getElem?, Array.getElem?_setIfInBounds_ne (h x (List.mem_cons_self ..)), ← Array.getD_eq_getD_getElem?]

def startR (ps : List Nat) (args ycaps : List AV) (me : List (Nat × Ent)) : AS := ⟨(ps.zip args).foldl (fun tm x => x :: tm) (ycaps.zipIdx.map fun p => (p.2, p.1)), me⟩
inductive BX (E : Env) (nt : Nat) (ycaps : List AV) (me : List (Nat × Ent)) (σ : AS) (me' : List (Nat × Ent)) : Prop
  | mk (τ : AS) (hl : LeX E nt σ τ) (hme : τ.me = me') (hb : boxB E.np ycaps τ me me' [] = true)
def EndB (E : Env) (nt : Nat) (ycaps : List AV) (me me' : List (Nat × Ent)) : Exit → AS → Prop
  | .normal, σ => BX E nt ycaps me σ me'
  | _, _ => False
theorem StG.putObjW {cx : Cx} {γ : Gam} {σ : AS} {a : Act} {w : World} (h : StG cx γ σ a w) {r : Nat} {o o' : Obj} (hr : w.heap[r]? = some o) (ho : o.isCells = false) (hB : cx.w0.heap.size ≤ r) (hno : ¬ own γ r) (hd : a.defers = []) (hyl : cx.E.yl = none) : StG { cx with w1 := w.putObj r o' } γ σ a (w.putObj r o') := by
  have hn := no_cell (k := 0) hr ho
  have hne : ∀ b, own γ b → b ≠ r := fun b hb e => hno (e ▸ hb)
  refine ⟨fun t => (h.tm t).putObj hn, fun id => ?_, h.inj, fun b hb => by rw [putObj_size]; exact h.ge b hb, h.below.trans ⟨rfl, rfl, rfl, by rw [putObj_size]; exact Nat.le_refl _, fun b hb => putObj_other (by omega)⟩, h.size,
    ⟨fun _ => hd, ⟨[], hd, .nil, fun r hr => by cases hr⟩, h.defers.pin, fun l R hl => absurd (hyl.symm.trans hl) (by simp), Nat.le_refl _⟩, fun b hb => by rw [putObj_size]; exact h.gh b hb, fun b hb => ?_, h.dr⟩
  · have := h.me id
    cases hf : σ.find id with
    | none => rw [hf] at this; exact this
    | some e =>
      rw [hf] at this
      obtain ⟨x, hx, he⟩ := this
      exact ⟨x, hx, he.putObj hn (fun g s hd => hne g ⟨id, s, by rw [hx, hd]⟩)⟩
  · obtain ⟨q1, q2, q3⟩ := h.fr b hb
    exact ⟨q1, by rw [putObj_size]; exact q2, rfl⟩

theorem ConG.round {E : Env} {nt : Nat} {ps : Array Tmp} {assign body : Code} {args ycaps : List AV} {me me' : List (Nat × Ent)} (hrg : E.rg = false) (hylE : E.yl = none) (hdr : E.dr = false) (hps : ps.toList.all (fun p => Nat.ble E.np p && Nat.blt p nt) = true) (hlen : args.length = ps.size) (hcl : Nat.ble ycaps.length nt = true)
    (h : AW E nt (thenA (fun σ => AW E nt (EndB E nt ycaps me me') [.code body] .normal σ) (fun _ _ => False)) [.code assign] .normal (startR ps.toList args ycaps me))
    (l D : Nat) (fn : FuncId) (T : Array Value) (hT : T.size = nt) : ConG E.P (some (l, .loop (recR fn T ps assign body D))) (fun vs cs w R => cs = T → CalY E.P l vs cs w R) args ycaps me (.bool true) me' := by
  intro cx γ w vs cs hP hdr0 hyl hnt0 hnp0 hme hvs hva hca hcs
  subst hcs
  have hyl' := hyl _ rfl
  obtain ⟨q0, q1, q2, q3⟩ := hme.defers.yl l _ hyl'
  refine ⟨fn, _, assign, body, run_yield (P := E.P) (args := vs) q3 (by rw [hvs, hlen]), roundIn_of_wpIn trivial ?_⟩
  have ef : (ps.zip vs).foldl (fun (t : Array Value) (x : Tmp × Value) => t.setIfInBounds x.1 x.2) cs = (ps.toList.zip vs.toList).foldl (fun t x => t.setIfInBounds x.1 x.2) cs := by
    rw [← Array.foldl_toList, Array.toList_zip]
  obtain ⟨tm, htm⟩ : ∃ tm, tm = (ps.toList.zip vs.toList).foldl (fun t x => t.setIfInBounds x.1 x.2) cs := ⟨_, rfl⟩
  have etm : (ps.zip vs).foldl (fun (t : Array Value) (x : Tmp × Value) => t.setIfInBounds x.1 x.2) cs = tm := by rw [ef, htm]
  show assign.wpIn (Fence.wide.inRound l) 0 E.P _ { tmps := (ps.zip vs).foldl (fun (t : Array Value) (x : Tmp × Value) => t.setIfInBounds x.1 x.2) cs, defers := [] } w
  rw [etm]
  have hps' : ∀ p ∈ ps.toList, E.np ≤ p ∧ p < nt := fun p hp => by
    have := List.all_eq_true.1 hps p hp
    simpa using this
  let cxa : Cx := ⟨E, cx.S0, cx.w0, nt, fun b => b < w.heap.size ∧ ¬ own γ b, w, some l, cs, fun h => absurd (hrg.symm.trans h) (by simp)⟩
  have hst : StG cxa γ (startR ps.toList args ycaps me) { tmps := tm, defers := [] } w := by
    refine ⟨fun t => ?_, hme.me, hme.inj, hme.ge, hme.below, by rw [htm]; exact (set_size _ _).trans hT, ⟨fun _ => rfl, ⟨[], rfl, .nil, fun r hr => by cases hr⟩, fun t ht => ?_, fun l R hl => absurd (hylE.symm.trans hl) (by simp), Nat.le_refl _⟩, hme.gh, fun b hb => ⟨hb.2, hb.1, rfl⟩, fun hd => absurd (hdr.symm.trans hd) (by simp)⟩
    · rw [htm]
      refine set_rep ps.toList args vs.toList cs _ (fun t => ?_) (fun p hp => by rw [hT]; exact (hps' p hp).2) (by simpa using hlen) (by simp [hvs, hlen]) (fun i hi => ?_) t
      · rw [lkV_zip]
        by_cases ht : 0 ≤ t ∧ t < 0 + ycaps.length
        · rw [dif_pos ht]; exact hca t (by omega)
        · rw [dif_neg ht]; exact .any _
      · have := hva i hi
        rwa [Array.getD_eq_getD_getElem?, ← Array.getElem?_toList, ← List.getD_eq_getElem?_getD] at this
    · show tm.getD t undef = cs.getD t undef
      rw [htm]
      exact set_other _ _ (fun x hx e => by have := (hps' x.1 (List.of_mem_zip hx).1).1; have ht' : t < E.np := ht; omega)
  have hA : WP cxa assign (thenA (fun σ => AW E nt (EndB E nt ycaps me me') [.code body] .normal σ) (fun _ _ => False)) (startR ps.toList args ycaps me) := WP.mono (h.out cxa rfl rfl) fun e σ hk => by cases e <;> exact hk
  refine wpIn_mono (F := Fence.wide.inRound l) (hA _ _ ⟨γ, hst⟩) (fun e a1 w1 ⟨σ1, hq1, hst1⟩ => ?_)
  cases e with
  | normal =>
    obtain ⟨γ1, hs1⟩ := hst1
    obtain ⟨k1, k2, k3⟩ := hs1.fr l ⟨q1, q2⟩
    have k4 : w1.heap[l]? = some (.loop (recR fn cs ps assign body D)) := k3.trans q3
    refine ⟨_, run_beginRound (P := E.P) k4 rfl, ?_⟩
    have hs2 := hs1.putObjW (o' := .loop { recR fn cs ps assign body D with state := .busy }) k4 rfl q0 k1 (hs1.defers.d0 hrg) hylE
    generalize hw2 : w1.putObj l (.loop { recR fn cs ps assign body D with state := .busy }) = w2 at hs2 ⊢
    have hB : WP { cxa with w1 := w2 } body (EndB E nt ycaps me me') σ1 := WP.mono ((show AW E nt (EndB E nt ycaps me me') [.code body] .normal σ1 from hq1).out { cxa with w1 := w2 } rfl rfl) fun e σ hk => by cases e <;> exact hk
    refine wpIn_mono (F := Fence.wide.inRound l) (hB _ _ ⟨γ1, hs2⟩) (fun e2 a2 w3 ⟨σ2, hq2, hst2⟩ => ?_)
    cases e2 with
    | normal =>
      obtain ⟨τ, hl, hme', hbx⟩ := hq2
      obtain ⟨γ3, hs3⟩ := hl { cxa with w1 := w2 } rfl rfl a2 w3 hst2
      have hb2 : w2.heap[l]? = some (.loop { recR fn cs ps assign body D with state := .busy }) := by rw [← hw2]; exact World.putObj_heap_same k2
      obtain ⟨j1, j2, j3⟩ := hs3.fr l ⟨q1, q2⟩
      have j4 : w3.heap[l]? = some (.loop { recR fn cs ps assign body D with state := .busy }) := j3.trans hb2
      refine ⟨_, _, run_endRound (P := E.P) none j4, ?_⟩
      have hs4 := hs3.putObjW (o' := .loop (recR fn cs ps assign body D)) j4 rfl q0 j1 (hs3.defers.d0 hrg) hylE
      show ∃ u γ', _ ∧ _
      have hw4 : w3.putObj l (.loop { { recR fn cs ps assign body D with state := .busy } with state := if (none : Option Code).isNone = true then LoopState.ready else LoopState.done, pending := none }) = w3.putObj l (.loop (recR fn cs ps assign body D)) := rfl
      rw [hw4]
      have hr4 : (w3.putObj l (.loop (recR fn cs ps assign body D))).heap[l]? = some (.loop (recR fn cs ps assign body D)) := World.putObj_heap_same j2
      generalize hwe : w3.putObj l (.loop (recR fn cs ps assign body D)) = w4 at hs4 hr4 ⊢
      have z1 : w.heap.size ≤ w1.heap.size := hs1.defers.sz
      have z2 : w1.heap.size = w2.heap.size := by rw [← hw2, putObj_size]
      have z3 : w2.heap.size ≤ w3.heap.size := hs3.defers.sz
      have z4 : w3.heap.size = w4.heap.size := by rw [← hwe, putObj_size]
      have hfr : ∀ b, ¬ own γ b → b < w.heap.size → w4.heap[b]? = w.heap[b]? ∧ ¬ own γ3 b := fun b hb hlt => by
        obtain ⟨p1, p2, p3⟩ := hs1.fr b ⟨hlt, hb⟩
        obtain ⟨r1, r2, r3⟩ := hs3.fr b ⟨hlt, hb⟩
        refine ⟨?_, r1⟩
        by_cases hbl : b = l
        · subst hbl; exact hr4.trans q3.symm
        · have e1 : w4.heap[b]? = w3.heap[b]? := by rw [← hwe]; exact putObj_other hbl
          have e2 : w2.heap[b]? = w1.heap[b]? := by rw [← hw2]; exact putObj_other hbl
          exact e1.trans (r3.trans (e2.trans p3))
      refine ⟨.bool true, γ3, rfl, ⟨fun t => .any _, fun i => by have := hs4.me i; unfold AS.find at this ⊢; rw [← hme']; exact this, hs4.inj, hs4.ge, hs4.below, hnt0.symm, ⟨fun _ => rfl, ⟨[], rfl, .nil, fun r hr => by cases hr⟩, fun t ht => by rw [hnp0] at ht; omega, fun l' R' hl' => ?_, Nat.le_trans hme.defers.sz (by omega)⟩, hs4.gh, fun b hb => ?_, fun hd => absurd (hdr0.symm.trans hd) (by simp)⟩, .bool _, by omega, fun i ty es hi => ?_, hfr⟩
      · rw [hyl'] at hl'
        injection hl' with hl'
        injection hl' with e1 e2
        subst e1 e2
        exact ⟨q0, by omega, j1, hr4⟩
      · obtain ⟨p1, p2, p3⟩ := hme.fr b hb
        obtain ⟨r1, r2⟩ := hfr b p1 p2
        exact ⟨r2, by omega, r1.trans p3⟩
      · have hb' := List.all_eq_true.1 hbx (i, .box ty es) (lkE_in hi)
        have hb' := (Bool.or_eq_true _ _).mp hb'
        rcases hb' with hb' | hb'
        · cases hb'
        obtain ⟨t, ht, htb⟩ := List.any_eq_true.1 hb'
        rw [List.mem_range] at ht
        rw [Bool.and_eq_true] at htb
        obtain ⟨b1, b2⟩ := htb
        split at b1
        · rename_i k hk
          have e1 : k = i := Nat.eq_of_beq_eq_true b1
          subst e1
          split at b2
          · rename_i k2 ty2 es2 hk2 hk3
            have e2 : k2 = k := Nat.eq_of_beq_eq_true b2
            subst e2
            obtain ⟨hlt, hat⟩ := List.getElem?_eq_some_iff.1 hk
            have r1 := hca t hlt
            rw [hat] at r1
            have r2 := hs3.tm t
            rw [hk2, hs3.defers.pin t ht] at r2
            have m1 := hme.me k2
            unfold AS.find at m1
            rw [hi] at m1
            obtain ⟨x, hx, g, vs1, hd1, _⟩ := m1
            have m2 := hs3.me k2
            unfold AS.find at m2
            rw [hme', hk3] at m2
            obtain ⟨x2, hx2, g2, vs2, hd2, _⟩ := m2
            subst hd1 hd2
            have p1 := r1.ptr_inv hx
            have p2 : cs.getD t undef = _ := r2.ptr_inv hx2
            rw [p2] at p1
            injection p1 with p1
            injection p1 with p1
            injection p1 with p1
            rw [hx, hx2, p1]
          · cases b2
        · cases b1
    | _ => exact hq2.elim
  | _ => exact hq1.elim
end Go.Proofs.Ytcbdhigllelmcaa
namespace Go.Proofs.Ytcbdhigllelmcaa
open Go.RowKit

noncomputable def E0p (np : Nat) : Env := { E0 with np := np }
noncomputable def E0y (l : Nat) (R : Obj) (np : Nat) : Env := { E0 with np := np, yl := some (l, R) }
noncomputable def E0r : Env := { E0 with rg := true }
theorem ConG.up {P : Program} {yl : Option (Nat × Obj)} {C : CalT} {args caps : List AV} {me me' : List (Nat × Ent)} {res : AV} (h : ConG P none C args caps me res me') : ConG P yl C args caps me res me' :=
  fun cx γ w vs cs h1 h2 _ => h cx γ w vs cs h1 h2 (fun x hx => by cases hx)
theorem Con.env {E E' : Env} {fr : Bool} {f : FuncId} {avs : List AV} {res : AV} (hP : E'.P = E.P) (hd : E'.dr = false) (h : Con E fr f avs res) : Con E' fr f avs res := by
  refine ⟨by have := h.1; unfold Enters at *; rw [hP]; exact this, fun S w vs ha => ?_⟩
  have := h.2 S w vs ha
  rw [hP]
  exact this.mono fun e w' ⟨v, h1, ⟨h2, _⟩, h3⟩ => ⟨v, h1, ⟨h2, fun hd' => absurd (hd.symm.trans hd') (by simp)⟩, h3⟩
theorem ConT.env {E E' : Env} {f : FuncId} {avs xs : List AV} {ty sz : Nat} {res : AV} (hP : E'.P = E.P) (h : ConT E f avs ty sz xs res) : ConT E' f avs ty sz xs res := by
  refine ⟨by have := h.1; unfold Enters at *; rw [hP]; exact this, h.2.1, fun S w vs ha => ?_⟩
  rw [hP]
  exact h.2.2 S w vs ha

section
variable {α β : Type}
theorem CallX.oM {o : Option α} {k : α → Option β} {r : β} {E : Env} {f : FuncId} {avs : List AV} {K : AV → Prop} {R : Nat → Nat → List AV → AV → Prop} {find : Nat → Option Ent} {KR : AV → List Nat → List (Nat × Ent) → Prop} (h : bnd o k = some r)
    (ps ps' : List (Nat × Nat)) (cargs : List AV) (me : List (Nat × Ent)) (meF : α → List (Nat × Ent)) (resF : α → AV) (dead : List Nat) (hc : ∀ a, o = some a → ConG E.P E.yl (CalF E.P f 0) cargs [] me (resF a) (meF a)) (he : Enters E f) (hdr0 : E.dr = false) (hra : AV.renL (rho ps) cargs = avs) (hia : AV.inML (me.map (·.1)) cargs = true) (hle : LeF find (rho ps) (me.map (·.1)) me)
    (hn : ∀ a, NamesG find (rho ps) (rho ps') me (meF a) (resF a) dead) (kk : ∀ a, k a = some r → KR ((resF a).ren (rho ps')) (idsG (rho ps) (rho ps') me (meF a)) (wrG (rho ps') (meF a) dead)) : CallX E f avs K R find KR := by
  cases o with
  | none => unfold bnd at h; cases h
  | some a => exact .memo ps ps' cargs me (meF a) (resF a) dead he hdr0 (hc a rfl) hra hia hle (hn a) (kk a (by unfold bnd at h; exact h))
theorem CallC.oM {o : Option α} {k : α → Option β} {r : β} {E : Env} {f : FuncId} {avs raw : List AV} {K : AV → Prop} {dst : Option Nat} {find : Nat → Option Ent} {KR : AV → List Nat → List (Nat × Ent) → Prop} (h : bnd o k = some r)
    (ps ps' : List (Nat × Nat)) (cargs : List AV) (me : List (Nat × Ent)) (meF : α → List (Nat × Ent)) (resF : α → AV) (dead : List Nat) (hc : ∀ a, o = some a → ConG E.P E.yl (CalF E.P f 0) cargs [] me (resF a) (meF a)) (he : Enters E f) (hdr0 : E.dr = false) (hra : AV.renL (rho ps) cargs = raw) (hia : AV.inML (me.map (·.1)) cargs = true) (hle : LeF find (rho ps) (me.map (·.1)) me)
    (hn : ∀ a, NamesG find (rho ps) (rho ps') me (meF a) (resF a) dead) (kk : ∀ a, k a = some r → KR ((resF a).ren (rho ps')) (idsG (rho ps) (rho ps') me (meF a)) (wrG (rho ps') (meF a) dead)) : CallC E f avs K raw find dst KR := by
  cases o with
  | none => unfold bnd at h; cases h
  | some a => exact .memo ps ps' cargs me (meF a) (resF a) dead he hdr0 (hc a rfl) hra hia hle (hn a) (kk a (by unfold bnd at h; exact h))
theorem YldX.oM {o : Option α} {k : α → Option β} {r : β} {E : Env} {l : Nat} {T : Array Value} {raw cap : List AV} {find : Nat → Option Ent} {KR : AV → List Nat → List (Nat × Ent) → Prop} (h : bnd o k = some r)
    (ps ps' : List (Nat × Nat)) (cargs ccaps : List AV) (me : List (Nat × Ent)) (meF : α → List (Nat × Ent)) (resF : α → AV) (dead : List Nat) (hc : ∀ a, o = some a → ConG E.P E.yl (fun vs cs w R => cs = T → CalY E.P l vs cs w R) cargs ccaps me (resF a) (meF a)) (hdr0 : E.dr = false) (hra : AV.renL (rho ps) cargs = raw) (hrc : AV.renL (rho ps) ccaps = cap) (hia : AV.inML (me.map (·.1)) cargs = true) (hic : AV.inML (me.map (·.1)) ccaps = true) (hle : LeF find (rho ps) (me.map (·.1)) me)
    (hn : ∀ a, NamesG find (rho ps) (rho ps') me (meF a) (resF a) dead) (kk : ∀ a, k a = some r → KR ((resF a).ren (rho ps')) (idsG (rho ps) (rho ps') me (meF a)) (wrG (rho ps') (meF a) dead)) : YldX E l T raw cap find KR := by
  cases o with
  | none => unfold bnd at h; cases h
  | some a => exact .mk ps ps' cargs ccaps me (meF a) (resF a) dead hdr0 (hc a rfl) hra hrc hia hic hle (hn a) (kk a (by unfold bnd at h; exact h))
theorem RngX.oM {o : Option α} {k : α → Option β} {r : β} {E : Env} {nt gf : Nat} {cap : List AV} {ps : Array Tmp} {a b : Code} {σ : AS} {K : AS → Prop} (h : bnd o k = some r)
    (pp pp' : List (Nat × Nat)) (ycaps ccaps : List AV) (me : List (Nat × Ent)) (meF : α → List (Nat × Ent)) (dead : List Nat)
    (hiter : ∀ x, o = some x → ∀ (l D : Nat) (fn : FuncId) (T : Array Value), T.size = nt → ConG E.P (some (l, .loop (recR fn T ps a b D))) (CalF E.P gf 0) (.yld l T ycaps :: ccaps) [] me (.tup []) (meF x))
    (he : Enters E gf) (hrg : E.rg = true) (hdr0 : E.dr = false) (hyl0 : E.yl = none) (hrc : AV.renL (rho pp) ccaps = cap) (hic : AV.inML (me.map (·.1)) ccaps = true) (hy : LeY σ (rho pp) (me.map (·.1)) 0 ycaps) (hle : LeF σ.find (rho pp) (me.map (·.1)) me) (hn : ∀ x, NamesG σ.find (rho pp) (rho pp') me (meF x) (.tup []) dead)
    (kk : ∀ x, k x = some r → K (σ.upd none (.tup []) (wrG (rho pp') (meF x) dead))) : RngX E nt (.fn gf cap) ps a b σ K := by
  cases o with
  | none => unfold bnd at h; cases h
  | some x => exact .mk gf cap rfl he hrg hdr0 hyl0 pp pp' ycaps ccaps me (meF x) dead hrc hic hy hle (hn x) (hiter x rfl) (kk x (by unfold bnd at h; exact h))
theorem GX.o {x r : α} {E : Env} {nt : Nat} {fn : Func} {args : List AV} {me : List (Nat × Ent)} {σ : AS} {res : α → AV} {meF : α → List (Nat × Ent)} (h : some x = some r) (k : GX E nt fn args me σ (res x) (meF x)) : GX E nt fn args me σ (res r) (meF r) := by
  injection h with h; subst h; exact k
theorem BX.o {x r : α} {E : Env} {nt : Nat} {ycaps : List AV} {me : List (Nat × Ent)} {σ : AS} {meF : α → List (Nat × Ent)} (h : some x = some r) (k : BX E nt ycaps me σ (meF x)) : BX E nt ycaps me σ (meF r) := by
  injection h with h; subst h; exact k
end
end Go.Proofs.Ytcbdhigllelmcaa
namespace Go.Proofs.Ytcbdhigllelmcaa
open Go.RowKit

def byteAt (s : ByteArray) (m : Nat) : Option UInt8 := s.data[m]?
def strAV (s : ByteArray) : List AV := s.data.toList.map fun b => AV.int .u8 b.toNat
section
variable {P : Program}
theorem append_str_block (w : World) {base t u ty e : Nat} {i : TypeInfo} (ht : P.underlying t = some (.slice e)) (hu : P.underlying u = some .string) (hi : P.info? e = some i) (hz : i.zero = some (.int .u8 0)) (hsize : i.size = 1) (hby : i.bytes = 1)
    {v v' : Value} {w' : World} {n : Nat} {xs : List Value} (hown : w.ownsRow base e 1 v n xs) (s : ByteArray) (h63 : n + s.size ≤ maxLen) (hbytes : n + s.size ≤ 140737488355328) (hrun : (Builtin.append_ #[t, u] ty #[v, .string s]).run P w = .ok v' w') :
    v'.ownBlock = v.ownBlock ∨ v'.ownBlock = some w.heap.size := by
  have hsmall : n + s.size ≤ 9223372036854775807 := by simp only [maxLen] at h63; omega
  have hxl : xs.length = n := by simpa using hown.1
  rcases hown.2 with ⟨rfl, rfl⟩ | ⟨g, cap, cur, rfl, hbg, hg, hnc, hcm, hcs, htake⟩
  · by_cases hm : s.size = 0
    · left
      have hf := Lib.run_firstCells_string (P := P) w 1 s
      rw [hm] at hf
      simp [Builtin.append_, run_underlying ht, run_underlying hu, sizeOf, typeInfo, hi, hsize, Builtin.lenOf, hm, hf] at hrun
      rw [← hrun.1]
    · right
      have hr := run_append_nil_string (P := P) w t u ty e i (.int .u8 0) ht hu hi hz s (by omega) (by omega) (by rw [hby]; omega)
      rw [hr] at hrun
      injection hrun with h1 h2
      rw [← h1]; rfl
  · by_cases hroom : n + s.size ≤ cap
    · left
      have hcs' : cur.size = cap := by simpa using hcs
      have hr := Lib.run_append_room_string (P := P) w t u ty e i ht hu hi hsize g n cap cur hg s hroom (by omega)
      rw [hr] at hrun
      injection hrun with h1 h2
      rw [← h1]; rfl
    · right
      have holds : ∀ j u, xs[j]? = some u → w.cell? ((⟨g, 0, none⟩ : Addr).add j) = some u := hown.cells (g := g) rfl
      have hr := Lib.run_append_grow_string (P := P) w t u ty e i (.int .u8 0) ht hu hi hz ⟨g, 0, none⟩ n cap xs (by rw [hsize]; simpa using hxl) holds s (by omega) (by omega) (by rw [hby]; exact growslice_fits (by omega) (by omega))
      rw [hr] at hrun
      injection hrun with h1 h2
      rw [← h1]; rfl
end
section
variable {cx : Cx} {o : Oper} {σ : AS}
theorem und_str {P : Program} {T : Nat} {i : TyI} (h : TyOk P T i) (hs : i.shape = .str) : P.underlying T = some .string := by
  obtain ⟨dd, hdd, he'⟩ := h.und
  rw [hs] at he'
  cases dd <;> simp only [shapeOf, reduceCtorEq] at he'
  exact hdd
theorem r_index_str {T : Nat} {x y : Operand} {i : TyI} {s : ByteArray} {k : IntKind} {n : Int} {m : Nat} {b : UInt8} (ho : o.op = .index T x y) (hd : dok cx o = true) (hxo : opdOk x = true) (hyo : opdOk y = true) (hx : σ.eval x = .str s) (hy : σ.eval y = .int k n) (hT : lkT cx.E.tab T = some i)
    (hs : i.shape = .str) (hm : n = (m : Int)) (hb : byteAt s m = some b) : OpRule cx o σ (.int .u8 b.toNat) [] [] :=
  rule_val hd fun τ γ a w h1 h2 hst => by
    have hev := hst.ev x hxo
    rw [h1 x (by simp [ho, Op.operands]), hx] at hev
    have hevy := hst.ev y hyo
    rw [h1 y (by simp [ho, Op.operands]), hy] at hevy
    have hdu := und_str (cx.E.ok T i hT) hs
    obtain ⟨hlt, hbb⟩ := Array.getElem?_eq_some_iff.1 hb
    have hlt' : m < s.size := hlt
    have hq : s[m]? = some b := by
      rw [getElem?_pos s m hlt']
      exact congrArg some hbb
    subst hm
    refine ⟨.int .u8 b.toNat, ?_, .int _ _⟩
    simp [execOp, ho, hev.str_inv, hevy.int_inv, Instr.index, asIntOf, run_underlying hdu, hq, pure]
theorem r_buildSlice_row {T n d : Nat} {ps : Array (Nat × Operand)} {i ie : TyI} {e esz eb : Nat} {xs : List AV} (ho : o.op = .buildSlice T n ps) (hdst : o.dst = some d) (hd : dok cx o = true) (hT : lkT cx.E.tab T = some i) (hs : i.shape = .slc e esz eb) (he : lkT cx.E.tab e = some ie) (hz : esz ≠ 0) (hn : Nat.ble (n * esz) 16777216 = true)
    (hze : ie.zero.cells.all (·.oneCell') = true) (hz0 : Nat.blt 0 ie.zero.cells.size = true) (hok : partsOk σ ps = true) (hcl : AV.closedL xs = true) (hlen : xs.length = n) (hl : xs.all (fun x => Nat.beq x.cells.length esz) = true)
    (hf : fillA (fun j => some (j * esz, esz)) (List.replicate (n * esz) .any) (partsA σ ps) = some (xs.flatMap AV.cells)) (hnn : σ.find d = none) : OpRule cx o σ (.row d) (d :: partIds (partsA σ ps)) [(d, .row e esz xs)] := by
  refine ⟨fun id e he => ?_, fun τ h1 h2 a w Q K ⟨γ, hst⟩ hK => wp_in (fun c hc => by rw [ho] at hc; cases hc) ?_⟩
  · have := lkE_one he
    simp at this
    simp [this]
  have hrel := parts_rel hst hok (fun p hp => h1 p.2 (by simp only [ho, Op.operands, List.mem_toArray, List.mem_map]; exact ⟨p, hp, rfl⟩)) (fun id hid => h2 id (List.mem_cons_of_mem _ hid))
  have hcell : ∀ j, (ie.zero.cells[j % ie.zero.cells.size]!).oneCell' = true := mod_cell hze (by simpa using hz0)
  have h0rel : CRel w (Sg cx.S0 cx.w0.heap.size γ) γ ((Array.range (n * esz)).map (ie.zero.cells[· % ie.zero.cells.size]!)) (List.replicate (n * esz) .any) := by
    refine ⟨by simp, fun j hj => by simp only [List.getElem_replicate]; exact .any _, fun j hj => ?_⟩
    have hj' : j < n * esz := by simpa using hj
    have : ((Array.range (n * esz)).map (ie.zero.cells[· % ie.zero.cells.size]!)).getD j undef = ie.zero.cells[j % ie.zero.cells.size]! := by
      rw [Array.getD_eq_getD_getElem?, Array.getElem?_map, Array.getElem?_range, if_pos hj']; rfl
    rw [this]
    exact hcell j
  obtain ⟨cells', hfill, hc1, hc2, hc3⟩ := fill_rel (f := a.eval) (g := σ.eval) ps.toList _ _ _ hrel h0rel hf
  have hrun := run_buildSlice (parts := ps.map fun p => (p.1, a.eval p.2)) (cx.E.ok T i hT) hs (cx.E.ok e ie he) hz (Nat.le_of_ble_eq_true hn) (by rw [Array.toList_map]; exact hfill) w
  have hbl : Below w.heap.size w (w.alloc (.cells cells' e)) := (Below.refl _ _).alloc (Nat.le_refl _) _
  have hlen' : ∀ k (hk : k < xs.length), (xs[k]).cells.length = esz := fun k hk => by
    simp only [List.all_eq_true] at hl
    exact Nat.eq_of_beq_eq_true (hl _ (List.getElem_mem hk))
  obtain ⟨g1, g2⟩ := flat_at hlen'
  have hin : ∀ k j, k < xs.length → j < esz → k * esz + j < xs.length * esz := fun k j hk hj => by
    have : (k + 1) * esz ≤ xs.length * esz := Nat.mul_le_mul_right _ hk
    rw [Nat.succ_mul] at this
    omega
  have hcs : cells'.size = n * esz := by rw [hc1, g1, hlen]
  have hnb : n ≤ 16777216 := by
    have h := Nat.le_of_ble_eq_true hn
    have : n * 1 ≤ n * esz := Nat.mul_le_mul_left _ (by omega)
    omega
  unfold Oper.wp
  have hex : (execOp a.eval o).run cx.P w = .ok (.value (.slice (some ⟨w.heap.size, 0, none⟩) n n)) (w.alloc (.cells cells' e)) := by
    have e' : (ps.map fun x => match x with | (i, x) => (i, a.eval x)) = ps.map fun p => (p.1, a.eval p.2) := rfl
    simp only [execOp, ho, e', Sem.run_bind, Sem.run_pure, Result.andThen_ok, hrun]
  rw [hex]
  refine hK _ _ ?_
  rw [hdst]
  refine new_row (v := .slice (some ⟨w.heap.size, 0, none⟩) n n) (us := cells'.toList) hst (fun _ => Nat.le_refl _) (by rw [h2 d (by simp), hnn]) (fun x hx => by injection hx with hx; subst hx; exact dok_iff hd _ hdst) hbl
    ⟨by rw [Array.length_toList, hcs, hlen], Or.inr ⟨w.heap.size, n, cells', by rw [hlen], Nat.le_refl _, Blk.new w _ _, by omega, by unfold maxLen; omega, hcs, ?_⟩⟩ hlen' (fun k hk j hj => ?_) (fun u hu => ?_)
    (fun hS => .row (Gam.set_self _ _ _) (fun g s e => by injection e with e; injection e with _ e))
  · rw [List.take_of_length_le (by rw [Array.length_toList, hcs, hlen]; exact Nat.le_refl _)]
  · have hj' : j < esz := by rw [← hlen' k hk]; exact hj
    have hlt : k * esz + j < (xs.flatMap AV.cells).length := by rw [g1]; exact hin k j hk hj'
    have := hc2 (k * esz + j) hlt
    have hq := g2 k hk j hj
    rw [List.getElem?_eq_getElem hlt] at hq
    injection hq with hq
    rw [hq] at this
    have e2 : cells'.toList.getD (k * esz + j) undef = cells'.getD (k * esz + j) undef := by
      rw [List.getD_eq_getElem?_getD, Array.getD_eq_getD_getElem?, Array.getElem?_toList]
    rw [e2]
    refine (this.mono hbl.size (fun b hS hlt => ⟨hbl.block b hlt, Or.inl hS, fun e => ?_⟩)).close (cells_closed (AV.closedL_at hcl k hk) j hj)
    simp only [Value.ownBlock, Option.some.injEq] at e
    omega
  · obtain ⟨q, hq, rfl⟩ := List.mem_iff_getElem.1 hu
    have hq' : q < cells'.size := by simpa using hq
    have := hc3 q hq'
    rw [Array.getD_eq_getD_getElem?, Array.getElem?_eq_getElem hq'] at this
    simpa using this
theorem r_append_str {T T' d e eb : Nat} {x y : Operand} {i ie i' : TyI} {xs : List AV} {s : ByteArray} {oid : Option Nat} (ho : o.op = .call { callee := .builtin .append, args := #[x, y], argTypes := #[T, T'] }) (hdst : o.dst = some d) (hd : dok cx o = true) (hxo : opdOk x = true) (hyo : opdOk y = true)
    (hT : lkT cx.E.tab T = some i) (hs : i.shape = .slc e 1 eb) (hT' : lkT cx.E.tab T' = some i') (hs' : i'.shape = .str) (he : lkT cx.E.tab e = some ie) (hsz : ie.sz = 1) (hby1 : ie.bytes = 1) (hze : ie.zero = .int .u8 0)
    (hx : (σ.eval x = .nils ∧ oid = none ∧ xs = []) ∨ ∃ id, σ.eval x = .row id ∧ oid = some id ∧ id ≠ d ∧ σ.find id = some (.row e 1 xs)) (hy : σ.eval y = .str s) (hn : σ.find d = none)
    (h63 : xs.length + s.size ≤ 1099511627776)
    (hdr0 : cx.E.dr = false) : OpRule cx o σ (.row d) (d :: oid.toList) ((d, .row e 1 (xs ++ strAV s)) :: deadOf oid) := by
  have hz : (1 : Nat) ≠ 0 := by omega
  have hdead : ∀ id, lkE (deadOf oid) id = if oid = some id then some .dead else none := fun id => by
    cases oid with
    | none => simp [deadOf, lkE]
    | some j =>
      simp only [deadOf, lkE, Option.some.injEq]
      by_cases h : j = id
      · subst h; simp
      · rw [if_neg h]
        cases hb : Nat.beq j id with
        | true => exact absurd (Nat.eq_of_beq_eq_true hb) h
        | false => rfl
  have hwr : ∀ id, lkE ((d, Ent.row e 1 (xs ++ strAV s)) :: deadOf oid) id = if d = id then some (.row e 1 (xs ++ strAV s)) else if oid = some id then some .dead else none := fun id => by
    simp only [lkE]
    by_cases h : d = id
    · subst h; simp
    · rw [if_neg h, ← hdead]
      cases hb : Nat.beq d id with
      | true => exact absurd (Nat.eq_of_beq_eq_true hb) h
      | false => rfl
  refine ⟨fun id e' he' => ?_, fun τ h1 h2 a w Q K ⟨γ, hst⟩ hK => wp_in (fun c hc => by rw [ho] at hc; cases hc) ?_⟩
  · rw [hwr] at he'
    by_cases h : d = id
    · simp [h]
    · rw [if_neg h] at he'
      by_cases h' : oid = some id
      · simp [h']
      · rw [if_neg h'] at he'; cases he'
  have hevx := hst.ev x hxo
  rw [h1 x (by simp [ho, Op.operands, Call.operands])] at hevx
  have hevy := hst.ev y hyo
  rw [h1 y (by simp [ho, Op.operands, Call.operands])] at hevy
  obtain ⟨hu, hce, _⟩ := und_slc (cx.E.ok T i hT) hs
  have hγd : γ d = none := by have := hst.me d; rw [h2 d (by simp), hn] at this; exact this
  have hsize := hst.below.size
  -- the row that is appended to
  have hX : ∃ vs : List Value, w.ownsRow cx.w0.heap.size e 1 (a.eval x) xs.length vs ∧ (∀ k (hk : k < xs.length), (xs[k]).cells.length = 1) ∧ (∀ k (hk : k < xs.length) j (hj : j < (xs[k]).cells.length), Rep w (Sg cx.S0 cx.w0.heap.size γ) G0 ((xs[k]).cells[j]) (vs.getD (k * 1 + j) undef)) ∧ (∀ u ∈ vs, u.oneCell' = true) ∧
      (∀ g, (a.eval x).ownBlock = some g → ∃ id s, oid = some id ∧ γ id = some (some (some g, s))) := by
    rcases hx with ⟨hx, rfl, rfl⟩ | ⟨id, hx, rfl, hne, hl⟩
    · rw [hx] at hevx
      rw [hevx.nils_inv]
      exact ⟨[], World.ownsRow_nil w _ _ _, fun k hk => absurd hk (by simp), fun k hk => absurd hk (by simp), fun u hu => absurd hu (by simp), fun g hg => by simp [Value.ownBlock] at hg⟩
    · rw [hx] at hevx
      have hme := hst.me id
      rw [h2 id (by simp), hl] at hme
      obtain ⟨dd, hd', s, vs, hde, _, hown, hlen, hr, hone⟩ := hme
      subst hde
      have ex := hevx.row_inv hd'
      rw [ex]
      exact ⟨vs, hown, hlen, hr, hone, fun g hg => ⟨id, s, rfl, by rw [hd', hg]⟩⟩
  obtain ⟨vs, hown, hlenx, hrx, honex, hblock⟩ := hX
  obtain ⟨news, hnews⟩ : ∃ news, Lib.strCells s = news := ⟨_, rfl⟩
  have hul : (strAV s).length = s.size := by simp only [strAV, List.length_map, Array.length_toList]; rfl
  have hnl : news.length = (strAV s).length * 1 := by rw [← hnews, Lib.strCells_length, hul, Nat.mul_one]
  have hone2 : ∀ u ∈ news, u.oneCell' = true := by rw [← hnews]; exact Lib.strCells_oneCell s
  have hleny : ∀ k (hk : k < (strAV s).length), ((strAV s)[k]).cells.length = 1 := fun k hk => by simp [strAV, AV.cells]
  have hry : ∀ k (hk : k < (strAV s).length) j (hj : j < ((strAV s)[k]).cells.length), Rep w (Sg cx.S0 cx.w0.heap.size γ) G0 (((strAV s)[k]).cells[j]) (news.getD (k * 1 + j) undef) := fun k hk j hj => by
    have hj' : j < 1 := by rw [← hleny k hk]; exact hj
    have hj0 : j = 0 := by omega
    subst hj0
    have hk' : k < s.data.toList.length := by simpa [strAV] using hk
    have e1 : news.getD (k * 1 + 0) undef = .int .u8 (s.data.toList[k]).toNat := by
      rw [← hnews, Nat.mul_one, Nat.add_zero, List.getD_eq_getElem?_getD]
      simp only [Lib.strCells, List.getElem?_map, List.getElem?_eq_getElem hk', Option.map_some, Option.getD_some]
    have e2 : ((strAV s)[k]).cells[0]'hj = .int .u8 (s.data.toList[k]).toNat := by simp [strAV, AV.cells]
    rw [e1, e2]
    exact .int _ _
  have hu' := und_str (cx.E.ok T' i' hT') hs'
  obtain ⟨info, hi, hi1, hi2, hi3⟩ := (cx.E.ok e ie he).both
  rw [hy] at hevy
  obtain ⟨v', w', hrun, q1, q2, q30⟩ := Lib.run_append_own_string (P := cx.P) w cx.w0.heap.size T T' o.type e info hu hu' hi (by rw [hi3, hze]) (hi1.trans hsz) (hi2.trans hby1) (a.eval x) xs.length vs hown s (by simp only [maxLen]; omega) (by omega) hsize
  rw [hnews, ← hul] at q1
  have q3 : v'.ownBlock = (a.eval x).ownBlock ∨ v'.ownBlock = some w.heap.size := append_str_block w hu hu' hi (by rw [hi3, hze]) (hi1.trans hsz) (hi2.trans hby1) hown s (by simp only [maxLen]; omega) (by omega) hrun
  have hex : (execOp a.eval o).run cx.P w = .ok (.value v') w' := by
    simp only [execOp, ho, resolve, invoke, builtin, Sem.run_bind, Sem.run_pure, Result.andThen_ok, List.map_toArray, List.map_cons, List.map_nil, hevy.str_inv, hrun]
  unfold Oper.wp
  rw [hex]
  have hv1 : v'.oneCell' = true := slice_one q1
  let γ' : Gam := fun id => if d = id then some (some (v'.ownBlock, v')) else if oid = some id then some none else γ id
  have hγ'd : γ' d = some (some (v'.ownBlock, v')) := if_pos rfl
  have hγ'o : ∀ id, d ≠ id → oid ≠ some id → γ' id = γ id := fun id h1 h2 => by show (if d = id then _ else if oid = some id then _ else γ id) = γ id; rw [if_neg h1, if_neg h2]
  have hγ'x : ∀ id, d ≠ id → oid = some id → γ' id = some none := fun id h1 h2 => by show (if d = id then _ else if oid = some id then _ else γ id) = some none; rw [if_neg h1, if_pos h2]
  have hown' : ∀ b, own γ' b → v'.ownBlock = some b ∨ own γ b := fun b ⟨id, s, hi⟩ => by
    by_cases h : d = id
    · subst h; rw [hγ'd] at hi; injection hi with hi; injection hi with hi; injection hi with hi _; exact Or.inl hi
    · by_cases h' : oid = some id
      · rw [hγ'x id h h'] at hi; cases hi
      · rw [hγ'o id h h'] at hi; exact Or.inr ⟨id, s, hi⟩
  have hvb : ∀ b, v'.ownBlock = some b → (own γ b ∧ (a.eval x).ownBlock = some b) ∨ b = w.heap.size := fun b hb => by
    rcases q3 with q3 | q3
    · rw [q3] at hb
      obtain ⟨id, s, _, hi⟩ := hblock b hb
      exact Or.inl ⟨⟨id, s, hi⟩, hb⟩
    · rw [q3] at hb; injection hb with hb; exact Or.inr hb.symm
  have hk : ∀ b, Sg cx.S0 cx.w0.heap.size γ b → b < w.heap.size → w'.heap[b]? = w.heap[b]? ∧ Sg cx.S0 cx.w0.heap.size γ' b := fun b hS hlt => by
    have hno : ¬ own γ b := by
      rcases hS with ⟨_, h⟩ | ⟨_, h⟩
      · intro hb; have := (hst.ge b hb).1.1; omega
      · exact h
    refine ⟨q2.block b hlt (fun e => ?_), ?_⟩
    · obtain ⟨id, s, _, hi⟩ := hblock b e.symm
      exact hno ⟨id, s, hi⟩
    · rcases hS with hS | ⟨hB, _⟩
      · exact Or.inl hS
      · refine Or.inr ⟨hB, fun ho' => ?_⟩
        rcases hown' b ho' with h | h
        · rcases hvb b h with ⟨h, _⟩ | h
          · exact hno h
          · omega
        · exact hno h
  have hmv : ∀ {av v}, Rep w (Sg cx.S0 cx.w0.heap.size γ) G0 av v → Rep w' (Sg cx.S0 cx.w0.heap.size γ') G0 av v := fun h => h.mono q2.size hk
  refine hK _ _ ⟨γ', ?_⟩
  rw [hdst]
  refine hst.step (γ' := γ') (fun x hx => by injection hx with hx; subst hx; exact dok_iff hd _ hdst) q2.size hk (fun id x hid => ?_) (fun id hid => ?_) (fun id e' hid => ?_) (fun id id' b s s' hi hi' => ?_) (fun b hb => ?_) ?_ (.row hγ'd (fun g s e => by injection e with e; injection e with e e2)) (fun b hno hlt => ⟨q2.block b hlt (fun e => by obtain ⟨id, s, _, hi⟩ := hblock b e.symm; exact hno ⟨id, s, hi⟩), fun ho' => by
    rcases hown' b ho' with h | h
    · rcases hvb b h with ⟨h, _⟩ | h
      · exact hno h
      · omega
    · exact hno h⟩) (fun h => absurd (hdr0.symm.trans h) (by simp))
  · by_cases h : d = id
    · subst h; rw [hγd] at hid; cases hid
    · by_cases h' : oid = some id
      · exact Or.inr (hγ'x id h h')
      · exact Or.inl (by rw [hγ'o id h h']; exact hid)
  · rw [hwr] at hid
    by_cases h : d = id
    · rw [if_pos h] at hid; cases hid
    · rw [if_neg h] at hid
      by_cases h' : oid = some id
      · rw [if_pos h'] at hid; cases hid
      · refine ⟨hγ'o id h h', fun g s hg => q2.block g (hst.ge g ⟨id, s, hg⟩).2 (fun e => ?_)⟩
        obtain ⟨id0, s0, h0, hi0⟩ := hblock g e.symm
        have := hst.inj _ _ _ _ _ hg hi0
        subst this
        exact h' h0
  · rw [hwr] at hid
    by_cases h : d = id
    · subst h
      rw [if_pos rfl] at hid
      injection hid with hid
      subst hid
      refine ⟨_, hγ'd, v', vs ++ news, rfl, hv1, by rw [List.length_append]; exact q1, fun k hk => ?_, fun k hk j hj => ?_, fun u hu => (List.mem_append.1 hu).elim (honex u) (hone2 u)⟩
      · rw [List.getElem_append]
        split
        · exact hlenx k _
        · exact hleny _ _
      · rw [List.length_append] at hk
        have hvl : vs.length = xs.length * 1 := hown.1
        by_cases hkx : k < xs.length
        · simp only [List.getElem_append_left hkx] at hj ⊢
          have hj' : j < 1 := by rw [← hlenx k hkx]; exact hj
          have hlt : k * 1 + j < vs.length := by
            have : (k + 1) * 1 ≤ xs.length * 1 := Nat.mul_le_mul_right _ hkx
            rw [Nat.succ_mul] at this
            omega
          rw [List.getD_eq_getElem?_getD, List.getElem?_append_left hlt, ← List.getD_eq_getElem?_getD]
          exact hmv (hrx k hkx j hj)
        · have hkx' : xs.length ≤ k := by omega
          simp only [List.getElem_append_right hkx'] at hj ⊢
          have hlt : vs.length ≤ k * 1 + j := by
            have : xs.length * 1 ≤ k * 1 := Nat.mul_le_mul_right _ hkx'
            omega
          rw [List.getD_eq_getElem?_getD, List.getElem?_append_right hlt, ← List.getD_eq_getElem?_getD]
          rw [show k * 1 + j - vs.length = (k - xs.length) * 1 + j by
            rw [hvl, Nat.sub_mul]
            have : xs.length * 1 ≤ k * 1 := Nat.mul_le_mul_right _ hkx'
            omega]
          exact hmv (hry (k - xs.length) (by omega) j hj)
    · rw [if_neg h] at hid
      by_cases h' : oid = some id
      · rw [if_pos h'] at hid
        injection hid with hid
        subst hid
        exact ⟨none, hγ'x id h h', rfl⟩
      · rw [if_neg h'] at hid; cases hid
  · have key : ∀ id id' b s s', d = id → d ≠ id' → γ' id = some (some (some b, s)) → γ' id' = some (some (some b, s')) → False := fun id id' b s s' h h' hi hi' => by
      subst h
      rw [hγ'd] at hi
      injection hi with hi; injection hi with hi; injection hi with hi _
      by_cases ho' : oid = some id'
      · rw [hγ'x id' h' ho'] at hi'; cases hi'
      · rw [hγ'o id' h' ho'] at hi'
        rcases hvb b hi with ⟨_, hb⟩ | hb
        · obtain ⟨id0, s0, h0, hi0⟩ := hblock b hb
          have := hst.inj _ _ _ _ _ hi' hi0
          subst this
          exact ho' h0
        · have := (hst.ge b ⟨id', s', hi'⟩).2
          omega
    by_cases h : d = id
    · by_cases h' : d = id'
      · rw [← h, ← h']
      · exact (key id id' b s s' h h' hi hi').elim
    · by_cases h' : d = id'
      · exact (key id' id b s' s h' h hi' hi).elim
      · by_cases ho1 : oid = some id
        · rw [hγ'x id h ho1] at hi; cases hi
        · by_cases ho2 : oid = some id'
          · rw [hγ'x id' h' ho2] at hi'; cases hi'
          · rw [hγ'o id h ho1] at hi
            rw [hγ'o id' h' ho2] at hi'
            exact hst.inj _ _ _ _ _ hi hi'
  · rcases hown' b hb with h | h
    · rcases hvb b h with ⟨h, _⟩ | h'
      · exact ⟨(hst.ge b h).1, Nat.lt_of_lt_of_le (hst.ge b h).2 q2.size⟩
      · refine ⟨⟨by omega, fun h0 => by have := hst.gh _ h0; omega⟩, ?_⟩
        rcases q1.2 with ⟨hv, _⟩ | ⟨g, cap, cur, hv, _, hh, _⟩
        · rw [hv] at h; simp [Value.ownBlock] at h
        · rw [hv] at h; simp only [Value.ownBlock, Option.some.injEq] at h; subst h
          exact (Array.getElem?_eq_some_iff.1 hh).1
    · exact ⟨(hst.ge b h).1, Nat.lt_of_lt_of_le (hst.ge b h).2 q2.size⟩
  · refine hst.below.trans ⟨q2.os, q2.tape, q2.output, q2.size, fun k hk => q2.block k (by omega) (fun e => ?_)⟩
    obtain ⟨id, s, _, hi⟩ := hblock k e.symm
    have := (hst.ge k ⟨id, s, hi⟩).1.1
    omega
end
end Go.Proofs.Ytcbdhigllelmcaa
