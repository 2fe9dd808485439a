/- What a walked function computes, as a term over plain values: the forms of such terms, and how the walk's stops follow them. The abstract walk: strings (their bytes, appended to a row of bytes), and literals that are own rows. The abstract walk: parts of the call's own rows (s[lo:]), and clear. The abstract walk: maps that hold rows of the call's own (m[k] = append(m[k], ..)). The abstract walk: a container is given up: what it holds is from here on like any other. Forms of terms: parts of own rows, clear, maps that hold own rows. -/
import Derived.Test.YtjpknpjjcddnnaaGreatK08
import Derived.Lib.AppendStr
import Derived.Test.YtjpknpjjcddnnaaGreatK06
import GoSem.Instr.MapEntry
set_option linter.unusedVariables false
set_option linter.unusedSimpArgs false
namespace Go.Proofs.YtjpknpjjcddnnaaGreat
open Go.RowKit
section
variable {α β γ δ : Type}
def cnd (b : Bool) (x y : Option β) : Option β := match b with | true => x | false => y
def idx (l : List α) (n : Int) (k : α → Option β) : Option β := if 0 ≤ n then (match l[n.toNat]? with | some x => k x | none => none) else none
def nat (n : Int) (len : Nat) (k : Nat → Option β) : Option β := if 0 ≤ n ∧ n.toNat < len then k n.toNat else none
def ltx (m len : Nat) (x : Option β) : Option β := if m < len then x else none
def elt (l : List α) (m : Nat) (k : α → Option β) : Option β := match l[m]? with | some x => k x | none => none
def slc (len : Nat) (lo hi : Int) (k : Nat → Nat → Option β) : Option β := if 0 ≤ lo ∧ lo ≤ hi ∧ hi ≤ (len : Int) then k lo.toNat hi.toNat else none
def sls (l : List α) (lo hi : Int) (k : List α → Option β) : Option β := if 0 ≤ lo ∧ lo ≤ hi ∧ hi ≤ (l.length : Int) then k ((l.take hi.toNat).drop lo.toNat) else none
def app (l m : List α) (bytes : Nat) (k : List α → Option β) : Option β := if l.length + m.length ≤ 1099511627776 ∧ (l.length + m.length) * bytes ≤ 140737488355328 then k (l ++ m) else none
def mak (n : Int) (bytes : Nat) (z : α) (k : List α → Option β) : Option β := if 0 ≤ n ∧ n.toNat ≤ 1099511627776 ∧ bytes * n.toNat ≤ 281474976710656 then k (List.replicate n.toNat z) else none
def stx (l : List α) (m : Nat) (f : α → α) (k : List α → Option β) : Option β := match l[m]? with | some x => k (l.set m (f x)) | none => none
def mlk {κ ν : Type} [DecidableEq κ] : List (κ × ν) → κ → Option ν
 | [], _ => none
 | (a, v) :: r, k => if k = a then some v else mlk r k
def mput {κ ν : Type} [DecidableEq κ] : List (κ × ν) → κ → ν → List (κ × ν)
 | [], k, v => [(k, v)]
 | (a, x) :: r, k, v => if k = a then (k, v) :: r else (a, x) :: mput r k v
def mgt {κ ν : Type} [DecidableEq κ] (l : List (κ × ν)) (k : κ) (z : ν) (c : ν → Bool → Option β) : Option β := c ((mlk l k).getD z) (mlk l k).isSome
def mst {κ ν : Type} [DecidableEq κ] (l : List (κ × ν)) (k : κ) (v : ν) (c : List (κ × ν) → Option β) : Option β := c (mput l k v)
def nzx (b : Int) (x : Option β) : Option β := if b = 0 then none else x
def psx (b : Int) (x : Option β) : Option β := if 0 < b then x else none
def shx (b : Int) (x : Option β) : Option β := if 0 ≤ b then x else none
def bnd (o : Option α) (k : α → Option β) : Option β := match o with | some a => k a | none => none
def bndC (o : Option α) (k : α → Option β) : Option β := match o with | some a => k a | none => none
def bndR (o : Option α) (k : α → Option β) : Option β := match o with | some a => k a | none => none
def frz (id : Nat) (x : Option β) : Option β := x
def reg (x : Option β) : Option β := x
theorem z0b.o {b : Bool} {p q : Prop} {x y : Option β} {r : β} (h : cnd b x y = some r) (h1 : x = some r → p) (h2 : y = some r → q) : z0b b p q := ⟨fun e => h1 (by subst e; exact h), fun e => h2 (by subst e; exact h)⟩
theorem IdxX.o {l : List α} (enc : α → AV) {n : Int} {K : AV → Prop} {k : α → Option β} {r : β} (h : idx l n k = some r) (hk : ∀ x, k x = some r → K (enc x)) : IdxX (l.map enc) n K := by
 unfold idx at h
 split at h
 ·rename_i hn
  split at h
  ·rename_i x hx
   exact .mk n.toNat (enc x) (by omega) (by rw [List.getElem?_map, hx]; rfl) (hk x h)
  ·cases h
 ·cases h
theorem bytes_dec (a b : ByteArray) : (a.toList == b.toList) = decide (a = b) := by
 rw [← bytes_eqb, Bool.eq_iff_iff, MapKept.bytes_beq]; simp
theorem NatX.o {n : Int} {len : Nat} {K : Nat → Prop} {k : Nat → Option β} {r : β} (h : nat n len k = some r) (hk : ∀ m, k m = some r → K m) : NatX n len K := by
 unfold nat at h
 split at h
 ·rename_i hn
  exact .mk n.toNat (by omega) hn.2 (hk _ h)
 ·cases h
theorem LtX.o {m len : Nat} {K : Prop} {x : Option β} {r : β} (h : ltx m len x = some r) (hk : x = some r → K) : LtX m len K := by
 unfold ltx at h
 split at h
 ·rename_i hm; exact .mk hm (hk h)
 ·cases h
theorem EltX.o {l : List α} (enc : α → AV) {m : Nat} {K : AV → Prop} {k : α → Option β} {r : β} (h : elt l m k = some r) (hk : ∀ x, k x = some r → K (enc x)) : EltX (l.map enc) m K := by
 unfold elt at h
 split at h
 ·rename_i x hx; exact .mk (enc x) (by rw [List.getElem?_map, hx]; rfl) (hk x h)
 ·cases h
theorem SlcX.o {len : Nat} {lo hi : Int} {K : Nat → Nat → Prop} {k : Nat → Nat → Option β} {r : β} (h : slc len lo hi k = some r) (hk : ∀ l h, k l h = some r → K l h) : SlcX len lo hi K := by
 unfold slc at h
 split at h
 ·rename_i hn; exact .mk lo.toNat hi.toNat (by omega) (by omega) (by omega) (by omega) (hk _ _ h)
 ·cases h
theorem SlsX.o {l : List α} (enc : α → AV) {lo hi : Int} {K : List AV → Prop} {k : List α → Option β} {r : β} (h : sls l lo hi k = some r) (hk : ∀ l', k l' = some r → K (l'.map enc)) : SlsX (l.map enc) lo hi K := by
 unfold sls at h
 split at h
 ·rename_i hn; exact .mk lo.toNat hi.toNat (by omega) (by omega) (by omega) (by rw [List.length_map]; omega) _ (by rw [List.map_drop, List.map_take]) (hk _ h)
 ·cases h
theorem AppX.o {l m : List α} (enc : α → AV) {ys : List AV} {bytes : Nat} {K : List AV → Prop} {k : List α → Option β} {r : β} (h : app l m bytes k = some r) (hs : SubR ys (m.map enc)) (hk : ∀ l', k l' = some r → K (l'.map enc)) : AppX ((l.map enc).length + ys.length) bytes (l.map enc ++ ys) K := by
 have hl := hs.len
 unfold app at h
 split at h
 ·rename_i hn
  exact .sub ((l ++ m).map enc) (by rw [List.map_append]; exact .append (.refl _) hs) (by rw [List.length_map, hl, List.length_map]; exact hn.1) (by rw [List.length_map, hl, List.length_map]; exact hn.2) (hk _ h)
 ·cases h
theorem AppX.o0 {m : List α} (enc : α → AV) {ys : List AV} {bytes : Nat} {K : List AV → Prop} {k : List α → Option β} {r : β} (h : app [] m bytes k = some r) (hs : SubR ys (m.map enc)) (hk : ∀ l', k l' = some r → K (l'.map enc)) : AppX ys.length bytes ys K := by
 have hl := hs.len
 unfold app at h
 split at h
 ·rename_i hn; exact .sub (m.map enc) hs (by rw [hl, List.length_map]; simpa using hn.1) (by rw [hl, List.length_map]; simpa using hn.2) (hk _ h)
 ·cases h
theorem MakX.o {z : α} (enc : α → AV) {n : Int} {bytes : Nat} {y : AV} {K : List AV → Prop} {k : List α → Option β} {r : β} (h : mak n bytes z k = some r) (hs : SubL y.cells (enc z).cells) (hk : ∀ l', k l' = some r → K (l'.map enc)) : MakX n bytes y K := by
 unfold mak at h
 split at h
 ·rename_i hn; exact .mk n.toNat (by omega) hn.2.1 hn.2.2 _ (by rw [List.map_replicate]; exact .replicate hs _) (hk _ h)
 ·cases h
theorem SetX.o {l : List α} (enc : α → AV) {f : α → α} {m j n : Nat} {av : AV} {ok : AV → Bool} {put : AV → AV} {K : List AV → Prop} {k : List α → Option β} {r : β} (h : stx l m f k = some r) (hok : ∀ x, ok (enc x) = true) (hput : ∀ x, SubL (put (enc x)).cells (enc (f x)).cells) (hk : ∀ l', k l' = some r → K (l'.map enc)) : SetX (l.map enc) m j n av ok put K := by
 unfold stx at h
 split at h
 ·rename_i x hx; exact .mk (enc x) (by rw [List.getElem?_map, hx]; rfl) (hok x) _ (by rw [List.map_set]; exact .set (hput x) _ _) (hk _ h)
 ·cases h
theorem ShX.o {b : Int} {K : Prop} {x : Option β} {r : β} (h : shx b x = some r) (hk : x = some r → K) : ShX b K := by
 unfold shx at h
 split at h
 ·rename_i hb; exact .mk hb (hk h)
 ·cases h
def encM {κ ν : Type} (encK : κ → AV) (encV : ν → AV) (p : κ × ν) : AV × AV := (encK p.1, encV p.2)
theorem findK_enc {κ ν : Type} [DecidableEq κ] (encK : κ → AV) (encV : ν → AV) (he : ∀ a b, eqK (encK a) (encK b) = some (decide (a = b))) (k : κ) : ∀ (l : List (κ × ν)) (i : Nat),
  ∃ r, zci (encK k) ((l.map (encM encK encV)).map (·.1)) i = some r ∧ r.isSome = (mlk l k).isSome ∧ (∀ j, r = some j → i ≤ j ∧ ∃ v, mlk l k = some v ∧ ((l.map (encM encK encV)).getD (j - i) default).2 = encV v) ∧
   ∀ (v : ν) (x : AV), Sub x (encV v) → SubM (putK (r.map (· - i)) (encK k) x (l.map (encM encK encV))) ((mput l k v).map (encM encK encV))
 | [], i => ⟨none, rfl, rfl, fun j h => (by cases h), fun v x hs => .cons _ hs .nil⟩
 | (a, v) :: r, i => by
   simp only [List.map_cons, encM, zci, he, mlk, mput]
   by_cases hk : k = a
   ·subst hk
    simp only [decide_true]
    refine ⟨some i, rfl, by simp, fun j hj => ?_, fun v' x hs => ?_⟩
    ·injection hj with hj; subst hj; exact ⟨Nat.le_refl _, v, by simp, by simp⟩
    ·simp only [if_true, Option.map_some, Nat.sub_self, putK, List.set_cons_zero, List.map_cons]
     exact .cons _ hs (.refl _)
   ·rw [decide_eq_false hk]
    obtain ⟨q, h1, h2, h3, h4⟩ := findK_enc encK encV he k r (i + 1)
    refine ⟨q, h1, by rw [h2, if_neg hk], fun j hj => ?_, fun v' x hs => ?_⟩
    ·obtain ⟨g1, v', g2, g3⟩ := h3 j hj
     refine ⟨by omega, v', by rw [if_neg hk]; exact g2, ?_⟩
     rw [show j - i = (j - (i + 1)) + 1 by omega, List.getD_cons_succ]
     exact g3
    ·have := h4 v' x hs
     rw [if_neg hk]
     cases q with
     | none => exact .cons _ (.refl _) this
     | some j =>
       obtain ⟨g1, _⟩ := h3 j rfl
       simp only [Option.map_some, putK] at this ⊢
       rw [show j - i = (j - (i + 1)) + 1 by omega, List.set_cons_succ]
       exact .cons _ (.refl _) this
theorem LkX.o {κ ν : Type} [DecidableEq κ] {l : List (κ × ν)} {k : κ} {z : ν} {P : Program} {kt : Nat} {zA : AV} {K : AV → Bool → Prop} {c : ν → Bool → Option β} {r : β} (encK : κ → AV) (encV : ν → AV) (h : mgt l k z c = some r) (hk : z9u P kt (encK k) = true) (he : ∀ a b, eqK (encK a) (encK b) = some (decide (a = b))) (hz : Sub zA (encV z))
  (hc : ∀ v b, c v b = some r → K (encV v) b) : LkX P kt (encK k) (l.map (encM encK encV)) zA K := by
 obtain ⟨q, h1, h2, h3, _⟩ := findK_enc encK encV he k l 0
 refine .mk q (encV ((mlk l k).getD z)) (mlk l k).isSome hk h1 h2 ?_ (hc _ _ h)
 cases q with
 | none =>
   have : mlk l k = none := by cases hm : mlk l k with
    | none => rfl
    | some v => rw [hm] at h2; cases h2
   rw [this]
   exact hz
 | some j =>
   obtain ⟨_, v, g2, g3⟩ := h3 j rfl
   rw [g2, Option.getD_some, ← g3]
   exact .refl _
theorem UpX.o {κ ν : Type} [DecidableEq κ] {l : List (κ × ν)} {k : κ} {v : ν} {P : Program} {kt : Nat} {x : AV} {K : List (AV × AV) → Prop} {c : List (κ × ν) → Option β} {r : β} (encK : κ → AV) (encV : ν → AV) (h : mst l k v c = some r) (hk : z9u P kt (encK k) = true) (he : ∀ a b, eqK (encK a) (encK b) = some (decide (a = b))) (hx : Sub x (encV v))
  (hc : ∀ l', c l' = some r → K (l'.map (encM encK encV))) : UpX P kt (encK k) x (l.map (encM encK encV)) K := by
 obtain ⟨q, h1, _, _, h4⟩ := findK_enc encK encV he k l 0
 refine .mk q _ hk h1 ?_ (hc _ h)
 have := h4 v x hx
 cases q with
 | none => exact this
 | some j => exact this
theorem PosX.o {b : Int} {K : Prop} {x : Option β} {r : β} (h : psx b x = some r) (hk : x = some r → K) : PosX b K := by
 unfold psx at h
 split at h
 ·rename_i hb; exact .mk hb (hk h)
 ·cases h
theorem NzX.o {b : Int} {K : Prop} {x : Option β} {r : β} (h : nzx b x = some r) (hk : x = some r → K) : NzX b K := by
 unfold nzx at h
 split at h
 ·cases h
 ·rename_i hb; exact .mk hb (hk h)
section
variable {E : Env} {nt : Nat} {f : FuncId} {avs : List AV}
theorem z0p.o {o : Option α} {k : α → Option β} {r : β} {fr : Bool} {K : AV → Prop} {R : Nat → Nat → List AV → AV → Prop} {find : Nat → Option Ent} {KR : AV → List Nat → List (Nat × Ent) → Prop} (h : bnd o k = some r) (enc : α → AV) (hc : ∀ a, o = some a → Con E fr f avs (enc a)) (hk : ∀ a, k a = some r → K (enc a)) : z0p E f avs K R find KR := by
 unfold bnd at h
 split at h
 ·exact .mk fr _ (hc _ rfl) (hk _ h)
 ·cases h
theorem z0p.oR {o : Option α} {k : α → Option β} {r : β} {K : AV → Prop} {R : Nat → Nat → List AV → AV → Prop} {find : Nat → Option Ent} {KR : AV → List Nat → List (Nat × Ent) → Prop} {ty sz : Nat} (h : bndR o k = some r) (rl : α → List γ) (encE : γ → AV) (res : α → AV) (hdr0 : E.dr = false) (hc : ∀ a, o = some a → ConT E f avs ty sz ((rl a).map encE) (res a)) (hk : ∀ a, k a = some r → R ty sz ((rl a).map encE) (res a)) : z0p E f avs K R find KR := by
 unfold bndR at h
 split at h
 ·exact .rowT ty sz _ _ hdr0 (hc _ rfl) (hk _ h)
 ·cases h
theorem z9v.o {o : Option α} {k : α → Option β} {r : β} {fr : Bool} {K : AV → Prop} {raw : List AV} {find : Nat → Option Ent} {dst : Option Nat} {KR : AV → List Nat → List (Nat × Ent) → Prop} (h : bnd o k = some r) (enc : α → AV) (hc : ∀ a, o = some a → Con E fr f avs (enc a)) (hf : ∀ a, fr = true ∨ (enc a).flat = true) (hk : ∀ a, k a = some r → K (enc a)) : z9v E f avs K raw find dst KR := by
 unfold bnd at h
 split at h
 ·exact .mk fr _ (hc _ rfl) (hf _) (hk _ h)
 ·cases h
theorem z9v.oC {o : Option α} {k : α → Option β} {r : β} {K : AV → Prop} {raw : List AV} {find : Nat → Option Ent} {dst : Option Nat} {KR : AV → List Nat → List (Nat × Ent) → Prop} {d ty sz ty' sz' : Nat} {xs cargs : List AV} (h : bndC o k = some r) (id : Nat) (rl : α → List γ) (encE : γ → AV) (res : α → AV) (hdr0 : E.dr = false) (hc : ∀ a, o = some a → ConC false E f cargs ty sz xs ty' sz' ((rl a).map encE) (res a))
  (hr : AV.renL (fun _ => id) cargs = raw) (hin : AV.inML [0] cargs = true) (hl : find id = some (.row ty sz xs)) (hd : dst = some d) (hn : find d = none) (hne : Nat.beq id d = false) (hk : ∀ a, k a = some r → KR ((res a).ren fun _ => d) [d, id] [(d, .row ty' sz' ((rl a).map encE)), (id, .dead)]) : z9v E f avs K raw find dst KR := by
 unfold bndC at h
 split at h
 ·exact .take id d ty sz xs ty' sz' _ _ cargs hdr0 (hc _ rfl) hr hin hl hd hn (Nat.ne_of_beq_eq_false hne) (hk _ h)
 ·cases h
theorem z9v.oI {o : Option α} {k : α → Option β} {r : β} {K : AV → Prop} {raw : List AV} {find : Nat → Option Ent} {dst : Option Nat} {KR : AV → List Nat → List (Nat × Ent) → Prop} {ty sz : Nat} {xs cargs : List AV} (h : bndC o k = some r) (id : Nat) (rl : α → List γ) (encE : γ → AV) (res : α → AV) (hdr0 : E.dr = false) (hc : ∀ a, o = some a → ConC true E f cargs ty sz xs ty sz ((rl a).map encE) (res a))
  (hr : AV.renL (fun _ => id) cargs = raw) (hin : AV.inML [0] cargs = true) (hl : find id = some (.row ty sz xs)) (hk : ∀ a, k a = some r → KR ((res a).ren fun _ => id) [id] [(id, .row ty sz ((rl a).map encE))]) : z9v E f avs K raw find dst KR := by
 unfold bndC at h
 split at h
 ·exact .turn id ty sz xs _ _ cargs hdr0 (hc _ rfl) hr hin hl (hk _ h)
 ·cases h
theorem z5v.o {V : Type} {L : Nat → V → Option β} {S : V → AS} {σ : AS} {F : (AS → Prop) → AS → Prop} {r : β} {n : Nat} {v0 : V} (h : L n v0 = some r) (hz : ∀ v, L 0 v = none) (hl : LeX E nt σ (S v0)) (round : ∀ m v, L (m + 1) v = some r → F (fun σ' => ∃ v', L m v' = some r ∧ LeX E nt σ' (S v')) (S v))
  (mono : ∀ (P Q : AS → Prop) σ, (∀ σ, P σ → Q σ) → F P σ → F Q σ) : z5v E nt F σ := by
 refine .mk (fun m σ => ∃ v, L m v = some r ∧ σ = S v) n (S v0) hl ⟨v0, h, rfl⟩ ?_
 rintro m σ ⟨v, hv, rfl⟩
 cases m with
 | zero => rw [hz] at hv; cases hv
 | succ m =>
   refine mono _ _ _ (fun σ' ⟨v', h1, h2⟩ => ?_) (round m v hv)
   exact ⟨m, S v', h2, Nat.lt_succ_self _, v', h1, rfl⟩
end
theorem RetX.o {v : AV} {a r : β} {enc : β → AV} (h : some a = some r) (hs : Sub v (enc a)) : RetX v (enc r) := by injection h with h; subst h; exact .sub hs
theorem TX.o {E : Env} {nt : Nat} {fn : Func} {σ : AS} {ty sz : Nat} {a r : β} {rl : β → List AV} {res : β → AV} (h : some a = some r) (hk : TX E nt fn σ ty sz (rl a) (res a)) : TX E nt fn σ ty sz (rl r) (res r) := by injection h with h; subst h; exact hk
end
section
variable {E : Env} {nt : Nat}
theorem AW.mono1 {c : Code} {K : Exit → AS → Prop} {P Q : AS → Prop} {σ : AS} (h : ∀ σ, P σ → Q σ) (k : AW E nt (z0v P K) [.code c] .normal σ) : AW E nt (z0v Q K) [.code c] .normal σ := ⟨fun cx hE hn => WP.mono (k.out cx hE hn) (fun e σ' hq => by cases e <;> first | exact h _ hq | exact hq)⟩
end
section
variable {β V : Type} {E : Env} {nt : Nat} {R : Exit → AS → Prop} {K : List z16}
theorem LoopA.o {L : Nat → V → Option β} {S : V → AS} {σ : AS} {c : Code} {r : β} {n : Nat} {v0 : V} (h : L n v0 = some r) (hz : ∀ v, L 0 v = none) (hl : LeX E nt σ (S v0))
  (round : ∀ m v, L (m + 1) v = some r → AW E nt (z0v (fun σ' => ∃ v', L m v' = some r ∧ LeX E nt σ' (S v')) (AW E nt R K)) [.code c] .normal (S v)) : z5v E nt (fun next σ' => AW E nt (z0v next (AW E nt R K)) [.code c] .normal σ') σ :=
 z5v.o h hz hl round (fun P Q σ hpq hF => AW.mono1 hpq hF)
theorem AW.frzO {id ty sz : Nat} {xs : List AV} {c : Code} {σ : AS} {x : Option β} {y : β} (h : frz id x = some y) (r : Nat) (hr : σ.find r = some (.row ty sz xs)) (k : x = some y → AW E nt R (.code c :: K) .normal (σ.frzAll r sz xs)) : AW E nt R (.code c :: K) .normal σ := AW.weaken (LeX.frzAll r ty sz xs hr) (k h)
theorem AW.regO {id : Nat} {os : Array Oper} {d : Bool} {σ : AS} {x : Option β} {y : β} (h : reg x = some y) (k : x = some y → AW E nt R (.ops d os os.toList [] [] :: K) .normal σ) : AW E nt R (.code (.region id os d) :: K) .normal σ := AW.into (k h)
end
def AS.putS (σ : AS) (t : Nat) (v : AV) : AS := ⟨(t, v) :: σ.tm, σ.me⟩
theorem LeX.put {E : Env} {nt : Nat} {σ : AS} (t : Nat) (v : AV) (hs : Sub (σ.get t) v) : LeX E nt σ (σ.putS t v) := fun cx hE hn a w ⟨γ, h⟩ => by
 refine ⟨γ, fun u => ?_, fun i => h.me i, h.inj, h.ge, h.below, h.size, h.defers, h.gh, h.fr, h.dr⟩
 by_cases hu : t = u
 ·subst hu
  have e : (σ.putS t v).get t = v := by simp [AS.putS, AS.get, lkV]
  rw [e]
  exact (h.tm t).sub hs
 ·have e : (σ.putS t v).get u = σ.get u := by
   unfold AS.putS AS.get
   simp only [lkV]
   cases hb : Nat.beq t u with
   | true => exact absurd (Nat.eq_of_beq_eq_true hb) hu
   | false => rfl
  rw [e]
  exact h.tm u
attribute [irreducible] cnd idx nat ltx elt slc sls app mak stx nzx shx bnd bndC bndR frz reg mgt mst psx
end Go.Proofs.YtjpknpjjcddnnaaGreat
namespace Go.Proofs.YtjpknpjjcddnnaaGreat
open Go.RowKit
section
variable {P : Program}
end
section
variable {cx : Cx} {o : Oper} {σ : AS}
theorem zn5 {T n d : Nat} {ps : Array (Nat × Operand)} {i ie : TyI} {e esz eb : Nat} {xs : List AV} (ho : o.op = .buildSlice T n ps) (hdst : o.dst = some d) (hd : dok cx o = true) (hT : lkT cx.E.tab T = some i) (hs : i.shape = .slc e esz eb) (he : lkT cx.E.tab e = some ie) (hz : esz ≠ 0) (hn : Nat.ble (n * esz) 16777216 = true)
  (hze : ie.zero.cells.all (·.oneCell') = true) (hz0 : Nat.blt 0 ie.zero.cells.size = true) (hok : zin σ ps = true) (hcl : AV.closedL xs = true) (hlen : xs.length = n) (hl : xs.all (fun x => Nat.beq x.cells.length esz) = true)
  (hf : zo8 (fun j => some (j * esz, esz)) (List.replicate (n * esz) .any) (zcu σ ps) = some (xs.flatMap AV.cells)) (hnn : σ.find d = none) : z0u cx o σ (.row d) (d :: zio (zcu σ ps)) [(d, .row e esz xs)] := by
 refine ⟨fun id e he => ?_, fun τ h1 h2 a w Q K ⟨γ, hst⟩ hK => zgb (fun c hc => by rw [ho] at hc; cases hc) ?_⟩
 ·have := zo5 he
  simp at this
  simp [this]
 have hrel := zs8 hst hok (fun p hp => h1 p.2 (by simp only [ho, Op.operands, List.mem_toArray, List.mem_map]; exact ⟨p, hp, rfl⟩)) (fun id hid => h2 id (List.mem_cons_of_mem _ hid))
 have hcell : ∀ j, (ie.zero.cells[j % ie.zero.cells.size]!).oneCell' = true := mod_cell hze (by simpa using hz0)
 have h0rel : CRel w (Sg cx.S0 cx.w0.heap.size γ) γ ((Array.range (n * esz)).map (ie.zero.cells[· % ie.zero.cells.size]!)) (List.replicate (n * esz) .any) := by
  refine ⟨by simp, fun j hj => by simp only [List.getElem_replicate]; exact .any _, fun j hj => ?_⟩
  have hj' : j < n * esz := by simpa using hj
  have : ((Array.range (n * esz)).map (ie.zero.cells[· % ie.zero.cells.size]!)).getD j undef = ie.zero.cells[j % ie.zero.cells.size]! := by
   rw [Array.getD_eq_getD_getElem?, Array.getElem?_map, Array.getElem?_range, if_pos hj']; rfl
  rw [this]
  exact hcell j
 obtain ⟨cells', hfill, hc1, hc2, hc3⟩ := zsg (f := a.eval) (g := σ.eval) ps.toList _ _ _ hrel h0rel hf
 have hrun := zkp (parts := ps.map fun p => (p.1, a.eval p.2)) (cx.E.ok T i hT) hs (cx.E.ok e ie he) hz (Nat.le_of_ble_eq_true hn) (by rw [Array.toList_map]; exact hfill) w
 have hbl : Below w.heap.size w (w.alloc (.cells cells' e)) := (Below.refl _ _).alloc (Nat.le_refl _) _
 have hlen' : ∀ k (hk : k < xs.length), (xs[k]).cells.length = esz := fun k hk => by
  simp only [List.all_eq_true] at hl
  exact Nat.eq_of_beq_eq_true (hl _ (List.getElem_mem hk))
 obtain ⟨g1, g2⟩ := flat_at hlen'
 have hin : ∀ k j, k < xs.length → j < esz → k * esz + j < xs.length * esz := fun k j hk hj => by
  have : (k + 1) * esz ≤ xs.length * esz := Nat.mul_le_mul_right _ hk
  rw [Nat.succ_mul] at this
  omega
 have hcs : cells'.size = n * esz := by rw [hc1, g1, hlen]
 have hnb : n ≤ 16777216 := by
  have h := Nat.le_of_ble_eq_true hn
  have : n * 1 ≤ n * esz := Nat.mul_le_mul_left _ (by omega)
  omega
 unfold Oper.wp
 have hex : (execOp a.eval o).run cx.P w = .ok (.value (.slice (some ⟨w.heap.size, 0, none⟩) n n)) (w.alloc (.cells cells' e)) := by
  have e' : (ps.map fun x => match x with | (i, x) => (i, a.eval x)) = ps.map fun p => (p.1, a.eval p.2) := rfl
  simp only [execOp, ho, e', Sem.run_bind, Sem.run_pure, Result.andThen_ok, hrun]
 rw [hex]
 refine hK _ _ ?_
 rw [hdst]
 refine new_row (v := .slice (some ⟨w.heap.size, 0, none⟩) n n) (us := cells'.toList) hst (fun _ => Nat.le_refl _) (by rw [h2 d (by simp), hnn]) (fun x hx => by injection hx with hx; subst hx; exact z4w hd _ hdst) hbl
  ⟨by rw [Array.length_toList, hcs, hlen], Or.inr ⟨w.heap.size, n, cells', by rw [hlen], Nat.le_refl _, Blk.new w _ _, by omega, by unfold maxLen; omega, hcs, ?_⟩⟩ hlen' (fun k hk j hj => ?_) (fun u hu => ?_)
  (fun hS => .row (Gam.set_self _ _ _) (fun g s e _ => by injection e with e; injection e with _ e))
 ·rw [List.take_of_length_le (by rw [Array.length_toList, hcs, hlen]; exact Nat.le_refl _)]
 ·have hj' : j < esz := by rw [← hlen' k hk]; exact hj
  have hlt : k * esz + j < (xs.flatMap AV.cells).length := by rw [g1]; exact hin k j hk hj'
  have := hc2 (k * esz + j) hlt
  have hq := g2 k hk j hj
  rw [List.getElem?_eq_getElem hlt] at hq
  injection hq with hq
  rw [hq] at this
  have e2 : cells'.toList.getD (k * esz + j) undef = cells'.getD (k * esz + j) undef := by
   rw [List.getD_eq_getElem?_getD, Array.getD_eq_getD_getElem?, Array.getElem?_toList]
  rw [e2]
  refine (this.mono hbl.size (fun b hS hlt => ⟨hbl.block b hlt, Or.inl hS, fun e => ?_⟩)).close (zos (AV.closedL_at hcl k hk) j hj)
  simp only [Value.ownBlock, Option.some.injEq] at e
  omega
 ·obtain ⟨q, hq, rfl⟩ := List.mem_iff_getElem.1 hu
  have hq' : q < cells'.size := by simpa using hq
  have := hc3 q hq'
  rw [Array.getD_eq_getD_getElem?, Array.getElem?_eq_getElem hq'] at this
  simpa using this
end
end Go.Proofs.YtjpknpjjcddnnaaGreat
namespace Go.Proofs.YtjpknpjjcddnnaaGreat
open Go.RowKit
section
variable {cx : Cx} {o : Oper} {σ : AS}
theorem zrc {γ : Gam} {τ : AS} {a : Act} {w : World} {id : Nat} {ty sz : Nat} {xs : List AV} (hst : StG cx γ τ a w) (hl : τ.find id = some (.row ty sz xs)) :
  ∃ s vs, γ id = some (some (s.ownBlock, s)) ∧ s.oneCell' = true ∧ w.ownsRow cx.w0.heap.size ty sz s xs.length vs ∧ (∀ k (hk : k < xs.length), (xs[k]).cells.length = sz) ∧
   (∀ k (hk : k < xs.length) j (hj : j < (xs[k]).cells.length), Rep w (Sg cx.S0 cx.w0.heap.size γ) G0 ((xs[k]).cells[j]) (vs.getD (k * sz + j) undef)) ∧ ∀ u ∈ vs, u.oneCell' = true := by
 have hme := hst.me id
 rw [hl] at hme
 obtain ⟨d, hd', s, vs, hde, h1, hown, hlen, hr, hone⟩ := hme
 subst hde
 exact ⟨s, vs, hd', h1, hown, hlen, hr, hone⟩
theorem r_slice_sub {T e esz eb ty id lo : Nat} {x y : Operand} {i : TyI} {k : IntKind} {xs : List AV} (ho : o.op = .slice T x (some y) none none) (hd : dok cx o = true) (hxo : z0o x = true) (hyo : z0o y = true) (hx : σ.eval x = .row id) (hy : σ.eval y = .int k (lo : Int)) (hT : lkT cx.E.tab T = some i) (hs : i.shape = .slc e esz eb) (hz : esz ≠ 0)
  (hl : σ.find id = some (.row ty esz xs)) (hlo : lo ≤ xs.length) : z0u cx o σ (.der (.sub esz lo) id) [id] [] :=
 z0z hd fun τ γ a w hh1 hh2 hst => by
  obtain ⟨m1, m2, m3⟩ := slice_mem ho
  have hev := hst.ev x hxo
  rw [hh1 x m1, hx] at hev
  obtain ⟨hu, hce, _⟩ := z9z (cx.E.ok T i hT) hs
  have hsz := z3w hce hz w
  obtain ⟨s, us, hd', hone1, hown, _⟩ := zrc (id := id) hst (by rw [hh2 id (by simp)]; exact hl)
  have hB : ∀ c, xs.length ≤ c → (Instr.sliceBounds true xs.length c (some (a.eval y)) none none).run cx.P w = .ok (lo, xs.length, c) w := fun c hc =>
   zq3 (σ := σ) (l := lo) (h := xs.length) (c := c) (n := xs.length) (lo := some y) (hi := none) hst hyo rfl (fun z hz => hh1 z (m2 z hz)) (fun z hz => by cases hz) (by simp [bndA, hy]) (by simp [bndA]) hlo hc
  rcases hown.2 with ⟨hv, h0⟩ | ⟨g, cap, cur, hv, _, _, hn2, _⟩
  ·have hx0 : xs.length = 0 := h0
   have hl0 : lo = 0 := by omega
   have hB := hB 0 (by omega)
   rw [hx0] at hB
   subst hv
   refine ⟨.slice none 0 0, ?_, .der hd' (fun g s e => by injection e with e; injection e with _ e; subst e; rfl)⟩
   simp only [execOp, ho, hev.row_inv hd', Option.map_none, Option.map_some, Sem.run_bind, Sem.run_pure, Result.andThen_ok]
   simp [Instr.sliceAt, Instr.slice, run_underlying hu, hB, hsz, pure]
  ·have hB := hB cap hn2
   subst hv
   refine ⟨.slice (some (if cap = lo then ⟨g, 0, none⟩ else ⟨g, 0 + lo * esz, none⟩)) (xs.length - lo) (cap - lo), ?_, .der hd' (fun g s e => by injection e with e; injection e with _ e; subst e; rfl)⟩
   simp only [execOp, ho, hev.row_inv hd', Option.map_none, Option.map_some, Sem.run_bind, Sem.run_pure, Result.andThen_ok]
   simp [Instr.sliceAt, Instr.slice, run_underlying hu, hB, hsz, pure, Addr.add_lit]
   split <;> rfl
theorem sub_val {γ : Gam} {τ : AS} {a : Act} {w : World} {id ty sz lo : Nat} {xs : List AV} {v : Value} (hst : StG cx γ τ a w) (hl : τ.find id = some (.row ty sz xs)) (hv : Rep w (Sg cx.S0 cx.w0.heap.size γ) γ (.der (.sub sz lo) id) v) (hlo : lo < xs.length) :
  ∃ g cap cur us, γ id = some (some (some g, .slice (some ⟨g, 0, none⟩) xs.length cap)) ∧ v = .slice (some ⟨g, lo * sz, none⟩) (xs.length - lo) (cap - lo) ∧ xs.length ≤ cap ∧ w.ownsRow cx.w0.heap.size ty sz (.slice (some ⟨g, 0, none⟩) xs.length cap) xs.length us ∧ w.heap[g]? = some (.cells cur ty (0, 0)) ∧ cur.size = cap * sz ∧ cur.toList.take (xs.length * sz) = us ∧ (∀ k (hk : k < xs.length), (xs[k]).cells.length = sz) ∧
   (∀ k (hk : k < xs.length) j (hj : j < (xs[k]).cells.length), Rep w (Sg cx.S0 cx.w0.heap.size γ) G0 ((xs[k]).cells[j]) (us.getD (k * sz + j) undef)) ∧ ∀ u ∈ us, u.oneCell' = true := by
 obtain ⟨s, us, hd', hone1, hown, hlen, hr, hone⟩ := zrc hst hl
 have hown0 := hown
 rcases hown.2 with ⟨hs, h0⟩ | ⟨g, cap, cur, hs, _, hh, hn2, _, hcs, htk⟩
 ·omega
 ·subst hs
  refine ⟨g, cap, cur, us, hd', ?_, hn2, hown0, hh, hcs, htk, hlen, hr, hone⟩
  rw [hv.der_inv hd']
  have : ¬ cap = lo := by omega
  simp [Dv.of, this]
theorem r_len_sub {T id sz lo : Nat} {x : Operand} {i : TyI} {e esz eb : Nat} {ty : TypeId} {xs : List AV} (ho : o.op = .call { callee := .builtin .len, args := #[x], argTypes := #[T] }) (hd : dok cx o = true) (hxo : z0o x = true) (hx : σ.eval x = .der (.sub sz lo) id) (hl : σ.find id = some (.row ty sz xs)) (hT : lkT cx.E.tab T = some i) (hs : i.shape = .slc e esz eb) (hlo : lo ≤ xs.length) : z0u cx o σ (.int .i64 ((xs.length - lo : Nat) : Int)) [id] [] :=
 z0z hd fun τ γ a w h1 h2 hst => by
  have hev := hst.ev x hxo
  rw [h1 x (by simp [ho, Op.operands, Call.operands]), hx] at hev
  obtain ⟨hu, _, _⟩ := z9z (cx.E.ok T i hT) hs
  obtain ⟨s, us, hd', hone1, hown, _⟩ := zrc (id := id) hst (by rw [h2 id (by simp)]; exact hl)
  have hsl : ∃ A c, a.eval x = .slice A (xs.length - lo) c := by
   rw [hev.der_inv hd']
   rcases hown.2 with ⟨hv, h0⟩ | ⟨g, cap, cur, hv, _⟩
   ·have hx0 : xs.length = 0 := h0
    subst hv
    exact ⟨none, 0, by rw [hx0, Nat.zero_sub]; rfl⟩
   ·subst hv; exact ⟨_, _, rfl⟩
  obtain ⟨A, c, hsl⟩ := hsl
  refine ⟨.int .i64 ((xs.length - lo : Nat) : Int), ?_, .int _ _⟩
  simp only [execOp, ho, resolve, invoke, builtin, Builtin.len_, Array.map_push, List.map_toArray, List.map_cons, List.map_nil, hsl]
  simp [run_underlying hu, goInt, pure]
theorem r_indexAddr_sub {T id : Nat} {x y : Operand} {i : TyI} {e sz eb lo : Nat} {ty : TypeId} {xs : List AV} {k : IntKind} {n : Int} {m : Nat} (ho : o.op = .indexAddr T x y) (hd : dok cx o = true) (hxo : z0o x = true) (hyo : z0o y = true) (hx : σ.eval x = .der (.sub sz lo) id) (hy : σ.eval y = .int k n)
  (hl : σ.find id = some (.row ty sz xs)) (hT : lkT cx.E.tab T = some i) (hs : i.shape = .slc e sz eb) (hz : sz ≠ 0) (hn : n = (m : Int)) (hm : lo + m < xs.length) : z0u cx o σ (.elt id sz (lo + m) 0) [id] [] :=
 z0z hd fun τ γ a w h1 h2 hst => by
  have hev := hst.ev x hxo
  rw [h1 x (by simp [ho, Op.operands]), hx] at hev
  have hevy := hst.ev y hyo
  rw [h1 y (by simp [ho, Op.operands]), hy] at hevy
  obtain ⟨hu, hce, _⟩ := z9z (cx.E.ok T i hT) hs
  obtain ⟨g, cap, cur, us, hd', ex, hcap, _⟩ := sub_val (id := id) hst (by rw [h2 id (by simp)]; exact hl) hev (by omega)
  refine ⟨.pointer (some ⟨g, (lo + m) * sz, none⟩), ?_, .elt hd' (fun g' s e => by injection e with e; injection e with e _; simp only [Option.some.injEq] at e; rw [← e]; rfl)⟩
  subst hn
  have hm' : m < xs.length - lo := by omega
  simp [execOp, ho, ex, hevy.int_inv, Instr.indexAt, asIntOf, run_underlying hu, z3w hce hz, hm', pure, Addr.add_lit, Nat.add_mul]
theorem zeroCells_get (z : Array Value) (n q j : Nat) (hq : q < n) (hj : j < z.size) : (Builtin.zeroCells z n).toList.getD (q * z.size + j) undef = z.getD j undef := by
 have hlt : q * z.size + j < n * z.size := by
  have : (q + 1) * z.size ≤ n * z.size := Nat.mul_le_mul_right _ hq
  rw [Nat.succ_mul] at this
  omega
 have hmod : (q * z.size + j) % z.size = j := by rw [Nat.mul_comm, Nat.mul_add_mod, Nat.mod_eq_of_lt hj]
 rw [List.getD_eq_getElem?_getD]
 simp [Builtin.zeroCells, hlt, hmod, Array.getD, hj]
def clrL {α : Type} (l : List α) (lo : Nat) (z : α) : List α := l.take lo ++ List.replicate (l.length - lo) z
theorem clrL_length {α : Type} (l : List α) (lo : Nat) (z : α) (h : lo ≤ l.length) : (clrL l lo z).length = l.length := by simp [clrL]; omega
theorem clrL_map {α β : Type} (f : α → β) (l : List α) (lo : Nat) (z : α) : clrL (l.map f) lo (f z) = (clrL l lo z).map f := by simp [clrL]
theorem r_clear_sub {T id e esz eb lo : Nat} {x : Operand} {i ie : TyI} {xs : List AV} (ho : o.op = .call { callee := .builtin .clear, args := #[x], argTypes := #[T] }) (hd : dok cx o = true) (hxo : z0o x = true) (hx : σ.eval x = .der (.sub esz lo) id) (hl : σ.find id = some (.row e esz xs)) (hT : lkT cx.E.tab T = some i) (hs : i.shape = .slc e esz eb) (he : lkT cx.E.tab e = some ie) (hz : esz ≠ 0)
  (hzo : zeroOk ie = true) (hone0 : ie.zero.cells.all (·.oneCell') = true) (hlo : lo ≤ xs.length) : z0u cx o σ (.tup []) [id] [(id, .row e esz (clrL xs lo (znx ie)))] := by
 refine ⟨fun id e he => zo5 he, fun τ h1 h2 a w Q K ⟨γ, hst⟩ hK => zgb (fun c hc => by rw [ho] at hc; cases hc) ?_⟩
 have hev := hst.ev x hxo
 rw [h1 x (by simp [ho, Op.operands, Call.operands]), hx] at hev
 obtain ⟨hu, hce, _⟩ := z9z (cx.E.ok T i hT) hs
 have hok := cx.E.ok e ie he
 have hsz : ie.sz = esz := hok.cells.symm.trans hce
 obtain ⟨hzc, hzs⟩ := zra hzo
 have hzs' : ie.zero.cells.size = esz := hzs.trans hsz
 have hcl : (znx ie).cells.length = esz := by rw [hzc, List.length_map, Array.length_toList, hzs']
 have hall : ∀ v ∈ ie.zero.cells, v.oneCell' = true := by
  rw [Array.all_eq_true_iff_forall_mem] at hone0
  exact hone0
 have hf : τ.find id = some (.row e esz xs) := by rw [h2 id (by simp)]; exact hl
 have hlen' := clrL_length xs lo (znx ie) hlo
 unfold Oper.wp
 by_cases hlt : lo < xs.length
 ·obtain ⟨g, cap, cur, us, hd', ex, hcap, hown, hh, hcs, htk, hlen, hr, hone⟩ := sub_val (id := id) hst hf hev hlt
  have hown0 := hown
  obtain ⟨hul, _⟩ := hown
  have hnl : (Builtin.zeroCells ie.zero.cells (xs.length - lo)).toList.length = (xs.length - lo) * esz := by simp [Builtin.zeroCells, hzs']
  have hadd : lo * esz + (xs.length - lo) * esz = xs.length * esz := by rw [← Nat.add_mul]; congr 1; omega
  have hcapm : xs.length * esz ≤ cap * esz := Nat.mul_le_mul_right _ hcap
  have hz1 : ∀ v ∈ (Builtin.zeroCells ie.zero.cells (xs.length - lo)).toList, v.oneCell' = true := fun v hv => by
   obtain ⟨q, hq, rfl⟩ := List.mem_iff_getElem.1 hv
   rw [hnl] at hq
   have hpos : 0 < ie.zero.cells.size := by omega
   have hmod := Nat.mod_lt q hpos
   simp only [Builtin.zeroCells, Array.toList_map, List.getElem_map, Array.getElem_toList, Array.getElem_range]
   rw [getElem!_pos ie.zero.cells _ hmod]
   exact hall _ (Array.getElem_mem _)
  have hrun := run_storeCells_at cx.P g (lo * esz) e (Builtin.zeroCells ie.zero.cells (xs.length - lo)).toList 0 cur w hh (by rw [hnl]; omega) hz1
  simp only [Nat.add_zero, hnl] at hrun
  generalize hnw : (Builtin.zeroCells ie.zero.cells (xs.length - lo)).toList = news at hrun hnl hz1
  generalize hcur' : (cur.toList.take (lo * esz) ++ news ++ cur.toList.drop (lo * esz + (xs.length - lo) * esz)).toArray = cur' at hrun
  have hne : xs.length - lo ≠ 0 := by omega
  have hrun1 : (Builtin.clear_ #[T] 0 #[a.eval x]).run cx.P w = .ok (.tuple #[]) (w.setRow g cur') := by
   obtain ⟨m, hm⟩ : ∃ m, xs.length - lo = m + 1 := ⟨xs.length - lo - 1, by omega⟩
   rw [hm] at hnw ex
   simp only [Builtin.clear_, ex]
   simp [run_underlying hu, hok.zeroV w, hnw, hrun, pure]
  have hty : ∀ ty, (Builtin.clear_ #[T] ty #[a.eval x]) = (Builtin.clear_ #[T] 0 #[a.eval x]) := fun ty => rfl
  have hex : (execOp a.eval o).run cx.P w = .ok (.value (.tuple #[])) (w.setRow g cur') := by
   simp only [execOp, ho, resolve, invoke, builtin, List.map_toArray, List.map_cons, List.map_nil, hty, Sem.run_bind, hrun1, Result.andThen_ok, Sem.run_pure]
  rw [hex]
  have hblk := setRow_heap w g cur cur' e (0, 0) hh
  have hoth : ∀ q, q ≠ g → (w.setRow g cur').heap[q]? = w.heap[q]? := fun q hq => setRow_other w g q _ hq
  have hzz : w.heap.size ≤ (w.setRow g cur').heap.size := by simp
  have hgr : w.grownBy (w.setRow g cur') (some g) := ⟨rfl, rfl, rfl, hzz, fun k hk hne => hoth k (fun e => hne (by rw [e]))⟩
  have hdr : w.drawn ≤ (w.setRow g cur').drawn := Nat.le_refl _
  have hgo : own γ g := own.mk hd'
  have hns : ∀ b, Sg cx.S0 cx.w0.heap.size γ b → b ≠ g := fun b hS e => by
   subst e
   rcases hS with ⟨_, h⟩ | ⟨_, h⟩
   ·have := (hst.ge b hgo).1.1; omega
   ·exact h hgo
  generalize w.setRow g cur' = w' at *
  have htk' : cur'.toList.take (xs.length * esz) = us.take (lo * esz) ++ news := by
   rw [← hcur']
   simp only [← htk]
   rw [List.toList_toArray, List.take_append, List.take_of_length_le (by simp; omega)]
   have : (List.take (lo * esz) cur.toList ++ news).length = xs.length * esz := by simp [hnl]; omega
   rw [this, Nat.sub_self, List.take_zero, List.append_nil, List.take_take, Nat.min_eq_left (by omega)]
  refine hK _ _ (row_turned (v := .slice (some ⟨g, 0, none⟩) xs.length cap) (us' := us.take (lo * esz) ++ news) hst (fun _ => hdr) hd' (z4w hd) hgr ?_ (fun k hk => ?_) (fun k hk j hj => ?_) (fun u hu => ?_) (.tup #[] rfl (fun j hj => absurd hj (by simp))))
  ·rw [hlen']
   rcases hown0.2 with ⟨h, _⟩ | ⟨g', cap', cu, hv', hb', _, _, hm', _, _⟩
   ·cases h
   ·injection hv' with e1 e2 e3
    injection e1 with e1
    injection e1 with e1 _ _
    subst e1
    subst e3
    refine ⟨by simp [hnl]; omega, Or.inr ⟨g, cap, cur', rfl, hb', hblk, hcap, hm', ?_, htk'⟩⟩
    rw [← hcur']
    simp [hnl]
    omega
  ·rw [hlen'] at hk
   simp only [clrL, List.getElem_append]
   split
   ·rw [List.getElem_take]; exact hlen k _
   ·rw [List.getElem_replicate]; exact hcl
  ·rw [hlen'] at hk
   have hlt1 : (us.take (lo * esz)).length = lo * esz := by simp; omega
   by_cases hkl : k < lo
   ·have hel : (clrL xs lo (znx ie))[k]'(by rw [hlen']; exact hk) = xs[k] := by
     simp only [clrL, List.getElem_append]
     rw [dif_pos (by simp; omega), List.getElem_take]
    rw [hel] at hj
    have hj' : j < esz := by rw [← hlen k hk]; exact hj
    have hlt2 : k * esz + j < lo * esz := by
     have : (k + 1) * esz ≤ lo * esz := Nat.mul_le_mul_right _ hkl
     rw [Nat.succ_mul] at this
     omega
    have e1 : (us.take (lo * esz) ++ news).getD (k * esz + j) undef = us.getD (k * esz + j) undef := by
     rw [List.getD_eq_getElem?_getD, List.getElem?_append_left (by omega), List.getElem?_take_of_lt hlt2, ← List.getD_eq_getElem?_getD]
    rw [e1]
    simp only [hel]
    exact (hr k hk j hj).mono hzz (fun b hS hlt => ⟨hoth b (hns b hS), Or.inl hS, fun e => hns b hS (by injection e with e; exact e.symm)⟩)
   ·have hel : (clrL xs lo (znx ie))[k]'(by rw [hlen']; exact hk) = znx ie := by
     simp only [clrL, List.getElem_append]
     rw [dif_neg (by simp; omega), List.getElem_replicate]
    rw [hel] at hj
    have hj' : j < esz := by rw [← hcl]; exact hj
    have hle : lo * esz ≤ k * esz := Nat.mul_le_mul_right _ (by omega)
    have e1 : (us.take (lo * esz) ++ news).getD (k * esz + j) undef = ie.zero.cells.getD j undef := by
     rw [List.getD_eq_getElem?_getD, List.getElem?_append_right (by omega), hlt1, ← List.getD_eq_getElem?_getD, ← hnw]
     have := zeroCells_get ie.zero.cells (xs.length - lo) (k - lo) j (by omega) (by omega)
     rw [← this, hzs', Nat.sub_mul]
     congr 1
     omega
    rw [e1]
    simp only [hel, hzc, List.getElem_map]
    have hj2 : j < ie.zero.cells.size := by omega
    have : ie.zero.cells.getD j undef = ie.zero.cells[j] := by simp [Array.getD, hj2]
    rw [this]
    simpa using zrd _ _ _ (ie.zero.cells[j])
  ·rcases List.mem_append.1 hu with hu | hu
   ·exact hone u (List.mem_of_mem_take hu)
   ·exact hz1 u hu
 ·have hlx : lo = xs.length := by omega
  have hex : (execOp a.eval o).run cx.P w = .ok (.value (.tuple #[])) w := by
   obtain ⟨s, us, hd', hone1, hown, _⟩ := zrc (id := id) hst hf
   have hsl : ∃ A c, a.eval x = .slice A 0 c := by
    rw [hev.der_inv hd']
    rcases hown.2 with ⟨hv, h0⟩ | ⟨g, cap, cur, hv, _⟩
    ·subst hv; exact ⟨none, 0, rfl⟩
    ·subst hv; exact ⟨_, _, by show Value.slice _ (xs.length - lo) _ = _; rw [hlx, Nat.sub_self]⟩
   obtain ⟨A, c, hsl⟩ := hsl
   simp only [execOp, ho, resolve, invoke, builtin, List.map_toArray, List.map_cons, List.map_nil, Builtin.clear_, hsl]
   cases A <;> simp [run_underlying hu, pure]
  rw [hex]
  have hid : clrL xs lo (znx ie) = xs := by simp [clrL, hlx]
  rw [hid] at hK
  obtain ⟨s, us, hd', hone1, hown, hlen, hr, hone⟩ := zrc (id := id) hst hf
  have hns : ∀ b, Sg cx.S0 cx.w0.heap.size γ b → s.ownBlock ≠ some b := fun b hS e => by
   have hgo : own γ b := own.mk (by rw [hd', e])
   rcases hS with ⟨_, h⟩ | ⟨_, h⟩
   ·have := (hst.ge b hgo).1.1; omega
   ·exact h hgo
  exact hK _ _ (row_turned (v := s) (us' := us) hst (fun _ => Nat.le_refl _) hd' (z4w hd) (World.grownBy.refl _ _) hown hlen (fun k hk j hj => (hr k hk j hj).mono (Nat.le_refl _) (fun b hS _ => ⟨rfl, Or.inl hS, hns b hS⟩)) hone (.tup #[] rfl (fun j hj => absurd hj (by simp))))
end
end Go.Proofs.YtjpknpjjcddnnaaGreat
namespace Go.Proofs.YtjpknpjjcddnnaaGreat
open Go.RowKit
section
variable {P : Program} {w : World} {S : Nat → Prop}
theorem entry_run {T kt et : TypeId} {k : AV} {vk z : Value} {g clock : Nat} {es : Array MapEntry} {ks : List AV} {r : Option Nat} (hT : P.underlying T = some (.map kt et)) (ht : z9u P kt k = true) (hk : Rep w S G0 k vk) (hb : w.heap[g]? = some (.map es clock)) (hl : es.size = ks.length)
  (he : ∀ j (h : j < es.toList.length) (h' : j < ks.length), Rep w S G0 ks[j] (es.toList[j]).key) (hz : (zeroValue et).run P w = .ok z w) (hf : zci k ks 0 = some r) :
  (∀ j, r = some j → j < es.size ∧ (Instr.mapEntry T (.map (some g)) vk).run P w = .ok (.tuple #[(es.toList.getD j default).val, goInt (es.toList.getD j default).born]) { w with heap := w.heap.setIfInBounds g (.map (es.modify j fun e => { e with key := vk }) clock) }) ∧
  (r = none → (Instr.mapEntry T (.map (some g)) vk).run P w = .ok (.tuple #[z, goInt clock]) { w with heap := w.heap.setIfInBounds g (.map (es.push ⟨vk, z, clock⟩) (clock + 1)) }) := by
 obtain ⟨f1, f2⟩ := zmk ht hk es.toList (ks.map fun k => (k, AV.any)) r (by simpa using hl) (fun j h h' => ⟨by simpa using he j h (by simpa using h'), by simp only [List.getElem_map]; exact .any _⟩) (by simpa [Function.comp_def] using hf)
 refine ⟨fun j hr => ?_, fun hr => ?_⟩
 ·subst hr
  have hj := f2 j rfl
  have hje : j < es.size := by simpa using hj
  obtain ⟨_, h2, h3⟩ := findK_at hf
  simp only [Nat.sub_zero] at h2 h3
  have hv : es[j].key = vk := (eqK_val h3 hk (by simpa using he j hj h2)).symm
  refine ⟨hje, ?_⟩
  simp [Instr.mapEntry, run_underlying hT, MapKept.run_getObj_map hb, checkK _ ht hk, f1, MapKept.run_setObj_map _ hb, Result.andThen, hje, hv, stayK ht hk]
 ·subst hr
  simp [Instr.mapEntry, run_underlying hT, MapKept.run_getObj_map hb, checkK _ ht hk, f1, hz, MapKept.run_setObj_map _ hb, Result.andThen]
end
def conV (g : Nat) (vs : Array Value) : Option (Option Nat × Value) := some (none, .tuple (#[.map (some g)] ++ vs))
theorem mem_conV {g b : Nat} {vs : Array Value} : b ∈ blks (conV g vs) ↔ b = g ∨ ∃ j, z48 (vs.getD j undef) = some b := by
 simp only [conV, blks, Option.toList_none, List.nil_append, zfr, Array.toList_append, List.filterMap_append, List.mem_append]
 constructor
 ·rintro (h | h)
  ·left; simpa [z48] using h
  ·right
   obtain ⟨v, hv, hb⟩ := List.mem_filterMap.1 h
   obtain ⟨j, hj, rfl⟩ := List.mem_iff_getElem.1 hv
   have hj' : j < vs.size := by simpa using hj
   exact ⟨j, by simpa [Array.getD, hj'] using hb⟩
 ·rintro (h | ⟨j, h⟩)
  ·left; simp [z48, h]
  ·right
   by_cases hj : j < vs.size
   ·exact List.mem_filterMap.2 ⟨vs[j], by simp, by simpa [Array.getD, hj] using h⟩
   ·simp [Array.getD, hj, undef, z48] at h
theorem con0 (x : Value) (vs : Array Value) : (#[x] ++ vs).getD 0 undef = x := by
 rw [Array.getD_eq_getD_getElem?, Array.getElem?_append_left (by simp)]; rfl
theorem conV_turn {γ : Gam} {id g : Nat} {vs vs' : Array Value} (h : γ id = some (conV g vs')) : Turn γ id (conV g vs) :=
 ⟨_, _, rfl, h, rfl, rfl, fun φ => by cases φ <;> simp only [Dv.of, con0]⟩
theorem zre {w : World} {B ty sz n : Nat} {s : Value} {vs : List Value} (h : w.ownsRow B ty sz s n vs) : s.ownBlock = z48 s ∧ zfr s = [] := by
 rcases h.2 with ⟨rfl, _⟩ | ⟨g, cap, cur, rfl, _⟩ <;> exact ⟨rfl, rfl⟩
theorem za4 {s : Value} {b : Nat} (h : s.ownBlock = z48 s) (hn : zfr s = []) : b ∈ blks (some (s.ownBlock, s)) ↔ z48 s = some b := by
 simp [blks, hn, h]
section
variable {cx : Cx} {o : Oper} {σ : AS}
theorem mpn_val {γ : Gam} {τ : AS} {a : Act} {w : World} {id : Nat} {ps : List (AV × NE)} {v : Value} (hst : StG cx γ τ a w) (hl : τ.find id = some (.mpn ps)) (hv : Rep w (Sg cx.S0 cx.w0.heap.size γ) γ (.der .con id) v) :
  ∃ g es vs, γ id = some (conV g vs) ∧ v = .map (some g) ∧ w.heap[g]? = some (.map es ps.length) ∧ es.size = ps.length ∧ vs.size = ps.length ∧ (∀ j (h : j < es.toList.length), (es.toList[j]).born = j) ∧
   (∀ j (h : j < es.toList.length) (h' : j < ps.length), Rep w (Sg cx.S0 cx.w0.heap.size γ) G0 (ps[j]).1 (es.toList[j]).key) ∧ (∀ j (h : j < es.toList.length) (h' : j < ps.length), (ps[j]).2 ≠ .hole → (es.toList[j]).val = vs.getD j undef) ∧ (∀ j (h' : j < ps.length), NRep w (Sg cx.S0 cx.w0.heap.size γ) cx.w0.heap.size (vs.getD j undef) (ps[j]).2) ∧ DisB (some g) vs := by
 have hme := hst.me id
 rw [hl] at hme
 obtain ⟨d, hd', g, es, vs, hde, r⟩ := hme
 subst hde
 refine ⟨g, es, vs, hd', ?_, r⟩
 rw [hv.der_inv hd']
 exact con0 _ _
def nLen (ps : List (AV × NE)) : Option Nat → Option Nat
 | none => some 0
 | some j => match ps[j]? with
   | some (_, .row _ _ xs) => some xs.length
   | _ => none
theorem r_lookup_n {T kt et id n : Nat} {x y : Operand} {i ie : TyI} {k : AV} {ps : List (AV × NE)} {r : Option Nat} (ho : o.op = .lookup T x y false) (hd : dok cx o = true) (hxo : z0o x = true) (hyo : z0o y = true) (hx : σ.eval x = .der .con id) (hy : σ.eval y = k) (hl : σ.find id = some (.mpn ps))
  (hT : lkT cx.E.tab T = some i) (hs : i.shape = .map kt et) (he : lkT cx.E.tab et = some ie) (hz : ie.zero = .slice none 0 0) (hk : z9u cx.P kt k = true) (hf : zci k (ps.map (·.1)) 0 = some r) (hn : nLen ps r = some n) : z0u cx o σ (.slen n) [id] [] :=
 z0z hd fun τ γ a w h1 h2 hst => by
  have ex := hst.ev x hxo
  rw [h1 x (by simp [ho, Op.operands]), hx] at ex
  have ey := hst.ev y hyo
  rw [h1 y (by simp [ho, Op.operands]), hy] at ey
  obtain ⟨g, es, vs, hg, hv, hh, hl', hsz, hbn, hkk, hvv, hnn, hdb⟩ := mpn_val hst (by rw [h2 id (by simp)]; exact hl) ex
  have hT' := und_map (cx.E.ok T i hT) hs
  have hk0 := ey.flat (w' := w) (S' := Sg cx.S0 cx.w0.heap.size γ) (γ' := G0) (zlk hk)
  obtain ⟨f1, f2⟩ := zmk hk hk0 es.toList (ps.map fun p => (p.1, AV.any)) r (by simpa using hl') (fun j h h' => ⟨by simpa using hkk j h (by simpa using h'), by simp only [List.getElem_map]; exact .any _⟩) (by simpa [Function.comp_def] using hf)
  have hzr := (cx.E.ok et ie he).zeroV w
  rw [hz] at hzr
  cases r with
  | none =>
    simp only [nLen, Option.some.injEq] at hn
    subst hn
    exact ⟨.slice none 0 0, by simp [execOp, ho, hv, Instr.lookup, run_underlying hT', MapKept.run_getObj_map hh, checkK _ hk hk0, f1, hzr, Result.andThen, pure], .slen _ _ _⟩
  | some j =>
    have hj := f2 j rfl
    have hj' : j < ps.length := by simp at hj; omega
    simp only [nLen, List.getElem?_eq_getElem hj'] at hn
    have h3 := hnn j hj'
    have h4 := hvv j hj hj'
    generalize hp : ps[j] = p at *
    obtain ⟨pk, pv⟩ := p
    cases pv with
    | row ty sz xs =>
      simp only [Option.some.injEq] at hn
      subst hn
      obtain ⟨_, us, hown, _⟩ := h3
      have h4 := h4 (by simp)
      have hval : ∃ A c, (es.toList.getD j default).val = .slice A xs.length c := by
       rw [List.getD_eq_getElem?_getD, List.getElem?_eq_getElem hj, Option.getD_some, h4]
       rcases hown.2 with ⟨e, h0⟩ | ⟨g', cap, cur, e, _⟩
       ·rw [e]; exact ⟨none, 0, by rw [h0]⟩
       ·rw [e]; exact ⟨_, _, rfl⟩
      obtain ⟨A, c, hval⟩ := hval
      refine ⟨.slice A xs.length c, ?_, .slen _ _ _⟩
      rw [← hval]
      simp [execOp, ho, hv, Instr.lookup, run_underlying hT', MapKept.run_getObj_map hh, checkK _ hk hk0, f1, Result.andThen, pure]
    | mp => simp at hn
    | hole => simp at hn
def entN (ty sz : Nat) (k : AV) (ps : List (AV × NE)) : Option Nat → Option (List (AV × NE) × Nat × List AV)
 | none => some (ps ++ [(k, .hole)], ps.length, [])
 | some j => match ps[j]? with
   | some (_, .row ty' sz' xs) => match Nat.beq ty' ty && Nat.beq sz' sz with
     | true => some (ps.set j (k, .hole), j, xs)
     | false => none
   | _ => none
theorem lkE_two {d d' id : Nat} {e e' e'' : Ent} (he : lkE [(d, e), (d', e')] id = some e'') : id ∈ [d, d'] := by
 simp only [lkE] at he
 cases hb : Nat.beq d id with
 | true => simp [Nat.eq_of_beq_eq_true hb]
 | false =>
   rw [hb] at he
   cases hb2 : Nat.beq d' id with
   | true => simp [Nat.eq_of_beq_eq_true hb2]
   | false => rw [hb2] at he; cases he
theorem zpz {d d' : Nat} {e e' : Ent} (hne : d ≠ d') (i : Nat) : lkE [(d, e), (d', e')] i = if i = d then some e else if i = d' then some e' else none := by
 simp only [lkE]
 by_cases h1 : i = d
 ·subst h1; simp
 ·rw [if_neg h1]
  have : Nat.beq d i = false := by cases hb : Nat.beq d i with | true => exact absurd (Nat.eq_of_beq_eq_true hb).symm h1 | false => rfl
  rw [this]
  by_cases h2 : i = d'
  ·subst h2; simp
  ·rw [if_neg h2]
   have : Nat.beq d' i = false := by cases hb : Nat.beq d' i with | true => exact absurd (Nat.eq_of_beq_eq_true hb).symm h2 | false => rfl
   rw [this]
theorem con_step {γ γ' : Gam} {τ : AS} {a : Act} {w : World} {dst : Option Nat} {id q g : Nat} {es' : Array MapEntry} {vs vs' : Array Value} {qs : List (AV × NE)} {e : Ent} {av : AV} {v : Value} (hst : StG cx γ τ a w) (hd : ∀ x, dst = some x → cx.E.np ≤ x ∧ x < cx.nt) (hne : id ≠ q) (hid : γ id = some (conV g vs)) (hid' : γ' id = some (conV g vs')) (hoth : ∀ i, i ≠ id → i ≠ q → γ' i = γ i)
  (hq : ∀ x, γ q = some x → γ' q = some none) (hown : ∀ b, own γ' b ↔ own γ b) (hinj : ∀ b d, γ' q = some d → b ∈ blks d → b ∉ blks (conV g vs') ∧ (∀ i d', i ≠ id → i ≠ q → γ i = some d' → b ∉ blks d')) (hsub : ∀ i d' b, i ≠ id → i ≠ q → γ i = some d' → b ∈ blks d' → b ∉ blks (conV g vs'))
  (hsz : es'.size = qs.length) (hvz : vs'.size = qs.length) (hbn : ∀ j (h : j < es'.toList.length), (es'.toList[j]).born = j) (hkk : ∀ j (h : j < es'.toList.length) (h' : j < qs.length), Rep w (Sg cx.S0 cx.w0.heap.size γ) G0 (qs[j]).1 (es'.toList[j]).key)
  (hvv : ∀ j (h : j < es'.toList.length) (h' : j < qs.length), (qs[j]).2 ≠ .hole → (es'.toList[j]).val = vs'.getD j undef) (hnn : ∀ j (h' : j < qs.length), NRep w (Sg cx.S0 cx.w0.heap.size γ) cx.w0.heap.size (vs'.getD j undef) (qs[j]).2) (hdb : DisB (some g) vs')
  (hlt : g < w.heap.size)
  (he : ∀ w' : World, w.heap.size ≤ w'.heap.size → (∀ k, k ≠ g → w'.heap[k]? = w.heap[k]?) → (∀ b, Sg cx.S0 cx.w0.heap.size γ b → b < w.heap.size → w'.heap[b]? = w.heap[b]? ∧ Sg cx.S0 cx.w0.heap.size γ' b) → ∃ x, γ' q = some x ∧ z5y w' (Sg cx.S0 cx.w0.heap.size γ') γ' cx.w0.heap.size x e)
  (hv : ∀ w' : World, Rep w' (Sg cx.S0 cx.w0.heap.size γ') γ' av v) :
  St cx (τ.upd dst av [(id, .mpn qs), (q, e)]) (a.put dst v) { w with heap := w.heap.setIfInBounds g (.map es' qs.length) } := by
 have hgo : own γ g := ⟨id, _, hid, mem_conV.2 (Or.inl rfl)⟩
 have hgl := hst.ge g hgo
 have hothw : ∀ k, k ≠ g → ({ w with heap := w.heap.setIfInBounds g (.map es' qs.length) } : World).heap[k]? = w.heap[k]? := fun k hk => by simp [Array.getElem?_setIfInBounds, Ne.symm hk]
 have hg' : ({ w with heap := w.heap.setIfInBounds g (.map es' qs.length) } : World).heap[g]? = some (.map es' qs.length) := by simp [Array.getElem?_setIfInBounds, hlt]
 have hz' : w.heap.size ≤ ({ w with heap := w.heap.setIfInBounds g (.map es' qs.length) } : World).heap.size := by simp
 have hdr : w.drawn ≤ ({ w with heap := w.heap.setIfInBounds g (.map es' qs.length) } : World).drawn := Nat.le_refl _
 have hbel : Below cx.w0.heap.size w ({ w with heap := w.heap.setIfInBounds g (.map es' qs.length) } : World) := ⟨rfl, rfl, rfl, hz', fun k hk => hothw k (by have := hgl.1.1; omega)⟩
 generalize ({ w with heap := w.heap.setIfInBounds g (.map es' qs.length) } : World) = w' at *
 have hns : ∀ b, Sg cx.S0 cx.w0.heap.size γ b → b ≠ g := fun b hS e => by
  subst e
  rcases hS with ⟨_, h⟩ | ⟨_, h⟩
  ·have := hgl.1.1; omega
  ·exact h hgo
 have hSS : ∀ b, Sg cx.S0 cx.w0.heap.size γ b → Sg cx.S0 cx.w0.heap.size γ' b := fun b hb => hb.elim Or.inl (fun ⟨h1, h2⟩ => Or.inr ⟨h1, fun ho => h2 ((hown b).1 ho)⟩)
 have hk : ∀ b, Sg cx.S0 cx.w0.heap.size γ b → b < w.heap.size → w'.heap[b]? = w.heap[b]? ∧ Sg cx.S0 cx.w0.heap.size γ' b := fun b hS _ => ⟨hothw b (hns b hS), hSS b hS⟩
 refine ⟨γ', hst.step hd hz' hk (fun i x hx => ?_) (fun i hi => ?_) (fun i e0 hi => ?_) (fun i i' b d d' hi hi' m m' => ?_) (fun b hb => ?_) (hst.below.trans hbel) (hv w') (fun b hno _ => ⟨hothw b (fun e => hno (e ▸ hgo)), fun ho => hno ((hown b).1 ho)⟩) (fun _ => hdr)⟩
 ·by_cases h1 : i = id
  ·subst h1; rw [hid] at hx; injection hx with hx; subst hx; exact Or.inr (Or.inr (conV_turn hid'))
  ·by_cases h2 : i = q
   ·subst h2; exact Or.inr (Or.inl (hq x hx))
   ·exact Or.inl ((hoth i h1 h2).trans hx)
 ·rw [zpz hne] at hi
  by_cases h1 : i = id
  ·rw [if_pos h1] at hi; cases hi
  ·rw [if_neg h1] at hi
   by_cases h2 : i = q
   ·rw [if_pos h2] at hi; cases hi
   ·refine ⟨hoth i h1 h2, fun b d hi hm => hothw b (fun e => h1 ?_)⟩
    subst e
    exact hst.inj _ _ _ _ _ hi hid hm (mem_conV.2 (Or.inl rfl))
 ·rw [zpz hne] at hi
  by_cases h1 : i = id
  ·subst h1
   rw [if_pos rfl] at hi
   injection hi with hi
   subst hi
   refine ⟨_, hid', g, es', vs', rfl, hg', hsz, hvz, hbn, fun j h h' => (hkk j h h').mono hz' hk, hvv, fun j h' => (hnn j h').moved hz' hk (fun g1 hg1 => hothw g1 (fun e => hdb.2 j g1 (by rw [e]) hg1)), hdb⟩
  ·rw [if_neg h1] at hi
   by_cases h2 : i = q
   ·subst h2
    rw [if_pos rfl] at hi
    injection hi with hi
    subst hi
    exact he w' hz' hothw hk
   ·rw [if_neg h2] at hi; cases hi
 ·have sym : ∀ i i' d d', γ' i = some d → γ' i' = some d' → b ∈ blks d → b ∈ blks d' → i = id → i = i' := fun i i' d d' hi hi' m m' h1 => by
   subst h1
   rw [hid'] at hi
   injection hi with hi
   subst hi
   by_cases h2 : i' = i
   ·exact h2.symm
   ·by_cases h3 : i' = q
    ·subst h3; exact absurd m (hinj b d' hi' m').1
    ·rw [hoth i' h2 h3] at hi'
     exact absurd m (hsub i' d' b h2 h3 hi' m')
  by_cases h1 : i = id
  ·exact sym i i' d d' hi hi' m m' h1
  ·by_cases h2 : i' = id
   ·exact (sym i' i d' d hi' hi m' m h2).symm
   ·by_cases h3 : i = q
    ·by_cases h4 : i' = q
     ·rw [h3, h4]
     ·subst h3
      rw [hoth i' h2 h4] at hi'
      exact absurd m' ((hinj b d hi m).2 i' d' h2 h4 hi')
    ·by_cases h4 : i' = q
     ·subst h4
      rw [hoth i h1 h3] at hi
      exact absurd m ((hinj b d' hi' m').2 i d h1 h3 hi)
     ·rw [hoth i h1 h3] at hi
      rw [hoth i' h2 h4] at hi'
      exact hst.inj _ _ _ _ _ hi hi' m m'
 ·have := hst.ge b ((hown b).1 hb)
  exact ⟨this.1, Nat.lt_of_lt_of_le this.2 hz'⟩
theorem getD_push (vs : Array Value) (x : Value) (j : Nat) : (vs.push x).getD j undef = if j = vs.size then x else vs.getD j undef := by
 simp only [Array.getD_eq_getD_getElem?, Array.getElem?_push]
 by_cases h : j = vs.size
 ·rw [if_pos h, if_pos h]; rfl
 ·rw [if_neg h, if_neg h]
theorem zsf (vs : Array Value) (x : Value) (p j : Nat) (hp : p < vs.size) : (vs.setIfInBounds p x).getD j undef = if j = p then x else vs.getD j undef := by
 simp only [Array.getD_eq_getD_getElem?, Array.getElem?_setIfInBounds]
 by_cases h : j = p
 ·subst h; rw [if_pos rfl, if_pos hp, if_pos rfl]; rfl
 ·rw [if_neg h, if_neg (fun e => h e.symm)]
theorem nrep_row {w : World} {S : Nat → Prop} {B ty sz : Nat} {v : Value} {xs : List AV} (h : NRep w S B v (.row ty sz xs)) : ∃ us, w.ownsRow B ty sz v xs.length us := by
 obtain ⟨_, us, h, _⟩ := h; exact ⟨us, h⟩
theorem entry_val {γ : Gam} {τ : AS} {a : Act} {w : World} {id g ty sz p kt et T : Nat} {ps qs : List (AV × NE)} {es : Array MapEntry} {vs : Array Value} {k : AV} {vk : Value} {r : Option Nat} {xs : List AV}
  (hh : w.heap[g]? = some (.map es ps.length)) (hl : es.size = ps.length) (hsz : vs.size = ps.length) (hbn : ∀ j (h : j < es.toList.length), (es.toList[j]).born = j)
  (hkk : ∀ j (h : j < es.toList.length) (h' : j < ps.length), Rep w (Sg cx.S0 cx.w0.heap.size γ) G0 (ps[j]).1 (es.toList[j]).key) (hvv : ∀ j (h : j < es.toList.length) (h' : j < ps.length), (ps[j]).2 ≠ .hole → (es.toList[j]).val = vs.getD j undef)
  (hnn : ∀ j (h' : j < ps.length), NRep w (Sg cx.S0 cx.w0.heap.size γ) cx.w0.heap.size (vs.getD j undef) (ps[j]).2) (hdb : DisB (some g) vs) (hT : cx.P.underlying T = some (.map kt et)) (hk : z9u cx.P kt k = true) (hk0 : Rep w (Sg cx.S0 cx.w0.heap.size γ) G0 k vk) (hz : (zeroValue et).run cx.P w = .ok (.slice none 0 0) w)
  (hf : zci k (ps.map (·.1)) 0 = some r) (hent : entN ty sz k ps r = some (qs, p, xs)) :
  ∃ s es' vs', (Instr.mapEntry T (.map (some g)) vk).run cx.P w = .ok (.tuple #[s, goInt p]) { w with heap := w.heap.setIfInBounds g (.map es' qs.length) } ∧ es'.size = qs.length ∧ vs'.size = qs.length ∧ (∀ j (h : j < es'.toList.length), (es'.toList[j]).born = j) ∧
   (∀ j (h : j < es'.toList.length) (h' : j < qs.length), Rep w (Sg cx.S0 cx.w0.heap.size γ) G0 (qs[j]).1 (es'.toList[j]).key) ∧ (∀ j (h : j < es'.toList.length) (h' : j < qs.length), (qs[j]).2 ≠ .hole → (es'.toList[j]).val = vs'.getD j undef) ∧
   (∀ j (h' : j < qs.length), NRep w (Sg cx.S0 cx.w0.heap.size γ) cx.w0.heap.size (vs'.getD j undef) (qs[j]).2) ∧ NRep w (Sg cx.S0 cx.w0.heap.size γ) cx.w0.heap.size s (.row ty sz xs) ∧ DisB (some g) vs' ∧
   (∀ i b, z48 (vs'.getD i undef) = some b → z48 (vs.getD i undef) = some b) ∧ (∀ i b, z48 (vs.getD i undef) = some b → z48 s = some b ∨ z48 (vs'.getD i undef) = some b) ∧ (∀ b, z48 s = some b → (∃ j, z48 (vs.getD j undef) = some b) ∧ ∀ i, z48 (vs'.getD i undef) ≠ some b) := by
 obtain ⟨e1, e2⟩ := entry_run hT hk hk0 hh (ks := ps.map (·.1)) (by simpa using hl) (fun j h h' => by simpa using hkk j h (by simpa using h')) hz hf
 cases r with
 | none =>
   have hrun := e2 rfl
   simp only [entN, Option.some.injEq, Prod.mk.injEq] at hent
   obtain ⟨rfl, rfl, rfl⟩ := hent
   have hnone : ∀ i, i ≥ vs.size → vs.getD i undef = undef := fun i hi => by rw [Array.getD_eq_getD_getElem?, Array.getElem?_eq_none hi]; rfl
   have hb1 : ∀ i b, z48 ((vs.push .nilFunc).getD i undef) = some b ↔ z48 (vs.getD i undef) = some b := fun i b => by
    rw [getD_push]
    by_cases h : i = vs.size
    ·rw [if_pos h, h, hnone _ (Nat.le_refl _)]; simp [z48, undef]
    ·rw [if_neg h]
   refine ⟨.slice none 0 0, es.push ⟨vk, .slice none 0 0, ps.length⟩, vs.push .nilFunc, by rw [hrun, List.length_append, List.length_singleton], by simp [hl], by simp [hsz], fun j h => ?_, fun j h h' => ?_, fun j h h' hne => ?_, fun j h' => ?_, ⟨rfl, [], World.ownsRow_nil _ _ _ _, fun k hk => absurd hk (by simp), fun k hk => absurd hk (by simp), fun u hu => by cases hu⟩,
    ⟨fun i j b hi hj => hdb.1 i j b ((hb1 i b).1 hi) ((hb1 j b).1 hj), fun i b hb hi => hdb.2 i b hb ((hb1 i b).1 hi)⟩, fun i b h => (hb1 i b).1 h, fun i b h => Or.inr ((hb1 i b).2 h), fun b h => by simp [z48] at h⟩
   ·simp only [Array.toList_push, List.getElem_append]
    split
    ·exact hbn j _
    ·rename_i hnj
     have hje : j = ps.length := by simp at h hnj; omega
     simp only [List.getElem_singleton]
     exact hje.symm
   ·simp only [Array.toList_push, List.getElem_append]
    by_cases hj : j < ps.length
    ·rw [dif_pos hj, dif_pos (by simp; omega)]; exact hkk j _ _
    ·rw [dif_neg hj, dif_neg (by simp; omega)]; simpa using hk0
   ·simp only [Array.toList_push, List.getElem_append] at hne ⊢
    by_cases hj : j < ps.length
    ·rw [dif_pos hj] at hne
     rw [dif_pos (by simp; omega), getD_push, if_neg (by omega)]
     exact hvv j _ _ hne
    ·rw [dif_neg hj] at hne
     simp at hne
   ·rw [getD_push]
    by_cases hj : j < ps.length
    ·rw [if_neg (by omega), List.getElem_append_left hj]; exact hnn j hj
    ·have : j = ps.length := by simp at h'; omega
     subst this
     rw [if_pos hsz.symm, List.getElem_append_right (Nat.le_refl _)]
     simp only [Nat.sub_self, List.getElem_singleton]
     rfl
 | some j0 =>
   obtain ⟨hj0, hrun⟩ := e1 j0 rfl
   have hj0' : j0 < ps.length := by omega
   have hjt : j0 < es.toList.length := by simpa using hj0
   simp only [entN, List.getElem?_eq_getElem hj0'] at hent
   have hn0 := hnn j0 hj0'
   have hv0 := hvv j0 hjt hj0'
   have hk00 : (ps[j0]).1 = (ps[j0]).1 := rfl
   generalize hp : ps[j0] = pe at hent hn0 hv0
   obtain ⟨pk, pv⟩ := pe
   cases pv with
   | mp => simp at hent
   | hole => simp at hent
   | row ty' sz' xs' =>
     simp only at hent
     split at hent
     ·rename_i hb
      simp only [Bool.and_eq_true] at hb
      have e1 := Nat.eq_of_beq_eq_true hb.1
      have e2 := Nat.eq_of_beq_eq_true hb.2
      subst e1
      subst e2
      simp only [Option.some.injEq, Prod.mk.injEq] at hent
      obtain ⟨rfl, rfl, rfl⟩ := hent
      have hv0 := hv0 (by simp)
      have hjs : j0 < vs.size := by omega
      have hg : ∀ i, (vs.setIfInBounds j0 .nilFunc).getD i undef = if i = j0 then .nilFunc else vs.getD i undef := fun i => zsf _ _ _ _ hjs
      have hb1 : ∀ i b, z48 ((vs.setIfInBounds j0 .nilFunc).getD i undef) = some b → i ≠ j0 ∧ z48 (vs.getD i undef) = some b := fun i b h => by
       rw [hg] at h
       by_cases h' : i = j0
       ·rw [if_pos h'] at h; simp [z48] at h
       ·rw [if_neg h'] at h; exact ⟨h', h⟩
      refine ⟨vs.getD j0 undef, es.modify j0 fun e => { e with key := vk }, vs.setIfInBounds j0 .nilFunc, ?_, by simp [hl], by simp [hsz], fun j h => ?_, fun j h h' => ?_, fun j h h' hne => ?_, fun j h' => ?_, hn0,
       ⟨fun i j b hi hj => hdb.1 i j b (hb1 i b hi).2 (hb1 j b hj).2, fun i b hb hi => hdb.2 i b hb (hb1 i b hi).2⟩, fun i b h => (hb1 i b h).2, fun i b h => ?_, fun b h => ⟨⟨j0, h⟩, fun i hi => (hb1 i b hi).1 (hdb.1 _ _ _ (hb1 i b hi).2 h)⟩⟩
      ·rw [hrun, List.length_set, List.getD_eq_getElem?_getD, List.getElem?_eq_getElem hjt, Option.getD_some, hv0, hbn j0 hjt]
      ·simp only [Array.toList_modify, List.getElem_modify]
       split
       ·rename_i e; subst e; exact hbn _ hjt
       ·exact hbn j (by simpa using h)
      ·have hjp : j < ps.length := by simpa using h'
       have hje : j < es.toList.length := by simp; omega
       simp only [Array.toList_modify, List.getElem_modify, List.getElem_set]
       by_cases hjj : j0 = j
       ·rw [if_pos hjj, if_pos hjj]; exact hk0
       ·rw [if_neg hjj, if_neg hjj]; exact hkk j hje hjp
      ·have hjp : j < ps.length := by simpa using h'
       have hje : j < es.toList.length := by simp; omega
       simp only [List.getElem_set] at hne
       by_cases hjj : j0 = j
       ·rw [if_pos hjj] at hne; simp at hne
       ·rw [if_neg hjj] at hne
        simp only [Array.toList_modify, List.getElem_modify]
        rw [if_neg hjj, hg, if_neg (fun e => hjj e.symm)]
        exact hvv j hje hjp hne
      ·have hjp : j < ps.length := by simpa using h'
       rw [hg]
       simp only [List.getElem_set]
       by_cases hjj : j0 = j
       ·rw [if_pos hjj, if_pos hjj.symm]; rfl
       ·rw [if_neg hjj, if_neg (fun e => hjj e.symm)]; exact hnn j hjp
      ·rw [hg]
       by_cases h' : i = j0
       ·subst h'; exact Or.inl h
       ·rw [if_neg h']; exact Or.inr h
     ·cases hent
theorem r_mapEntry_n {T kt et id d ty sz p : Nat} {x y : Operand} {i ie : TyI} {k : AV} {ps qs : List (AV × NE)} {xs : List AV} {r : Option Nat} (ho : o.op = .mapEntry T x y) (hdst : o.dst = some d) (hd : dok cx o = true) (hxo : z0o x = true) (hyo : z0o y = true) (hx : σ.eval x = .der .con id) (hy : σ.eval y = k) (hl : σ.find id = some (.mpn ps)) (hn : σ.find d = none) (hne : id ≠ d)
  (hT : lkT cx.E.tab T = some i) (hs : i.shape = .map kt et) (he : lkT cx.E.tab et = some ie) (hz : ie.zero = .slice none 0 0) (hk : z9u cx.P kt k = true) (hf : zci k (ps.map (·.1)) 0 = some r) (hent : entN ty sz k ps r = some (qs, p, xs)) : z0u cx o σ (.tup [.row d, .int .i64 (p : Int)]) [id, d] [(id, .mpn qs), (d, .row ty sz xs)] := by
 refine ⟨fun i e he => lkE_two he, fun τ h1 h2 a w Q K ⟨γ, hst⟩ hK => zgb (fun c hc => by rw [ho] at hc; cases hc) ?_⟩
 have ex := hst.ev x hxo
 rw [h1 x (by simp [ho, Op.operands]), hx] at ex
 have ey := hst.ev y hyo
 rw [h1 y (by simp [ho, Op.operands]), hy] at ey
 obtain ⟨g, es, vs, hg, hv, hh, hl', hsz, hbn, hkk, hvv, hnn, hdb⟩ := mpn_val hst (by rw [h2 id (by simp)]; exact hl) ex
 have hT' := und_map (cx.E.ok T i hT) hs
 have hk0 := ey.flat (w' := w) (S' := Sg cx.S0 cx.w0.heap.size γ) (γ' := G0) (zlk hk)
 have hzr := (cx.E.ok et ie he).zeroV w
 rw [hz] at hzr
 obtain ⟨s, es', vs', hrun, c1, c2, c3, c4, c5, c6, c7, c8, c9, c10, c11⟩ := entry_val (τ := τ) (a := a) (id := id) hh hl' hsz hbn hkk hvv hnn hdb hT' hk hk0 hzr hf hent
 have hex : (execOp a.eval o).run cx.P w = .ok (.value (.tuple #[s, goInt p])) { w with heap := w.heap.setIfInBounds g (.map es' qs.length) } := by
  simp only [execOp, ho, hv, Sem.run_bind, hrun, Result.andThen_ok, Sem.run_pure]
 unfold Oper.wp
 rw [hex]
 have hγd : γ d = none := by have := hst.me d; rw [h2 d (by simp), hn] at this; exact this
 obtain ⟨us, hou⟩ := nrep_row c7
 obtain ⟨ob1, ob2⟩ := zre hou
 let γ' : Gam := fun i => if i = id then some (conV g vs') else if i = d then some (some (s.ownBlock, s)) else γ i
 have g1 : γ' id = some (conV g vs') := if_pos rfl
 have g2 : γ' d = some (some (s.ownBlock, s)) := by show (if d = id then _ else if d = d then _ else _) = _; rw [if_neg (Ne.symm hne), if_pos rfl]
 have g3 : ∀ i, i ≠ id → i ≠ d → γ' i = γ i := fun i h1 h2 => by show (if i = id then _ else if i = d then _ else _) = _; rw [if_neg h1, if_neg h2]
 have bl : ∀ i d' b, i ≠ id → γ i = some d' → b ∈ blks d' → b ≠ g ∧ ∀ j, z48 (vs.getD j undef) ≠ some b := fun i d' b hi hγi hb =>
  ⟨fun e => hi (hst.inj _ _ _ _ _ hγi hg hb (mem_conV.2 (Or.inl e))), fun j hj => hi (hst.inj _ _ _ _ _ hγi hg hb (mem_conV.2 (Or.inr ⟨j, hj⟩)))⟩
 refine hK _ _ (con_step (γ' := γ') (q := d) hst (z4w hd) hne hg g1 g3 (fun x hx => by rw [hγd] at hx; cases hx) (fun b => ⟨fun ⟨i, x, hi, hb⟩ => ?_, fun ⟨i, x, hi, hb⟩ => ?_⟩) (fun b x hx hb => ?_) (fun i d' b h1 h2 hi hb hc => ?_) c1 c2 c3 c4 c5 c6 c8 (by rcases Nat.lt_or_ge g w.heap.size with h | h; exact h; rw [Array.getElem?_eq_none h] at hh; cases hh) (fun w' hz' ho' hk' => ?_) (fun w' => ?_))
 ·by_cases h1 : i = id
  ·subst h1
   rw [g1] at hi; injection hi with hi; subst hi
   rcases mem_conV.1 hb with hb | ⟨j, hb⟩
   ·exact ⟨_, _, hg, mem_conV.2 (Or.inl hb)⟩
   ·exact ⟨_, _, hg, mem_conV.2 (Or.inr ⟨j, c9 j b hb⟩)⟩
  ·by_cases h2 : i = d
   ·subst h2
    rw [g2] at hi; injection hi with hi; subst hi
    exact ⟨_, _, hg, mem_conV.2 (Or.inr (c11 b ((za4 ob1 ob2).1 hb)).1)⟩
   ·rw [g3 i h1 h2] at hi; exact ⟨i, x, hi, hb⟩
 ·by_cases h1 : i = id
  ·subst h1
   rw [hg] at hi; injection hi with hi; subst hi
   rcases mem_conV.1 hb with hb | ⟨j, hb⟩
   ·exact ⟨_, _, g1, mem_conV.2 (Or.inl hb)⟩
   ·rcases c10 j b hb with h | h
    ·exact ⟨_, _, g2, (za4 ob1 ob2).2 h⟩
    ·exact ⟨_, _, g1, mem_conV.2 (Or.inr ⟨j, h⟩)⟩
  ·by_cases h2 : i = d
   ·subst h2; rw [hγd] at hi; cases hi
   ·exact ⟨i, x, (g3 i h1 h2).trans hi, hb⟩
 ·rw [g2] at hx; injection hx with hx; subst hx
  have hbs := (za4 ob1 ob2).1 hb
  obtain ⟨⟨j, hj⟩, hno⟩ := c11 b hbs
  refine ⟨fun h => ?_, fun i d' h1 h2 hi hm => (bl i d' b h1 hi hm).2 j hj⟩
  rcases mem_conV.1 h with h | ⟨i, h⟩
  ·subst h; exact hdb.2 j b rfl hj
  ·exact hno i h
 ·obtain ⟨q1, q2⟩ := bl i d' b h1 hi hb
  rcases mem_conV.1 hc with h | ⟨j, h⟩
  ·exact q1 h
  ·exact q2 j (c9 j b h)
 ·obtain ⟨q1, us', q2, q3, q4, q5⟩ := c7
  refine ⟨_, g2, s, us', rfl, q1, q2.moved (fun b hb => ho' b (fun e => ?_)), q3, fun k hk j hj => (q4 k hk j hj).mono hz' hk', q5⟩
  subst e
  obtain ⟨⟨j, hj⟩, _⟩ := c11 b hb
  exact hdb.2 j b rfl hj
 ·refine .tup #[s, goInt p] rfl (fun j hj => ?_)
  have hj : j < 2 := hj
  rcases j with _ | _ | j
  ·exact .row g2 (fun g s e _ => by injection e with e; injection e with _ e)
  ·exact .int _ _
  ·omega
theorem run_entryStore {P : Program} {w : World} {T : TypeId} {g p clock : Nat} {es : Array MapEntry} {s : Value} (hh : w.heap[g]? = some (.map es clock)) (hbn : ∀ j (h : j < es.toList.length), (es.toList[j]).born = j) (hp : p < es.size) (kd : IntKind) :
  (Instr.entryStore T (.map (some g)) (.int kd (p : Int)) s).run P w = .ok () { w with heap := w.heap.setIfInBounds g (.map (es.modify p fun e => { e with val := s }) clock) } := by
 have hb : ∀ j (h : j < es.size), es[j].born = j := fun j h => by have := hbn j (by simpa using h); rwa [Array.getElem_toList] at this
 have hfi : es.findIdx? (fun e => (e.born : Int) == (p : Int)) = some p := by
  rw [Array.findIdx?_eq_some_iff_getElem]
  refine ⟨hp, by simp [hb p hp], fun j hj => ?_⟩
  simp [hb j (by omega)]
  omega
 simp [Instr.entryStore, MapKept.run_getObj_map hh, asInt, asIntOf, hfi, MapKept.run_setObj_map _ hh, Result.andThen]
theorem r_entryStore_n {T id q ty sz p : Nat} {x y z : Operand} {k : AV} {kd : IntKind} {ps : List (AV × NE)} {xs : List AV} (ho : o.op = .entryStore T x y z) (hd : dok cx o = true) (hxo : z0o x = true) (hyo : z0o y = true) (hzo : z0o z = true) (hx : σ.eval x = .der .con id) (hy : σ.eval y = .int kd (p : Int)) (hz : σ.eval z = .row q) (hl : σ.find id = some (.mpn ps)) (hq : σ.find q = some (.row ty sz xs)) (hne : id ≠ q)
  (hp : ps[p]? = some (k, .hole)) : z0u cx o σ (.tup []) [id, q] [(id, .mpn (ps.set p (k, .row ty sz xs))), (q, .dead)] := by
 refine ⟨fun i e he => lkE_two he, fun τ h1 h2 a w Q K ⟨γ, hst⟩ hK => zgb (fun c hc => by rw [ho] at hc; cases hc) ?_⟩
 have ex := hst.ev x hxo
 rw [h1 x (by simp [ho, Op.operands]), hx] at ex
 have ey := hst.ev y hyo
 rw [h1 y (by simp [ho, Op.operands]), hy] at ey
 have ez := hst.ev z hzo
 rw [h1 z (by simp [ho, Op.operands]), hz] at ez
 obtain ⟨g, es, vs, hg, hv, hh, hl', hsz, hbn, hkk, hvv, hnn, hdb⟩ := mpn_val hst (by rw [h2 id (by simp)]; exact hl) ex
 obtain ⟨s, us, hγq, hone1, hown, hlen, hr, hone⟩ := zrc (id := q) hst (by rw [h2 q (by simp)]; exact hq)
 obtain ⟨ob1, ob2⟩ := zre hown
 obtain ⟨hpl, hpe⟩ := List.getElem?_eq_some_iff.1 hp
 have hps : p < vs.size := by omega
 have hrun := run_entryStore (P := cx.P) (T := T) (s := s) hh hbn (by omega : p < es.size) kd
 have hex : (execOp a.eval o).run cx.P w = .ok .skip { w with heap := w.heap.setIfInBounds g (.map (es.modify p fun e => { e with val := s }) (ps.set p (k, NE.row ty sz xs)).length) } := by
  simp only [execOp, ho, hv, ey.int_inv, ez.row_inv hγq, Sem.run_bind, hrun, Result.andThen_ok, Sem.run_pure, List.length_set]
 unfold Oper.wp
 rw [hex]
 have hgt : ∀ i, (vs.setIfInBounds p s).getD i undef = if i = p then s else vs.getD i undef := fun i => zsf _ _ _ _ hps
 have bl : ∀ i d' b, i ≠ id → γ i = some d' → b ∈ blks d' → b ≠ g ∧ ∀ j, z48 (vs.getD j undef) ≠ some b := fun i d' b hi hγi hb =>
  ⟨fun e => hi (hst.inj _ _ _ _ _ hγi hg hb (mem_conV.2 (Or.inl e))), fun j hj => hi (hst.inj _ _ _ _ _ hγi hg hb (mem_conV.2 (Or.inr ⟨j, hj⟩)))⟩
 have hsb : ∀ b, z48 s = some b → b ≠ g ∧ ∀ j, z48 (vs.getD j undef) ≠ some b := fun b hb => bl q _ b (Ne.symm hne) hγq ((za4 ob1 ob2).2 hb)
 have hpo : ∀ b, z48 (vs.getD p undef) ≠ some b := fun b hb => by
  have := hnn p hpl
  rw [hpe] at this
  have this : vs.getD p undef = .nilFunc := this
  rw [this] at hb
  simp [z48] at hb
 let γ' : Gam := fun i => if i = id then some (conV g (vs.setIfInBounds p s)) else if i = q then some none else γ i
 have g1 : γ' id = some (conV g (vs.setIfInBounds p s)) := if_pos rfl
 have g2 : γ' q = some none := by show (if q = id then _ else if q = q then _ else _) = _; rw [if_neg (Ne.symm hne), if_pos rfl]
 have g3 : ∀ i, i ≠ id → i ≠ q → γ' i = γ i := fun i h1 h2 => by show (if i = id then _ else if i = q then _ else _) = _; rw [if_neg h1, if_neg h2]
 refine hK _ _ (con_step (γ' := γ') (q := q) (vs' := vs.setIfInBounds p s) hst (z4w hd) hne hg g1 g3 (fun x hx => g2) (fun b => ⟨fun ⟨i, x, hi, hb⟩ => ?_, fun ⟨i, x, hi, hb⟩ => ?_⟩) (fun b x hx hb => ?_) (fun i d' b h1 h2 hi hb hc => ?_) (by simp [hl']) (by simp [hsz]) (fun j h => ?_) (fun j h h' => ?_) (fun j h h' hne' => ?_) (fun j h' => ?_) ⟨fun i j b hi hj => ?_, fun i b hb hi => ?_⟩
  (by rcases Nat.lt_or_ge g w.heap.size with h | h; exact h; rw [Array.getElem?_eq_none h] at hh; cases hh) (fun w' hz' ho' hk' => ⟨_, g2, rfl⟩) (fun w' => .tup #[] rfl (fun j hj => absurd hj (by simp))))
 ·by_cases h1 : i = id
  ·subst h1
   rw [g1] at hi; injection hi with hi; subst hi
   rcases mem_conV.1 hb with hb | ⟨j, hb⟩
   ·exact ⟨_, _, hg, mem_conV.2 (Or.inl hb)⟩
   ·rw [hgt] at hb
    by_cases hjp : j = p
    ·rw [if_pos hjp] at hb; exact ⟨_, _, hγq, (za4 ob1 ob2).2 hb⟩
    ·rw [if_neg hjp] at hb; exact ⟨_, _, hg, mem_conV.2 (Or.inr ⟨j, hb⟩)⟩
  ·by_cases h2 : i = q
   ·subst h2; rw [g2] at hi; injection hi with hi; subst hi; cases hb
   ·rw [g3 i h1 h2] at hi; exact ⟨i, x, hi, hb⟩
 ·by_cases h1 : i = id
  ·subst h1
   rw [hg] at hi; injection hi with hi; subst hi
   rcases mem_conV.1 hb with hb | ⟨j, hb⟩
   ·exact ⟨_, _, g1, mem_conV.2 (Or.inl hb)⟩
   ·refine ⟨_, _, g1, mem_conV.2 (Or.inr ⟨j, ?_⟩)⟩
    rw [hgt, if_neg (fun e => by subst e; exact hpo b hb)]
    exact hb
  ·by_cases h2 : i = q
   ·subst h2
    rw [hγq] at hi; injection hi with hi; subst hi
    exact ⟨_, _, g1, mem_conV.2 (Or.inr ⟨p, by rw [hgt, if_pos rfl]; exact (za4 ob1 ob2).1 hb⟩)⟩
   ·exact ⟨i, x, (g3 i h1 h2).trans hi, hb⟩
 ·rw [g2] at hx; injection hx with hx; subst hx; cases hb
 ·obtain ⟨q1, q2⟩ := bl i d' b h1 hi hb
  rcases mem_conV.1 hc with h | ⟨j, h⟩
  ·exact q1 h
  ·rw [hgt] at h
   by_cases hjp : j = p
   ·rw [if_pos hjp] at h
    exact h2 (hst.inj _ _ _ _ _ hi hγq hb ((za4 ob1 ob2).2 h))
   ·rw [if_neg hjp] at h; exact q2 j h
 ·simp only [Array.toList_modify, List.getElem_modify]
  split
  ·rename_i e; subst e; exact hbn _ _
  ·exact hbn j (by simpa using h)
 ·have hjp : j < ps.length := by simpa using h'
  have hje : j < es.toList.length := by simp; omega
  have hkj := hkk j hje hjp
  simp only [Array.toList_modify, List.getElem_modify, List.getElem_set]
  by_cases hjj : p = j
  ·subst hjj
   rw [if_pos rfl, if_pos rfl]
   rw [hpe] at hkj
   exact hkj
  ·rw [if_neg hjj, if_neg hjj]; exact hkj
 ·have hjp : j < ps.length := by simpa using h'
  have hje : j < es.toList.length := by simp; omega
  simp only [List.getElem_set] at hne'
  simp only [Array.toList_modify, List.getElem_modify]
  rw [hgt]
  by_cases hjj : p = j
  ·subst hjj; rw [if_pos rfl, if_pos rfl]
  ·rw [if_neg hjj] at hne'
   rw [if_neg hjj, if_neg (fun e => hjj e.symm)]
   exact hvv j hje hjp hne'
 ·have hjp : j < ps.length := by simpa using h'
  rw [hgt]
  simp only [List.getElem_set]
  by_cases hjj : p = j
  ·subst hjj
   rw [if_pos rfl, if_pos rfl]
   exact ⟨hone1, us, hown, hlen, hr, hone⟩
  ·rw [if_neg hjj, if_neg (fun e => hjj e.symm)]; exact hnn j hjp
 ·rw [hgt] at hi hj
  by_cases h1 : i = p
  ·by_cases h2 : j = p
   ·rw [h1, h2]
   ·rw [if_pos h1] at hi; rw [if_neg h2] at hj; exact absurd hj ((hsb b hi).2 j)
  ·by_cases h2 : j = p
   ·rw [if_neg h1] at hi; rw [if_pos h2] at hj; exact absurd hi ((hsb b hj).2 i)
   ·rw [if_neg h1] at hi; rw [if_neg h2] at hj; exact hdb.1 i j b hi hj
 ·rw [hgt] at hi
  by_cases h1 : i = p
  ·rw [if_pos h1] at hi; injection hb with hb; exact (hsb b hi).1 hb.symm
  ·rw [if_neg h1] at hi; exact hdb.2 i b hb hi
end
end Go.Proofs.YtjpknpjjcddnnaaGreat
namespace Go.Proofs.YtjpknpjjcddnnaaGreat
open Go.RowKit
def AV.leafId : AV → Option Nat
 | .row i => some i
 | .ptr i _ => some i
 | .elt i _ _ _ => some i
 | .der _ i => some i
 | .cont _ i => some i
 | _ => none
def AV.rp0 (r : Nat) (src : AV → Bool) (tgt x : AV) : AV := match x.leafId with
 | some i => match Nat.beq i r with
   | true => match src x with
     | true => tgt
     | false => .any
   | false => x
 | none => x
mutual
def AV.rp (r : Nat) (src : AV → Bool) (tgt : AV) : AV → AV
 | .fn f cap => .fn f (AV.rpL r src tgt cap)
 | .yld l T cap => .yld l T (AV.rpL r src tgt cap)
 | .agg cs => .agg (AV.rpL r src tgt cs)
 | .tup cs => .tup (AV.rpL r src tgt cs)
 | x => AV.rp0 r src tgt x
def AV.rpL (r : Nat) (src : AV → Bool) (tgt : AV) : List AV → List AV
 | [] => []
 | x :: l => AV.rp r src tgt x :: AV.rpL r src tgt l
end
section
variable {r : Nat} {src : AV → Bool} {tgt : AV}
theorem AV.rpL_length (l : List AV) : (AV.rpL r src tgt l).length = l.length := by
 induction l with
 | nil => rfl
 | cons x l ih => simp [AV.rpL, ih]
theorem AV.rpL_at (l : List AV) (i : Nat) (hi : i < l.length) : (AV.rpL r src tgt l)[i]'(by rw [AV.rpL_length]; exact hi) = AV.rp r src tgt l[i] := by
 induction l generalizing i with
 | nil => simp at hi
 | cons x l ih =>
   cases i with
   | zero => rfl
   | succ i => exact ih i (by simpa using hi)
theorem Rep.rp {w : World} {S : Nat → Prop} {γ γ' : Gam} (hγ : ∀ i x, i ≠ r → γ i = some x → γ' i = some x) (ht : ∀ x v, src x = true → x.leafId = some r → Rep w S γ x v → Rep w S γ' tgt v) {av : AV} {v : Value} (h : Rep w S γ av v) : Rep w S γ' (AV.rp r src tgt av) v := by
 have leaf : ∀ {x : AV} {v : Value} {i : Nat}, x.leafId = some i → Rep w S γ x v → (∀ h : i ≠ r, Rep w S γ' x v) → Rep w S γ' (AV.rp0 r src tgt x) v := fun {x v i} hx h ho => by
  simp only [AV.rp0, hx]
  cases hb : Nat.beq i r with
  | true =>
    have := Nat.eq_of_beq_eq_true hb
    subst this
    simp only
    cases hs : src x with
    | true => exact ht x v hs hx h
    | false => exact .any _
  | false => exact ho (Nat.ne_of_beq_eq_false hb)
 induction h with
 | any => exact .any _
 | int => exact .int _ _
 | bool => exact .bool _
 | str => exact .str _
 | nilp => exact .nilp
 | nils => exact .nils
 | nilf => exact .nilf
 | @ptr γ id off v d' h hv => exact leaf rfl (.ptr h hv) (fun hi => .ptr (hγ _ _ hi h) hv)
 | @elt γ id sz k j v d' h hv => exact leaf rfl (.elt h hv) (fun hi => .elt (hγ _ _ hi h) hv)
 | @der γ φ id v d' h hv => exact leaf rfl (.der h hv) (fun hi => .der (hγ _ _ hi h) hv)
 | @row γ id v d' h hv => exact leaf rfl (.row h hv) (fun hi => .row (hγ _ _ hi h) hv)
 | mapv g es clock hS hg hh hl hk hv ih1 ih2 => exact .mapv g es clock hS hg hh hl hk hv
 | slen A n c => exact .slen A n c
 | @cont γ n id v d' h hv hl => exact leaf rfl (.cont h hv hl) (fun hi => .cont (hγ _ _ hi h) hv hl)
 | sl A c cell hc hlen hb hr2 h1 ih => exact .sl A c cell hc hlen hb hr2 h1
 | ref b off cell hS hb hc hr2 h1 ih => exact .ref b off cell hS hb hc hr2 h1
 | fn vs hl hrr ih =>
   exact .fn vs (by rw [hl, AV.rpL_length]) (fun i hi' => by
    have hi2 := hi'
    rw [AV.rpL_length] at hi2
    rw [AV.rpL_at _ i hi2]
    exact ih i hi2 hγ ht leaf)
 | yld hrr ih =>
   exact .yld (fun i hi' => by
    have hi2 := hi'
    rw [AV.rpL_length] at hi2
    rw [AV.rpL_at _ i hi2]
    exact ih i hi2 hγ ht leaf)
 | agg vs hl hrr h1 ih =>
   exact .agg vs (by rw [hl, AV.rpL_length]) (fun i hi' => by
    have hi2 := hi'
    rw [AV.rpL_length] at hi2
    rw [AV.rpL_at _ i hi2]
    exact ih i hi2 hγ ht leaf) h1
 | tup vs hl hrr ih =>
   exact .tup vs (by rw [hl, AV.rpL_length]) (fun i hi' => by
    have hi2 := hi'
    rw [AV.rpL_length] at hi2
    rw [AV.rpL_at _ i hi2]
    exact ih i hi2 hγ ht leaf)
end
def Ent.rp (r : Nat) (src : AV → Bool) (tgt : AV) : Ent → Ent
 | .box ty cs => .box ty (AV.rpL r src tgt cs)
 | e => e
def AS.rpAll (σ : AS) (r : Nat) (src : AV → Bool) (tgt : AV) (e : Ent) : AS := ⟨σ.tm.map fun p => (p.1, AV.rp r src tgt p.2), (r, e) :: σ.me.map fun p => (p.1, p.2.rp r src tgt)⟩
theorem z5y.free {w : World} {S : Nat → Prop} {γ γ' : Gam} {B : Nat} {d : Option (Option Nat × Value)} {e : Ent} (h : z5y w S γ B d e) (hb : ∀ ty cs, e ≠ .box ty cs) : z5y w S γ' B d e := by
 cases e with
 | box ty cs => exact absurd rfl (hb ty cs)
 | _ => exact h
theorem LeX.rpAll {E : Env} {nt : Nat} {σ : AS} (r : Nat) (src : AV → Bool) (tgt : AV) (e e' : Ent) (hr : σ.find r = some e) (he' : ∀ ty cs, e' ≠ .box ty cs)
  (H : ∀ (cx : Cx) (γ : Gam) (a : Act) (w : World) (d : Option (Option Nat × Value)), StG cx γ σ a w → γ r = some d → z5y w (Sg cx.S0 cx.w0.heap.size γ) γ cx.w0.heap.size d e → ∃ d', (∀ b, b ∈ blks d' → b ∈ blks d) ∧ ∀ S' : Nat → Prop, (∀ b, Sg cx.S0 cx.w0.heap.size γ b → S' b) → (∀ b, b ∈ blks d → b ∉ blks d' → S' b) →
    z5y w S' G0 cx.w0.heap.size d' e' ∧ ∀ γ' x v, γ' r = some d' → src x = true → x.leafId = some r → Rep w S' γ x v → Rep w S' γ' tgt v) : LeX E nt σ (σ.rpAll r src tgt e') := fun cx hE hn a w ⟨γ, h⟩ => by
 have hme := h.me r
 rw [hr] at hme
 obtain ⟨d, hd, he⟩ := hme
 obtain ⟨d', hsub, H⟩ := H cx γ a w d h hd he
 have hown : ∀ b, own (γ.set r d') b → own γ b := fun b ⟨i, s, hi, hm⟩ => by
  by_cases hir : i = r
  ·subst hir; rw [Gam.set_self] at hi; injection hi with hi; subst hi; exact ⟨_, _, hd, hsub b hm⟩
  ·rw [Gam.set_ne _ _ _ hir] at hi; exact ⟨i, s, hi, hm⟩
 have hS : ∀ b, Sg cx.S0 cx.w0.heap.size γ b → Sg cx.S0 cx.w0.heap.size (γ.set r d') b := fun b hb => hb.elim Or.inl (fun ⟨h1, h2⟩ => Or.inr ⟨h1, fun ho => h2 (hown b ho)⟩)
 obtain ⟨H1, H2⟩ := H (Sg cx.S0 cx.w0.heap.size (γ.set r d')) hS (fun b hb hb' => Or.inr ⟨(h.ge b ⟨_, _, hd, hb⟩).1, fun ⟨i, s, hi, hm⟩ => by
  by_cases hir : i = r
  ·subst hir; rw [Gam.set_self] at hi; injection hi with hi; subst hi; exact hb' hm
  ·rw [Gam.set_ne _ _ _ hir] at hi; exact hir (h.inj _ _ _ _ _ hi hd hm hb)⟩)
 have mv : ∀ {av v}, Rep w (Sg cx.S0 cx.w0.heap.size γ) γ av v → Rep w (Sg cx.S0 cx.w0.heap.size (γ.set r d')) (γ.set r d') (AV.rp r src tgt av) v := fun hv =>
  (hv.mono (Nat.le_refl _) (fun b hb _ => ⟨rfl, hS b hb⟩)).rp (src := src) (fun i x hi hx => by rw [Gam.set_ne _ _ _ hi]; exact hx) (fun x v hs hl hx => H2 _ x v (Gam.set_self _ _ _) hs hl hx)
 refine ⟨γ.set r d', fun u => ?_, fun i => ?_, fun i j b s s' hi hj mi mj => ?_, fun b hb => h.ge b (hown b hb), h.below, h.size, h.defers.gam hown, h.gh, fun b hb => by obtain ⟨f2, f3, f4⟩ := h.fr b hb; exact ⟨fun ho => f2 (hown b ho), f3, f4⟩, h.dr⟩
 ·have e : (σ.rpAll r src tgt e').get u = AV.rp r src tgt (σ.get u) := lkV_map _ rfl _ _
  rw [e]
  exact mv (h.tm u)
 ·by_cases hi : r = i
  ·subst hi
   have e : (σ.rpAll r src tgt e').find r = some e' := by simp [AS.rpAll, AS.find, lkE]
   rw [e]
   exact ⟨d', Gam.set_self _ _ _, H1.free he'⟩
  ·have e : (σ.rpAll r src tgt e').find i = (σ.find i).map (Ent.rp r src tgt) := by
    unfold AS.rpAll AS.find
    simp only [lkE]
    cases hb : Nat.beq r i with
    | true => exact absurd (Nat.eq_of_beq_eq_true hb) hi
    | false => exact lkE_map _ _ _
   rw [e, Gam.set_ne _ _ _ (Ne.symm hi)]
   have := h.me i
   cases hf : σ.find i with
   | none => rw [hf] at this; exact this
   | some en =>
     rw [hf] at this
     obtain ⟨x, hx, he⟩ := this
     have heq : ∀ en : Ent, (∀ ty cs, en ≠ .box ty cs) → z5y w (Sg cx.S0 cx.w0.heap.size γ) γ cx.w0.heap.size x en → z5y w (Sg cx.S0 cx.w0.heap.size (γ.set r d')) (γ.set r d') cx.w0.heap.size x en := fun en hb he =>
      (he.move (γ' := γ) (Nat.le_refl _) (fun b hb _ => ⟨rfl, hS b hb⟩) (fun id d h => Or.inl h) (fun _ _ => rfl)).free hb
     cases en with
     | box ty cs =>
       obtain ⟨g, vs, h1, h2, h3, h4, h5⟩ := he
       exact ⟨x, hx, g, vs, h1, h2, by rw [h3, AV.rpL_length], fun i hi => by
        have hi2 := hi
        rw [AV.rpL_length] at hi2
        rw [AV.rpL_at _ i hi2]
        exact mv (h4 i hi2), h5⟩
     | _ => exact ⟨x, hx, heq _ (fun ty cs h => by cases h) he⟩
 ·by_cases hir : i = r
  ·by_cases hjr : j = r
   ·rw [hir, hjr]
   ·subst hir
    rw [Gam.set_self] at hi
    injection hi with hi
    subst hi
    rw [Gam.set_ne _ _ _ hjr] at hj
    exact h.inj _ _ _ _ _ hd hj (hsub b mi) mj
  ·rw [Gam.set_ne _ _ _ hir] at hi
   by_cases hjr : j = r
   ·subst hjr
    rw [Gam.set_self] at hj
    injection hj with hj
    subst hj
    exact h.inj _ _ _ _ _ hi hd mi (hsub b mj)
   ·rw [Gam.set_ne _ _ _ hjr] at hj
    exact h.inj _ _ _ _ _ hi hj mi mj
end Go.Proofs.YtjpknpjjcddnnaaGreat
namespace Go.Proofs.YtjpknpjjcddnnaaGreat
open Go.RowKit
section
variable {α β κ ν : Type}
def nle (n : Int) (len : Nat) (k : Nat → Option β) : Option β := if 0 ≤ n ∧ n.toNat ≤ len then k n.toNat else none
def gle (a b : Nat) (x : Option β) : Option β := if a ≤ b then x else none
def clr (l : List α) (lo : Nat) (z : α) (k : List α → Option β) : Option β := if lo ≤ l.length then k (clrL l lo z) else none
def rget [DecidableEq κ] (l : List (κ × List ν)) (k : κ) : List ν := (mlk l k).getD []
def men [DecidableEq κ] (l : List (κ × List ν)) (k : κ) (c : List ν → Option β) : Option β := c (rget l k)
def lkn [DecidableEq κ] (l : List (κ × List ν)) (k : κ) (c : Option β) : Option β := c
def mes [DecidableEq κ] (l : List (κ × List ν)) (k : κ) (v : List ν) (c : List (κ × List ν) → Option β) : Option β := c (mput l k v)
def frn (r : Nat) (x : Option β) : Option β := x
def kpos [DecidableEq κ] : List (κ × List ν) → κ → Nat
 | [], _ => 0
 | (a, _) :: r, k => if k = a then 0 else kpos r k + 1
def encN (ek : κ → AV) (er : ν → AV) (ty sz : Nat) (p : κ × List ν) : AV × NE := (ek p.1, .row ty sz (p.2.map er))
def holeN [DecidableEq κ] (ek : κ → AV) (er : ν → AV) (ty sz : Nat) (l : List (κ × List ν)) (k : κ) : List (AV × NE) := ((mput l k []).map (encN ek er ty sz)).set (kpos l k) (ek k, .hole)
theorem findK_n [DecidableEq κ] (ek : κ → AV) (he : ∀ a b, eqK (ek a) (ek b) = some (decide (a = b))) (k : κ) : ∀ (l : List (κ × List ν)) (i : Nat),
  ∃ r, zci (ek k) (l.map fun p => ek p.1) i = some r ∧ (r = none → mlk l k = none ∧ kpos l k = l.length ∧ ∀ v, mput l k v = l ++ [(k, v)]) ∧
   ∀ j, r = some j → i ≤ j ∧ j - i < l.length ∧ kpos l k = j - i ∧ ∃ v, mlk l k = some v ∧ l[j - i]? = some (k, v) ∧ ∀ v', mput l k v' = l.set (j - i) (k, v')
 | [], i => ⟨none, rfl, fun _ => ⟨rfl, rfl, fun v => rfl⟩, fun j h => by cases h⟩
 | (a, v) :: r, i => by
   simp only [List.map_cons, zci, he, mlk, mput, kpos]
   by_cases hk : k = a
   ·subst hk
    simp only [decide_true]
    refine ⟨some i, rfl, (fun h => by cases h), fun j hj => ?_⟩
    injection hj with hj
    subst hj
    refine ⟨Nat.le_refl _, by simp, by simp, v, by simp, by simp, fun v' => by simp⟩
   ·rw [decide_eq_false hk]
    obtain ⟨q, h1, h2, h3⟩ := findK_n ek he k r (i + 1)
    refine ⟨q, h1, fun hq => ?_, fun j hj => ?_⟩
    ·obtain ⟨g1, g2, g3⟩ := h2 hq
     simp only [if_neg hk, g1, g2, g3, List.length_cons, List.cons_append]
     simp
    ·obtain ⟨g1, g2, g3, v', g4, g5, g6⟩ := h3 j hj
     have e : j - i = (j - (i + 1)) + 1 := by omega
     refine ⟨by omega, by simp; omega, by rw [if_neg hk, g3, e], v', by rw [if_neg hk]; exact g4, by rw [e, List.getElem?_cons_succ]; exact g5, fun v'' => by rw [if_neg hk, g6, e, List.set_cons_succ]⟩
end
section
variable {α β κ ν : Type} {E : Env} {nt : Nat} {o : Oper} {σ : AS} {K : OpK}
theorem OpX.sub {n : Int} {k : Nat → Option β} {r : β} {T id e esz eb ty : Nat} {x y : Operand} {i : TyI} {kd : IntKind} {xs : List AV} (hF : nle n xs.length k = some r) (ho : o.op = .slice T x (some y) none none) (hd : dokN E nt o.dst = true) (hxo : z0o x = true) (hyo : z0o y = true) (hx : σ.eval x = .row id) (hy : σ.eval y = .int kd n)
  (hT : lkT E.tab T = some i) (hs : i.shape = .slc e esz eb) (hz : Nat.beq esz 0 = false) (hl : σ.find id = some (.row ty esz xs)) (hk : ∀ m, k m = some r → K (.der (.sub esz m) id) [id] []) : OpX E nt o σ K := by
 unfold nle at hF
 split at hF
 ·rename_i hn
  exact .mk _ _ _ (fun cx hE hnt => r_slice_sub (lo := n.toNat) ho (z0y hd hE hnt) hxo hyo hx (by rw [hy]; congr 1; omega) (by rw [hE]; exact hT) hs (nbne hz) hl hn.2) (hk _ hF)
 ·cases hF
theorem OpX.lns {c : Option β} {r : β} {T id e esz eb ty sz lo : Nat} {x : Operand} {i : TyI} {xs : List AV} (hF : gle lo xs.length c = some r) (ho : o.op = .call { callee := .builtin .len, args := #[x], argTypes := #[T] }) (hd : dokN E nt o.dst = true) (hxo : z0o x = true) (hx : σ.eval x = .der (.sub sz lo) id) (hl : σ.find id = some (.row ty sz xs)) (hT : lkT E.tab T = some i) (hs : i.shape = .slc e esz eb)
  (hk : c = some r → K (.int .i64 ((xs.length - lo : Nat) : Int)) [id] []) : OpX E nt o σ K := by
 unfold gle at hF
 split at hF
 ·rename_i hlo
  exact .mk _ _ _ (fun cx hE hnt => r_len_sub ho (z0y hd hE hnt) hxo hx hl (by rw [hE]; exact hT) hs hlo) (hk hF)
 ·cases hF
theorem OpX.ixs {n : Int} {k : Nat → Option β} {r : β} {T id e sz eb ty lo : Nat} {x y : Operand} {i : TyI} {kd : IntKind} {xs : List AV} (hF : nat n (xs.length - lo) k = some r) (ho : o.op = .indexAddr T x y) (hd : dokN E nt o.dst = true) (hxo : z0o x = true) (hyo : z0o y = true) (hx : σ.eval x = .der (.sub sz lo) id) (hy : σ.eval y = .int kd n)
  (hl : σ.find id = some (.row ty sz xs)) (hT : lkT E.tab T = some i) (hs : i.shape = .slc e sz eb) (hz : Nat.beq sz 0 = false) (hk : ∀ m, k m = some r → K (.elt id sz (lo + m) 0) [id] []) : OpX E nt o σ K := by
 have := NatX.o (K := fun m => lo + m < xs.length → K (.elt id sz (lo + m) 0) [id] []) hF (fun m hm _ => hk m hm)
 cases this with
 | mk m hn hm k => exact .mk _ _ _ (fun cx hE hnt => r_indexAddr_sub ho (z0y hd hE hnt) hxo hyo hx hy hl (by rw [hE]; exact hT) hs (nbne hz) hn (by omega)) (k (by omega))
theorem OpX.clr (enc : α → AV) {l : List α} {lo : Nat} {z : α} {k : List α → Option β} {r : β} {T id e esz eb : Nat} {x : Operand} {i ie : TyI} (hF : Proofs.YtjpknpjjcddnnaaGreat.clr l lo z k = some r) (ho : o.op = .call { callee := .builtin .clear, args := #[x], argTypes := #[T] }) (hd : dokN E nt o.dst = true) (hxo : z0o x = true) (hx : σ.eval x = .der (.sub esz lo) id) (hl : σ.find id = some (.row e esz (l.map enc)))
  (hT : lkT E.tab T = some i) (hs : i.shape = .slc e esz eb) (he : lkT E.tab e = some ie) (hz : Nat.beq esz 0 = false) (hzo : zeroOk ie = true) (hone : zh2 ie.zero.cells.toList = true) (hsub : SubL (znx ie).cells (enc z).cells) (hk : ∀ l', k l' = some r → K (.tup []) [id] [(id, .row e esz (l'.map enc))]) : OpX E nt o σ K := by
 unfold Proofs.YtjpknpjjcddnnaaGreat.clr at hF
 split at hF
 ·rename_i hlo
  refine .mk _ _ _ (fun cx hE hnt => ?_) (hk _ hF)
  have h1 := r_clear_sub (cx := cx) ho (z0y hd hE hnt) hxo hx hl (by rw [hE]; exact hT) hs (by rw [hE]; exact he) (nbne hz) hzo (z9i hone) (by rw [List.length_map]; exact hlo)
  refine h1.weak (.cons _ (.row _ _ ?_) .nil)
  rw [← clrL_map]
  unfold clrL
  exact (SubR.refl _).append (.replicate hsub _)
 ·cases hF
variable [DecidableEq κ]
omit [DecidableEq κ] in
theorem keysN (ek : κ → AV) (er : ν → AV) (ty sz : Nat) (l : List (κ × List ν)) : (l.map (encN ek er ty sz)).map (·.1) = l.map fun p => ek p.1 := by simp [encN]
theorem OpX.lkn (ek : κ → AV) (er : ν → AV) {l : List (κ × List ν)} {k : κ} {c : Option β} {r : β} {T kt et id ty sz : Nat} {x y : Operand} {i ie : TyI} (hF : Proofs.YtjpknpjjcddnnaaGreat.lkn l k c = some r) (heq : ∀ a b, eqK (ek a) (ek b) = some (decide (a = b))) (ho : o.op = .lookup T x y false) (hd : dokN E nt o.dst = true) (hxo : z0o x = true) (hyo : z0o y = true) (hx : σ.eval x = .der .con id) (hy : σ.eval y = ek k) (hl : σ.find id = some (.mpn (l.map (encN ek er ty sz))))
  (hT : lkT E.tab T = some i) (hs : i.shape = .map kt et) (he : lkT E.tab et = some ie) (hz : ie.zero = .slice none 0 0) (hkf : z9u E.P kt (ek k) = true) (hk : c = some r → K (.slen (rget l k).length) [id] []) : OpX E nt o σ K := by
 obtain ⟨q, h1, h2, h3⟩ := findK_n (ν := ν) ek heq k l 0
 refine .mk _ _ _ (fun cx hE hnt => r_lookup_n (r := q) ho (z0y hd hE hnt) hxo hyo hx hy hl (by rw [hE]; exact hT) hs (by rw [hE]; exact he) hz (by rw [show cx.P = E.P by rw [← hE]]; exact hkf) (by rw [keysN]; exact h1) ?_) (hk hF)
 cases q with
 | none => simp [nLen, rget, (h2 rfl).1]
 | some j =>
   obtain ⟨_, _, _, v, g4, g5, _⟩ := h3 j rfl
   simp only [Nat.sub_zero] at g5
   simp [nLen, rget, g4, g5, encN]
theorem OpX.men (ek : κ → AV) (er : ν → AV) {l : List (κ × List ν)} {k : κ} {c : List ν → Option β} {r : β} {T kt et id d ty sz : Nat} {x y : Operand} {i ie : TyI} (hF : Proofs.YtjpknpjjcddnnaaGreat.men l k c = some r) (heq : ∀ a b, eqK (ek a) (ek b) = some (decide (a = b))) (ho : o.op = .mapEntry T x y) (hdst : o.dst = some d) (hd : dokN E nt o.dst = true) (hxo : z0o x = true) (hyo : z0o y = true) (hx : σ.eval x = .der .con id) (hy : σ.eval y = ek k) (hl : σ.find id = some (.mpn (l.map (encN ek er ty sz)))) (hn : σ.find d = none) (hne : Nat.beq id d = false)
  (hT : lkT E.tab T = some i) (hs : i.shape = .map kt et) (he : lkT E.tab et = some ie) (hz : ie.zero = .slice none 0 0) (hkf : z9u E.P kt (ek k) = true) (hk : ∀ v, c v = some r → K (.tup [.row d, .int .i64 (kpos l k : Int)]) [id, d] [(id, .mpn (holeN ek er ty sz l k)), (d, .row ty sz (v.map er))]) : OpX E nt o σ K := by
 obtain ⟨q, h1, h2, h3⟩ := findK_n (ν := ν) ek heq k l 0
 refine .mk _ _ _ (fun cx hE hnt => r_mapEntry_n (r := q) ho hdst (z0y hd hE hnt) hxo hyo hx hy hl hn (nbne hne) (by rw [hE]; exact hT) hs (by rw [hE]; exact he) hz (by rw [show cx.P = E.P by rw [← hE]]; exact hkf) (by rw [keysN]; exact h1) ?_) (hk _ hF)
 cases q with
 | none =>
   obtain ⟨g1, g2, g3⟩ := h2 rfl
   simp only [entN, rget, g1, Option.getD_none, List.map_nil, List.length_map, Option.some.injEq, Prod.mk.injEq, and_true, holeN, g2, g3, List.map_append, List.map_cons]
   rw [List.set_append_right _ _ (by simp)]
   simp
 | some j =>
   obtain ⟨_, g1, g2, v, g4, g5, g6⟩ := h3 j rfl
   simp only [Nat.sub_zero] at g1 g2 g5 g6
   simp [entN, rget, g4, g5, encN, holeN, g2, g6, List.map_set]
theorem OpX.mes (ek : κ → AV) (er : ν → AV) {l : List (κ × List ν)} {k : κ} {v : List ν} {c : List (κ × List ν) → Option β} {r : β} {T id q ty sz : Nat} {x y z : Operand} (hF : Proofs.YtjpknpjjcddnnaaGreat.mes l k v c = some r) (heq : ∀ a b, eqK (ek a) (ek b) = some (decide (a = b))) (ho : o.op = .entryStore T x y z) (hd : dokN E nt o.dst = true) (hxo : z0o x = true) (hyo : z0o y = true) (hzo : z0o z = true) (hx : σ.eval x = .der .con id) (hy : σ.eval y = .int .i64 (kpos l k : Int)) (hz : σ.eval z = .row q)
  (hl : σ.find id = some (.mpn (holeN ek er ty sz l k))) (hq : σ.find q = some (.row ty sz (v.map er))) (hne : Nat.beq id q = false) (hk : ∀ l', c l' = some r → K (.tup []) [id, q] [(id, .mpn (l'.map (encN ek er ty sz))), (q, .dead)]) : OpX E nt o σ K := by
 obtain ⟨q', h1, h2, h3⟩ := findK_n (ν := ν) ek heq k l 0
 have hlen : kpos l k < ((mput l k []).map (encN ek er ty sz)).length := by
  cases q' with
  | none => obtain ⟨g1, g2, g3⟩ := h2 rfl; simp [g2, g3]
  | some j => obtain ⟨_, g1, g2, v, g4, g5, g6⟩ := h3 j rfl; rw [g2, g6]; simpa using g1
 have h := hk _ hF
 have he : (holeN ek er ty sz l k).set (kpos l k) (ek k, .row ty sz (v.map er)) = (mput l k v).map (encN ek er ty sz) := by
  unfold holeN
  rw [List.set_set]
  cases q' with
  | none => 
    obtain ⟨g1, g2, g3⟩ := h2 rfl
    rw [g3, g3, g2, List.map_append, List.set_append_right _ _ (by simp)]
    simp [encN]
  | some j =>
    obtain ⟨_, g1, g2, v0, g4, g5, g6⟩ := h3 j rfl
    rw [g6, g6, g2]
    simp [List.map_set, encN]
 rw [← he] at h
 exact .mk _ _ _ (fun cx hE hnt => r_entryStore_n ho (z0y hd hE hnt) hxo hyo hzo hx hy hz hl hq (nbne hne) (by unfold holeN; rw [List.getElem?_set_self hlen])) h
end
section
variable {α β κ ν : Type} {E : Env} {nt : Nat}
variable {R : Exit → AS → Prop} {K : List z16}
end
attribute [irreducible] nle gle clr men lkn mes frn
end Go.Proofs.YtjpknpjjcddnnaaGreat
