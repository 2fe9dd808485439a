/- What a walked function computes, as a term over plain values: the forms of such terms, and how the walk's stops follow them. -/
import Derived.Test.YtdbapaofibgfcaaAmQ
set_option linter.unusedVariables false
set_option linter.unusedSimpArgs false
namespace Go.Proofs.Ytdbapaofibgfcaa
open Go.RowKit

section
variable {α β γ δ : Type}
def cnd (b : Bool) (x y : Option β) : Option β := match b with | true => x | false => y
def idx (l : List α) (n : Int) (k : α → Option β) : Option β := if 0 ≤ n then (match l[n.toNat]? with | some x => k x | none => none) else none
def nat (n : Int) (len : Nat) (k : Nat → Option β) : Option β := if 0 ≤ n ∧ n.toNat < len then k n.toNat else none
def ltx (m len : Nat) (x : Option β) : Option β := if m < len then x else none
def elt (l : List α) (m : Nat) (k : α → Option β) : Option β := match l[m]? with | some x => k x | none => none
def slc (len : Nat) (lo hi : Int) (k : Nat → Nat → Option β) : Option β := if 0 ≤ lo ∧ lo ≤ hi ∧ hi ≤ (len : Int) then k lo.toNat hi.toNat else none
def sls (l : List α) (lo hi : Int) (k : List α → Option β) : Option β := if 0 ≤ lo ∧ lo ≤ hi ∧ hi ≤ (l.length : Int) then k ((l.take hi.toNat).drop lo.toNat) else none
def app (l m : List α) (bytes : Nat) (k : List α → Option β) : Option β := if l.length + m.length ≤ 1099511627776 ∧ (l.length + m.length) * bytes ≤ 140737488355328 then k (l ++ m) else none
def mak (n : Int) (bytes : Nat) (z : α) (k : List α → Option β) : Option β := if 0 ≤ n ∧ n.toNat ≤ 1099511627776 ∧ bytes * n.toNat ≤ 281474976710656 then k (List.replicate n.toNat z) else none
def stx (l : List α) (m : Nat) (f : α → α) (k : List α → Option β) : Option β := match l[m]? with | some x => k (l.set m (f x)) | none => none
/-- Maps. -/
def mlk {κ ν : Type} [DecidableEq κ] : List (κ × ν) → κ → Option ν
  | [], _ => none
  | (a, v) :: r, k => if k = a then some v else mlk r k
def mput {κ ν : Type} [DecidableEq κ] : List (κ × ν) → κ → ν → List (κ × ν)
  | [], k, v => [(k, v)]
  | (a, x) :: r, k, v => if k = a then (k, v) :: r else (a, x) :: mput r k v
def mgt {κ ν : Type} [DecidableEq κ] (l : List (κ × ν)) (k : κ) (z : ν) (c : ν → Bool → Option β) : Option β := c ((mlk l k).getD z) (mlk l k).isSome
def mst {κ ν : Type} [DecidableEq κ] (l : List (κ × ν)) (k : κ) (v : ν) (c : List (κ × ν) → Option β) : Option β := c (mput l k v)
def nzx (b : Int) (x : Option β) : Option β := if b = 0 then none else x
def psx (b : Int) (x : Option β) : Option β := if 0 < b then x else none
def shx (b : Int) (x : Option β) : Option β := if 0 ≤ b then x else none
def bnd (o : Option α) (k : α → Option β) : Option β := match o with | some a => k a | none => none
def bndC (o : Option α) (k : α → Option β) : Option β := match o with | some a => k a | none => none
def bndR (o : Option α) (k : α → Option β) : Option β := match o with | some a => k a | none => none
/-- Here rows are given up. -/
def frz (id : Nat) (x : Option β) : Option β := x
/-- Here a region begins before which the walk stops. -/
def reg (x : Option β) : Option β := x
/-- The branches meet. -/
@[reducible] def jn (k : α) (f : α → Option β) : Option β := f k

theorem CondX.o {b : Bool} {p q : Prop} {x y : Option β} {r : β} (h : cnd b x y = some r) (h1 : x = some r → p) (h2 : y = some r → q) : CondX b p q := ⟨fun e => h1 (by subst e; exact h), fun e => h2 (by subst e; exact h)⟩
theorem IdxX.o {l : List α} (enc : α → AV) {n : Int} {K : AV → Prop} {k : α → Option β} {r : β} (h : idx l n k = some r) (hk : ∀ x, k x = some r → K (enc x)) : IdxX (l.map enc) n K := by
  unfold idx at h
  split at h
  · rename_i hn
    split at h
    · rename_i x hx
      exact .mk n.toNat (enc x) (by omega) (by rw [List.getElem?_map, hx]; rfl) (hk x h)
    · cases h
  · cases h
theorem IdxX.o2 {u v : AV} {n : Int} {K : AV → Prop} {x y : Option β} {r : β} (h : cnd (decide (n = 0)) x (cnd (decide (n = 1)) y none) = some r) (h0 : x = some r → K u) (h1 : y = some r → K v) : IdxX [u, v] n K := by
  unfold cnd at h
  split at h
  · rename_i e; exact .mk 0 u (of_decide_eq_true e) rfl (h0 h)
  · split at h
    · rename_i e; exact .mk 1 v (of_decide_eq_true e) rfl (h1 h)
    · cases h
theorem bytes_dec (a b : ByteArray) : (a.toList == b.toList) = decide (a = b) := by
  rw [← bytes_eqb, Bool.eq_iff_iff, MapKept.bytes_beq]; simp
theorem NatX.o {n : Int} {len : Nat} {K : Nat → Prop} {k : Nat → Option β} {r : β} (h : nat n len k = some r) (hk : ∀ m, k m = some r → K m) : NatX n len K := by
  unfold nat at h
  split at h
  · rename_i hn
    exact .mk n.toNat (by omega) hn.2 (hk _ h)
  · cases h
theorem NatX.o2 {n : Int} {K : Nat → Prop} {x y : Option β} {r : β} (h : cnd (decide (n = 0)) x (cnd (decide (n = 1)) y none) = some r) (h0 : x = some r → K 0) (h1 : y = some r → K 1) : NatX n 2 K := by
  unfold cnd at h
  split at h
  · rename_i e; exact .mk 0 (of_decide_eq_true e) (by omega) (h0 h)
  · split at h
    · rename_i e; exact .mk 1 (of_decide_eq_true e) (by omega) (h1 h)
    · cases h
theorem NatX.o3 {n : Int} {K : Nat → Prop} {x y z : Option β} {r : β} (h : cnd (decide (n = 0)) x (cnd (decide (n = 1)) y (cnd (decide (n = 2)) z none)) = some r) (h0 : x = some r → K 0) (h1 : y = some r → K 1) (h2 : z = some r → K 2) : NatX n 3 K := by
  unfold cnd at h
  split at h
  · rename_i e; exact .mk 0 (of_decide_eq_true e) (by omega) (h0 h)
  · split at h
    · rename_i e; exact .mk 1 (of_decide_eq_true e) (by omega) (h1 h)
    · split at h
      · rename_i e; exact .mk 2 (of_decide_eq_true e) (by omega) (h2 h)
      · cases h
theorem LtX.o {m len : Nat} {K : Prop} {x : Option β} {r : β} (h : ltx m len x = some r) (hk : x = some r → K) : LtX m len K := by
  unfold ltx at h
  split at h
  · rename_i hm; exact .mk hm (hk h)
  · cases h
theorem EltX.o {l : List α} (enc : α → AV) {m : Nat} {K : AV → Prop} {k : α → Option β} {r : β} (h : elt l m k = some r) (hk : ∀ x, k x = some r → K (enc x)) : EltX (l.map enc) m K := by
  unfold elt at h
  split at h
  · rename_i x hx; exact .mk (enc x) (by rw [List.getElem?_map, hx]; rfl) (hk x h)
  · cases h
theorem SlcX.o {len : Nat} {lo hi : Int} {K : Nat → Nat → Prop} {k : Nat → Nat → Option β} {r : β} (h : slc len lo hi k = some r) (hk : ∀ l h, k l h = some r → K l h) : SlcX len lo hi K := by
  unfold slc at h
  split at h
  · rename_i hn; exact .mk lo.toNat hi.toNat (by omega) (by omega) (by omega) (by omega) (hk _ _ h)
  · cases h
theorem SlsX.o {l : List α} (enc : α → AV) {lo hi : Int} {K : List AV → Prop} {k : List α → Option β} {r : β} (h : sls l lo hi k = some r) (hk : ∀ l', k l' = some r → K (l'.map enc)) : SlsX (l.map enc) lo hi K := by
  unfold sls at h
  split at h
  · rename_i hn; exact .mk lo.toNat hi.toNat (by omega) (by omega) (by omega) (by rw [List.length_map]; omega) _ (by rw [List.map_drop, List.map_take]) (hk _ h)
  · cases h
theorem AppX.o {l m : List α} (enc : α → AV) {ys : List AV} {bytes : Nat} {K : List AV → Prop} {k : List α → Option β} {r : β} (h : app l m bytes k = some r) (hs : SubR ys (m.map enc)) (hk : ∀ l', k l' = some r → K (l'.map enc)) : AppX ((l.map enc).length + ys.length) bytes (l.map enc ++ ys) K := by
  have hl := hs.len
  unfold app at h
  split at h
  · rename_i hn
    exact .sub ((l ++ m).map enc) (by rw [List.map_append]; exact .append (.refl _) hs) (by rw [List.length_map, hl, List.length_map]; exact hn.1) (by rw [List.length_map, hl, List.length_map]; exact hn.2) (hk _ h)
  · cases h
theorem AppX.o0 {m : List α} (enc : α → AV) {ys : List AV} {bytes : Nat} {K : List AV → Prop} {k : List α → Option β} {r : β} (h : app [] m bytes k = some r) (hs : SubR ys (m.map enc)) (hk : ∀ l', k l' = some r → K (l'.map enc)) : AppX ys.length bytes ys K := by
  have hl := hs.len
  unfold app at h
  split at h
  · rename_i hn; exact .sub (m.map enc) hs (by rw [hl, List.length_map]; simpa using hn.1) (by rw [hl, List.length_map]; simpa using hn.2) (hk _ h)
  · cases h
theorem MakX.o {z : α} (enc : α → AV) {n : Int} {bytes : Nat} {y : AV} {K : List AV → Prop} {k : List α → Option β} {r : β} (h : mak n bytes z k = some r) (hs : SubL y.cells (enc z).cells) (hk : ∀ l', k l' = some r → K (l'.map enc)) : MakX n bytes y K := by
  unfold mak at h
  split at h
  · rename_i hn; exact .mk n.toNat (by omega) hn.2.1 hn.2.2 _ (by rw [List.map_replicate]; exact .replicate hs _) (hk _ h)
  · cases h
theorem SetX.o {l : List α} (enc : α → AV) {f : α → α} {m j n : Nat} {av : AV} {ok : AV → Bool} {put : AV → AV} {K : List AV → Prop} {k : List α → Option β} {r : β} (h : stx l m f k = some r) (hok : ∀ x, ok (enc x) = true) (hput : ∀ x, SubL (put (enc x)).cells (enc (f x)).cells) (hk : ∀ l', k l' = some r → K (l'.map enc)) : SetX (l.map enc) m j n av ok put K := by
  unfold stx at h
  split at h
  · rename_i x hx; exact .mk (enc x) (by rw [List.getElem?_map, hx]; rfl) (hok x) _ (by rw [List.map_set]; exact .set (hput x) _ _) (hk _ h)
  · cases h
theorem ShX.o {b : Int} {K : Prop} {x : Option β} {r : β} (h : shx b x = some r) (hk : x = some r → K) : ShX b K := by
  unfold shx at h
  split at h
  · rename_i hb; exact .mk hb (hk h)
  · cases h
def encM {κ ν : Type} (encK : κ → AV) (encV : ν → AV) (p : κ × ν) : AV × AV := (encK p.1, encV p.2)
theorem findK_enc {κ ν : Type} [DecidableEq κ] (encK : κ → AV) (encV : ν → AV) (he : ∀ a b, eqK (encK a) (encK b) = some (decide (a = b))) (k : κ) : ∀ (l : List (κ × ν)) (i : Nat),
    ∃ r, findK (encK k) ((l.map (encM encK encV)).map (·.1)) i = some r ∧ r.isSome = (mlk l k).isSome ∧ (∀ j, r = some j → i ≤ j ∧ ∃ v, mlk l k = some v ∧ ((l.map (encM encK encV)).getD (j - i) default).2 = encV v) ∧
      ∀ (v : ν) (x : AV), Sub x (encV v) → SubM (putK (r.map (· - i)) (encK k) x (l.map (encM encK encV))) ((mput l k v).map (encM encK encV))
  | [], i => ⟨none, rfl, rfl, fun j h => (by cases h), fun v x hs => .cons _ hs .nil⟩
  | (a, v) :: r, i => by
    simp only [List.map_cons, encM, findK, he, mlk, mput]
    by_cases hk : k = a
    · subst hk
      simp only [decide_true]
      refine ⟨some i, rfl, by simp, fun j hj => ?_, fun v' x hs => ?_⟩
      · injection hj with hj; subst hj; exact ⟨Nat.le_refl _, v, by simp, by simp⟩
      · simp only [if_true, Option.map_some, Nat.sub_self, putK, List.set_cons_zero, List.map_cons]
        exact .cons _ hs (.refl _)
    · rw [decide_eq_false hk]
      obtain ⟨q, h1, h2, h3, h4⟩ := findK_enc encK encV he k r (i + 1)
      refine ⟨q, h1, by rw [h2, if_neg hk], fun j hj => ?_, fun v' x hs => ?_⟩
      · obtain ⟨g1, v', g2, g3⟩ := h3 j hj
        refine ⟨by omega, v', by rw [if_neg hk]; exact g2, ?_⟩
        rw [show j - i = (j - (i + 1)) + 1 by omega, List.getD_cons_succ]
        exact g3
      · have := h4 v' x hs
        rw [if_neg hk]
        cases q with
        | none => exact .cons _ (.refl _) this
        | some j =>
          obtain ⟨g1, _⟩ := h3 j rfl
          simp only [Option.map_some, putK] at this ⊢
          rw [show j - i = (j - (i + 1)) + 1 by omega, List.set_cons_succ]
          exact .cons _ (.refl _) this
theorem LkX.o {κ ν : Type} [DecidableEq κ] {l : List (κ × ν)} {k : κ} {z : ν} {P : Program} {kt : Nat} {zA : AV} {K : AV → Bool → Prop} {c : ν → Bool → Option β} {r : β} (encK : κ → AV) (encV : ν → AV) (h : mgt l k z c = some r) (hk : keyFl P kt (encK k) = true) (he : ∀ a b, eqK (encK a) (encK b) = some (decide (a = b))) (hz : Sub zA (encV z))
    (hc : ∀ v b, c v b = some r → K (encV v) b) : LkX P kt (encK k) (l.map (encM encK encV)) zA K := by
  obtain ⟨q, h1, h2, h3, _⟩ := findK_enc encK encV he k l 0
  refine .mk q (encV ((mlk l k).getD z)) (mlk l k).isSome hk h1 h2 ?_ (hc _ _ h)
  cases q with
  | none =>
    have : mlk l k = none := by cases hm : mlk l k with
      | none => rfl
      | some v => rw [hm] at h2; cases h2
    rw [this]
    exact hz
  | some j =>
    obtain ⟨_, v, g2, g3⟩ := h3 j rfl
    rw [g2, Option.getD_some, ← g3]
    exact .refl _
theorem UpX.o {κ ν : Type} [DecidableEq κ] {l : List (κ × ν)} {k : κ} {v : ν} {P : Program} {kt : Nat} {x : AV} {K : List (AV × AV) → Prop} {c : List (κ × ν) → Option β} {r : β} (encK : κ → AV) (encV : ν → AV) (h : mst l k v c = some r) (hk : keyFl P kt (encK k) = true) (he : ∀ a b, eqK (encK a) (encK b) = some (decide (a = b))) (hx : Sub x (encV v))
    (hc : ∀ l', c l' = some r → K (l'.map (encM encK encV))) : UpX P kt (encK k) x (l.map (encM encK encV)) K := by
  obtain ⟨q, h1, _, _, h4⟩ := findK_enc encK encV he k l 0
  refine .mk q _ hk h1 ?_ (hc _ h)
  have := h4 v x hx
  cases q with
  | none => exact this
  | some j => exact this
theorem PosX.o {b : Int} {K : Prop} {x : Option β} {r : β} (h : psx b x = some r) (hk : x = some r → K) : PosX b K := by
  unfold psx at h
  split at h
  · rename_i hb; exact .mk hb (hk h)
  · cases h
theorem NzX.o {b : Int} {K : Prop} {x : Option β} {r : β} (h : nzx b x = some r) (hk : x = some r → K) : NzX b K := by
  unfold nzx at h
  split at h
  · cases h
  · rename_i hb; exact .mk hb (hk h)
section
variable {E : Env} {nt : Nat} {f : FuncId} {avs : List AV}
theorem CallX.o {o : Option α} {k : α → Option β} {r : β} {fr : Bool} {K : AV → Prop} {R : Nat → Nat → List AV → AV → Prop} (h : bnd o k = some r) (enc : α → AV) (hc : ∀ a, o = some a → Con E fr f avs (enc a)) (hk : ∀ a, k a = some r → K (enc a)) : CallX E f avs K R := by
  unfold bnd at h
  split at h
  · exact .mk fr _ (hc _ rfl) (hk _ h)
  · cases h
theorem CallX.oR {o : Option α} {k : α → Option β} {r : β} {K : AV → Prop} {R : Nat → Nat → List AV → AV → Prop} {ty sz : Nat} (h : bndR o k = some r) (rl : α → List γ) (encE : γ → AV) (res : α → AV) (hdr0 : E.dr = false) (hc : ∀ a, o = some a → ConT E f avs ty sz ((rl a).map encE) (res a)) (hk : ∀ a, k a = some r → R ty sz ((rl a).map encE) (res a)) : CallX E f avs K R := by
  unfold bndR at h
  split at h
  · exact .rowT ty sz _ _ hdr0 (hc _ rfl) (hk _ h)
  · cases h
theorem CallC.o {o : Option α} {k : α → Option β} {r : β} {fr : Bool} {K : AV → Prop} {raw : List AV} {find : Nat → Option Ent} {dst : Option Nat} {KR : AV → List Nat → List (Nat × Ent) → Prop} (h : bnd o k = some r) (enc : α → AV) (hc : ∀ a, o = some a → Con E fr f avs (enc a)) (hf : ∀ a, fr = true ∨ (enc a).flat = true) (hk : ∀ a, k a = some r → K (enc a)) : CallC E f avs K raw find dst KR := by
  unfold bnd at h
  split at h
  · exact .mk fr _ (hc _ rfl) (hf _) (hk _ h)
  · cases h
theorem CallC.oC {o : Option α} {k : α → Option β} {r : β} {K : AV → Prop} {raw : List AV} {find : Nat → Option Ent} {dst : Option Nat} {KR : AV → List Nat → List (Nat × Ent) → Prop} {d ty sz ty' sz' : Nat} {xs cargs : List AV} (h : bndC o k = some r) (id : Nat) (rl : α → List γ) (encE : γ → AV) (res : α → AV) (hdr0 : E.dr = false) (hc : ∀ a, o = some a → ConC false E f cargs ty sz xs ty' sz' ((rl a).map encE) (res a))
    (hr : AV.renL (fun _ => id) cargs = raw) (hin : AV.inML [0] cargs = true) (hl : find id = some (.row ty sz xs)) (hd : dst = some d) (hn : find d = none) (hne : Nat.beq id d = false) (hk : ∀ a, k a = some r → KR ((res a).ren fun _ => d) [d, id] [(d, .row ty' sz' ((rl a).map encE)), (id, .dead)]) : CallC E f avs K raw find dst KR := by
  unfold bndC at h
  split at h
  · exact .take id d ty sz xs ty' sz' _ _ cargs hdr0 (hc _ rfl) hr hin hl hd hn (Nat.ne_of_beq_eq_false hne) (hk _ h)
  · cases h
theorem CallC.oE {o : Option α} {k : α → Option β} {r : β} {fr : Bool} {K : AV → Prop} {raw avs' : List AV} {find : Nat → Option Ent} {dst : Option Nat} {KR : AV → List Nat → List (Nat × Ent) → Prop} {ty sz : Nat} {xs : List AV} (h : bnd o k = some r) (id : Nat) (enc : α → AV) (hl : find id = some (.row ty sz xs)) (hc : ∀ a, o = some a → Con E fr f avs' (enc a)) (ha : AV.frzL id sz xs raw = avs') (hcl : AV.closedL avs' = true) (hk : ∀ a, k a = some r → KR (enc a) [id] [(id, .dead)]) : CallC E f avs K raw find dst KR := by
  unfold bnd at h
  split at h
  · exact .eat id ty sz xs avs' fr _ hl ha hcl (hc _ rfl) (hk _ h)
  · cases h
theorem CallC.oI {o : Option α} {k : α → Option β} {r : β} {K : AV → Prop} {raw : List AV} {find : Nat → Option Ent} {dst : Option Nat} {KR : AV → List Nat → List (Nat × Ent) → Prop} {ty sz : Nat} {xs cargs : List AV} (h : bndC o k = some r) (id : Nat) (rl : α → List γ) (encE : γ → AV) (res : α → AV) (hdr0 : E.dr = false) (hc : ∀ a, o = some a → ConC true E f cargs ty sz xs ty sz ((rl a).map encE) (res a))
    (hr : AV.renL (fun _ => id) cargs = raw) (hin : AV.inML [0] cargs = true) (hl : find id = some (.row ty sz xs)) (hk : ∀ a, k a = some r → KR ((res a).ren fun _ => id) [id] [(id, .row ty sz ((rl a).map encE))]) : CallC E f avs K raw find dst KR := by
  unfold bndC at h
  split at h
  · exact .turn id ty sz xs _ _ cargs hdr0 (hc _ rfl) hr hin hl (hk _ h)
  · cases h
theorem LoopX.o {V : Type} {L : Nat → V → Option β} {S : V → AS} {σ : AS} {F : (AS → Prop) → AS → Prop} {r : β} {n : Nat} {v0 : V} (h : L n v0 = some r) (hz : ∀ v, L 0 v = none) (hl : LeX E nt σ (S v0)) (round : ∀ m v, L (m + 1) v = some r → F (fun σ' => ∃ v', L m v' = some r ∧ LeX E nt σ' (S v')) (S v))
    (mono : ∀ (P Q : AS → Prop) σ, (∀ σ, P σ → Q σ) → F P σ → F Q σ) : LoopX E nt F σ := by
  refine .mk (fun m σ => ∃ v, L m v = some r ∧ σ = S v) n (S v0) hl ⟨v0, h, rfl⟩ ?_
  rintro m σ ⟨v, hv, rfl⟩
  cases m with
  | zero => rw [hz] at hv; cases hv
  | succ m =>
    refine mono _ _ _ (fun σ' ⟨v', h1, h2⟩ => ?_) (round m v hv)
    exact ⟨m, S v', h2, Nat.lt_succ_self _, v', h1, rfl⟩
end
theorem RetX.o {v : AV} {a r : β} {enc : β → AV} (h : some a = some r) (hs : Sub v (enc a)) : RetX v (enc r) := by injection h with h; subst h; exact .sub hs
theorem TX.o {E : Env} {nt : Nat} {fn : Func} {σ : AS} {ty sz : Nat} {a r : β} {rl : β → List AV} {res : β → AV} (h : some a = some r) (hk : TX E nt fn σ ty sz (rl a) (res a)) : TX E nt fn σ ty sz (rl r) (res r) := by injection h with h; subst h; exact hk
end
section
variable {E : Env} {nt : Nat}
theorem WP.monoN {cx : Cx} {c : Code} {Q Q' : Exit → AS → Prop} {σ : AS} (h : WP cx c Q σ) (k : ∀ e σ, Q e σ → Q' e σ) : WP cx c Q' σ := WP.mono h k
theorem AW.mono1 {c : Code} {K : Exit → AS → Prop} {P Q : AS → Prop} {σ : AS} (h : ∀ σ, P σ → Q σ) (k : AW E nt (thenA P K) [.code c] .normal σ) : AW E nt (thenA Q K) [.code c] .normal σ := ⟨fun cx hE hn => WP.mono (k.out cx hE hn) (fun e σ' hq => by cases e <;> first | exact h _ hq | exact hq)⟩
end
section
variable {β V : Type} {E : Env} {nt : Nat} {R : Exit → AS → Prop} {K : List KItem}
theorem LoopA.o {L : Nat → V → Option β} {S : V → AS} {σ : AS} {c : Code} {r : β} {n : Nat} {v0 : V} (h : L n v0 = some r) (hz : ∀ v, L 0 v = none) (hl : LeX E nt σ (S v0))
    (round : ∀ m v, L (m + 1) v = some r → AW E nt (thenA (fun σ' => ∃ v', L m v' = some r ∧ LeX E nt σ' (S v')) (AW E nt R K)) [.code c] .normal (S v)) : LoopX E nt (fun next σ' => AW E nt (thenA next (AW E nt R K)) [.code c] .normal σ') σ :=
  LoopX.o h hz hl round (fun P Q σ hpq hF => AW.mono1 hpq hF)
theorem AW.frzO {id ty sz : Nat} {xs : List AV} {c : Code} {σ : AS} {x : Option β} {y : β} (h : frz id x = some y) (r : Nat) (hr : σ.find r = some (.row ty sz xs)) (k : x = some y → AW E nt R (.code c :: K) .normal (σ.frzAll r sz xs)) : AW E nt R (.code c :: K) .normal σ := AW.weaken (LeX.frzAll r ty sz xs hr) (k h)
theorem AW.regO {id : Nat} {os : Array Oper} {d : Bool} {σ : AS} {x : Option β} {y : β} (h : reg x = some y) (k : x = some y → AW E nt R (.ops d os os.toList [] [] :: K) .normal σ) : AW E nt R (.code (.region id os d) :: K) .normal σ := AW.into (k h)
end
/-! ### Slots and cells that say less -/
def AS.putS (σ : AS) (t : Nat) (v : AV) : AS := ⟨(t, v) :: σ.tm, σ.me⟩
theorem LeX.put {E : Env} {nt : Nat} {σ : AS} (t : Nat) (v : AV) (hs : Sub (σ.get t) v) : LeX E nt σ (σ.putS t v) := fun cx hE hn a w ⟨γ, h⟩ => by
  refine ⟨γ, fun u => ?_, fun i => h.me i, h.inj, h.ge, h.below, h.size, h.defers, h.gh, h.fr, h.dr⟩
  by_cases hu : t = u
  · subst hu
    have e : (σ.putS t v).get t = v := by simp [AS.putS, AS.get, lkV]
    rw [e]
    exact (h.tm t).sub hs
  · have e : (σ.putS t v).get u = σ.get u := by
      unfold AS.putS AS.get
      simp only [lkV]
      cases hb : Nat.beq t u with
      | true => exact absurd (Nat.eq_of_beq_eq_true hb) hu
      | false => rfl
    rw [e]
    exact h.tm u
def AS.putE (σ : AS) (i : Nat) (e : Ent) : AS := ⟨σ.tm, (i, e) :: σ.me⟩
theorem LeX.putE {E : Env} {nt : Nat} {σ : AS} (i : Nat) (e e' : Ent) (hi : σ.find i = some e) (hs : EntSub e e') : LeX E nt σ (σ.putE i e') := fun cx hE hn a w ⟨γ, h⟩ => by
  refine ⟨γ, fun u => h.tm u, fun j => ?_, h.inj, h.ge, h.below, h.size, h.defers, h.gh, h.fr, h.dr⟩
  by_cases hj : i = j
  · subst hj
    have e1 : (σ.putE i e').find i = some e' := by simp [AS.putE, AS.find, lkE]
    rw [e1]
    have := h.me i
    rw [hi] at this
    obtain ⟨d, hd, he⟩ := this
    exact ⟨d, hd, hs.rep he⟩
  · have e1 : (σ.putE i e').find j = σ.find j := by
      unfold AS.putE AS.find
      simp only [lkE]
      cases hb : Nat.beq i j with
      | true => exact absurd (Nat.eq_of_beq_eq_true hb) hj
      | false => rfl
    rw [e1]
    exact h.me j
attribute [irreducible] cnd idx nat ltx elt slc sls app mak stx nzx shx bnd bndC bndR frz reg mgt mst psx
end Go.Proofs.Ytdbapaofibgfcaa
