/- From a contract of the abstract walk to a law's row: whatever the arguments, it returns true, and they read as they did. Arguments opened: what any row needs. Plain laws of the forms of terms (G0). Forms of terms: calls of closures with boxes, yields, ranges over functions. What some functions compute, over plain values. Printed by a program of mine (gen_fun.lean). Layer 5, plain: Find, Slice, Inversions. Layer 5, plain: Merge, Insert; the examples; the laws that compare with the reference. Layer 5: Split, plainly. Layer 5: the parts of a split stream; DeleteFunc, plainly. Layer 5: StreamDivides. -/
import Derived.Test.YtkbopbgcjfcjjaaRows
import Derived.Test.YtkbopbgcjfcjjaaK07
import Derived.ProofKit
import Derived.Lib.SmallJoins
import Derived.Deep.Slices
import Derived.Carry
import Derived.Below
import Derived.Test.YtkbopbgcjfcjjaaK09
import Derived.Test.YtkbopbgcjfcjjaaK08
import Derived.Test.YtkbopbgcjfcjjaaK10
import Derived.Test.YtkbopbgcjfcjjaaK11
set_option linter.unusedVariables false
set_option linter.unusedSimpArgs false
set_option maxRecDepth 100000
set_option maxHeartbeats 8000000
namespace Go.Proofs.Ytkbopbgcjfcjjaa
open Go.ChangeShapes Go.WideShapes Go.ChangeAt Go.RowKit

theorem args_three {w : World} {S : Nat → Prop} {a b c : AV} {x y z : Value} (ha : Rep w S G0 a x) (hb : Rep w S G0 b y) (hc : Rep w S G0 c z) : Args w S [a, b, c] #[x, y, z] :=
  ⟨rfl, fun i hi => by
    have hi' : i < 3 := hi
    rcases i with _ | _ | _ | i
    · exact ha
    · exact hb
    · exact hc
    · omega⟩
section
variable {H : Type} {enc : TypeId × Value → H}
end
end Go.Proofs.Ytkbopbgcjfcjjaa
namespace Go.Proofs.Ytkbopbgcjfcjjaa
open Go.ChangeShapes Go.WideShapes Go.ChangeAt Go.RowKit Go.Joins Go.Deep

section
variable {H : Type} {enc : TypeId × Value → H} {W : World} {base : Nat} {v : Value} {d : DataW H} {p : List MemPlace}
set_option maxRecDepth 100000
theorem i64_open (hv : Value.okWide Try.prog W .any base 3 v) (h : DataW.Trod enc Try.prog W 0 (fun _ => true) true 3 v d p) : ∃ n : Int, v = .int .i64 n := okWide_int Try.underlying3 hv
end
end Go.Proofs.Ytkbopbgcjfcjjaa
namespace Go.Proofs.Ytkbopbgcjfcjjaa
open Go.RowKit

section
variable {α β : Type}
theorem stx_ok {l : List α} {m : Nat} (h : m < l.length) (f : α → α) (k : List α → Option β) : stx l m f k = k (l.set m (f l[m])) := by unfold stx; simp [h]
end
end Go.Proofs.Ytkbopbgcjfcjjaa
namespace Go.Proofs.Ytkbopbgcjfcjjaa
open Go.RowKit

noncomputable def E0p (np : Nat) : Env := { E0 with np := np }
theorem ConG.up {P : Program} {yl : Option (Nat × Obj)} {C : CalT} {args caps : List AV} {me me' : List (Nat × Ent)} {res : AV} (h : ConG P none C args caps me res me') : ConG P yl C args caps me res me' :=
  fun cx γ w vs cs h1 h2 _ => h cx γ w vs cs h1 h2 (fun x hx => by cases hx)
theorem Con.env {E E' : Env} {fr : Bool} {f : FuncId} {avs : List AV} {res : AV} (hP : E'.P = E.P) (hd : E'.dr = false) (h : Con E fr f avs res) : Con E' fr f avs res := by
  refine ⟨by have := h.1; unfold Enters at *; rw [hP]; exact this, fun S w vs ha => ?_⟩
  have := h.2 S w vs ha
  rw [hP]
  exact this.mono fun e w' ⟨v, h1, ⟨h2, _⟩, h3⟩ => ⟨v, h1, ⟨h2, fun hd' => absurd (hd.symm.trans hd') (by simp)⟩, h3⟩
theorem ConT.env {E E' : Env} {f : FuncId} {avs xs : List AV} {ty sz : Nat} {res : AV} (hP : E'.P = E.P) (h : ConT E f avs ty sz xs res) : ConT E' f avs ty sz xs res := by
  refine ⟨by have := h.1; unfold Enters at *; rw [hP]; exact this, h.2.1, fun S w vs ha => ?_⟩
  rw [hP]
  exact h.2.2 S w vs ha

section
variable {α β : Type}
theorem CallX.oM {o : Option α} {k : α → Option β} {r : β} {E : Env} {f : FuncId} {avs : List AV} {K : AV → Prop} {R : Nat → Nat → List AV → AV → Prop} {find : Nat → Option Ent} {KR : AV → List Nat → List (Nat × Ent) → Prop} (h : bnd o k = some r)
    (ps ps' : List (Nat × Nat)) (cargs : List AV) (me : List (Nat × Ent)) (meF : α → List (Nat × Ent)) (resF : α → AV) (dead : List Nat) (hc : ∀ a, o = some a → ConG E.P E.yl (CalF E.P f 0) cargs [] me (resF a) (meF a)) (he : Enters E f) (hdr0 : E.dr = false) (hra : AV.renL (rho ps) cargs = avs) (hia : AV.inML (me.map (·.1)) cargs = true) (hle : LeF find (rho ps) (me.map (·.1)) me)
    (hn : ∀ a, NamesG find (rho ps) (rho ps') me (meF a) (resF a) dead) (kk : ∀ a, k a = some r → KR ((resF a).ren (rho ps')) (idsG (rho ps) (rho ps') me (meF a)) (wrG (rho ps') (meF a) dead)) : CallX E f avs K R find KR := by
  cases o with
  | none => unfold bnd at h; cases h
  | some a => exact .memo ps ps' cargs me (meF a) (resF a) dead he hdr0 (hc a rfl) hra hia hle (hn a) (kk a (by unfold bnd at h; exact h))
theorem CallC.oM {o : Option α} {k : α → Option β} {r : β} {E : Env} {f : FuncId} {avs raw : List AV} {K : AV → Prop} {dst : Option Nat} {find : Nat → Option Ent} {KR : AV → List Nat → List (Nat × Ent) → Prop} (h : bnd o k = some r)
    (ps ps' : List (Nat × Nat)) (cargs : List AV) (me : List (Nat × Ent)) (meF : α → List (Nat × Ent)) (resF : α → AV) (dead : List Nat) (hc : ∀ a, o = some a → ConG E.P E.yl (CalF E.P f 0) cargs [] me (resF a) (meF a)) (he : Enters E f) (hdr0 : E.dr = false) (hra : AV.renL (rho ps) cargs = raw) (hia : AV.inML (me.map (·.1)) cargs = true) (hle : LeF find (rho ps) (me.map (·.1)) me)
    (hn : ∀ a, NamesG find (rho ps) (rho ps') me (meF a) (resF a) dead) (kk : ∀ a, k a = some r → KR ((resF a).ren (rho ps')) (idsG (rho ps) (rho ps') me (meF a)) (wrG (rho ps') (meF a) dead)) : CallC E f avs K raw find dst KR := by
  cases o with
  | none => unfold bnd at h; cases h
  | some a => exact .memo ps ps' cargs me (meF a) (resF a) dead he hdr0 (hc a rfl) hra hia hle (hn a) (kk a (by unfold bnd at h; exact h))
theorem YldX.oM {o : Option α} {k : α → Option β} {r : β} {E : Env} {l : Nat} {T : Array Value} {raw cap : List AV} {find : Nat → Option Ent} {KR : AV → List Nat → List (Nat × Ent) → Prop} (h : bnd o k = some r)
    (ps ps' : List (Nat × Nat)) (cargs ccaps : List AV) (me : List (Nat × Ent)) (meF : α → List (Nat × Ent)) (resF : α → AV) (dead : List Nat) (hc : ∀ a, o = some a → ConG E.P E.yl (fun vs cs w R => cs = T → CalY E.P l vs cs w R) cargs ccaps me (resF a) (meF a)) (hdr0 : E.dr = false) (hra : AV.renL (rho ps) cargs = raw) (hrc : AV.renL (rho ps) ccaps = cap) (hia : AV.inML (me.map (·.1)) cargs = true) (hic : AV.inML (me.map (·.1)) ccaps = true) (hle : LeF find (rho ps) (me.map (·.1)) me)
    (hn : ∀ a, NamesG find (rho ps) (rho ps') me (meF a) (resF a) dead) (kk : ∀ a, k a = some r → KR ((resF a).ren (rho ps')) (idsG (rho ps) (rho ps') me (meF a)) (wrG (rho ps') (meF a) dead)) : YldX E l T raw cap find KR := by
  cases o with
  | none => unfold bnd at h; cases h
  | some a => exact .mk ps ps' cargs ccaps me (meF a) (resF a) dead hdr0 (hc a rfl) hra hrc hia hic hle (hn a) (kk a (by unfold bnd at h; exact h))
theorem RngX.oM {o : Option α} {k : α → Option β} {r : β} {E : Env} {nt gf : Nat} {cap : List AV} {ps : Array Tmp} {a b : Code} {σ : AS} {K : AS → Prop} (h : bnd o k = some r)
    (pp pp' : List (Nat × Nat)) (ycaps ccaps : List AV) (me : List (Nat × Ent)) (meF : α → List (Nat × Ent)) (dead : List Nat)
    (hiter : ∀ x, o = some x → ∀ (l D : Nat) (fn : FuncId) (T : Array Value), T.size = nt → ConG E.P (some (l, .loop (recR fn T ps a b D))) (CalF E.P gf 0) (.yld l T ycaps :: ccaps) [] me (.tup []) (meF x))
    (he : Enters E gf) (hrg : E.rg = true) (hdr0 : E.dr = false) (hyl0 : E.yl = none) (hrc : AV.renL (rho pp) ccaps = cap) (hic : AV.inML (me.map (·.1)) ccaps = true) (hy : LeY σ (rho pp) (me.map (·.1)) 0 ycaps) (hle : LeF σ.find (rho pp) (me.map (·.1)) me) (hn : ∀ x, NamesG σ.find (rho pp) (rho pp') me (meF x) (.tup []) dead)
    (kk : ∀ x, k x = some r → K (σ.upd none (.tup []) (wrG (rho pp') (meF x) dead))) : RngX E nt (.fn gf cap) ps a b σ K := by
  cases o with
  | none => unfold bnd at h; cases h
  | some x => exact .mk gf cap rfl he hrg hdr0 hyl0 pp pp' ycaps ccaps me (meF x) dead hrc hic hy hle (hn x) (hiter x rfl) (kk x (by unfold bnd at h; exact h))
end
end Go.Proofs.Ytkbopbgcjfcjjaa
namespace Go.Proofs.Ytkbopbgcjfcjjaa
open Go.RowKit
def F_tidegatelaw05_StreamDivides_1 (n : Nat) (a0 : T_api_Event) (a1 : (List Int)) : Option (Bool) :=
  bnd (F_tidegateref05_Key n a0 a1) fun x1 =>
  some !(x1.2.1)
def F_slices_IndexFunc_s45_l1 (n : Nat) (a1c0 : (List Int)) (a0 : (List T_api_Event)) (k1_0_0 : Option (Int)) : Nat → Int → Option (Int)
  | 0, _ => none
  | mv1_0 + 1, v1_0 =>
    cnd (decide (v1_0 < (((List.map e_api_Event (a0)).length : Nat) : Int)))
      (idx a0 v1_0 fun x41 =>
      bnd (F_tidegatelaw05_StreamDivides_1 n x41 a1c0) fun x42 =>
      cnd (x42)
        (some v1_0)
      <| F_slices_IndexFunc_s45_l1 n a1c0 a0 k1_0_0 mv1_0 (IntKind.wrap .i64 (v1_0 + 1)))
    <| k1_0_0
def F_slices_IndexFunc_s45 (n : Nat) (a0 : (List T_api_Event)) (a1c0 : (List Int)) : Option (Int) :=
  F_slices_IndexFunc_s45_l1 n a1c0 a0
    (some (-1)) n 0
def F_tidegatelaw05_StreamDivides_1_s47 (n : Nat) (a0 : T_api_Event) (m0 : (List Int)) : Option (Bool × (List Int)) :=
  bnd (F_tidegateref05_Key n a0 m0) fun x1 =>
  some (!(x1.2.1), m0)
def F_slices_DeleteFunc_l1 (n : Nat) (k1_0_0 : Int → (List Int) → (List T_api_Event) → Option ((List T_api_Event) × (List Int))) : Nat → Int × Int × (List Int) × (List T_api_Event) → Option ((List T_api_Event) × (List Int))
  | 0, _ => none
  | mv1_0 + 1, v1_0 =>
    cnd (decide (v1_0.2.1 < (((List.map e_api_Event (v1_0.2.2.2)).length : Nat) : Int)))
      (nat v1_0.2.1 (List.map e_api_Event (v1_0.2.2.2)).length fun x48 =>
      elt v1_0.2.2.2 x48 fun x49 =>
      bnd (F_tidegatelaw05_StreamDivides_1_s47 n x49 v1_0.2.2.1) fun x50 =>
      cnd (!(x50.1))
        (nat v1_0.1 (List.map e_api_Event (v1_0.2.2.2)).length fun x51 =>
        stx v1_0.2.2.2 x51 (fun x52 => x49) fun x53 =>
        F_slices_DeleteFunc_l1 n k1_0_0 mv1_0 ((IntKind.wrap .i64 (v1_0.1 + 1)), (IntKind.wrap .i64 (v1_0.2.1 + 1)), x50.2, x53))
      <| F_slices_DeleteFunc_l1 n k1_0_0 mv1_0 (v1_0.1, (IntKind.wrap .i64 (v1_0.2.1 + 1)), x50.2, v1_0.2.2.2))
    <| k1_0_0 v1_0.1 v1_0.2.2.1 v1_0.2.2.2
def F_slices_DeleteFunc (n : Nat) (m0 : (List Int)) (m1 : (List T_api_Event)) : Option ((List T_api_Event) × (List Int)) :=
  bnd (F_slices_IndexFunc_s45 n m1 m0) fun x1 =>
  cnd (decide (x1 = (-1)))
    (some (m1, m0))
  <| F_slices_DeleteFunc_l1 n
    (fun k1_0_0y0 k1_0_0y1 k1_0_0y2 => nle k1_0_0y0 (List.map e_api_Event (k1_0_0y2)).length fun x45 =>
  clr k1_0_0y2 x45 (⟨0, 0, 0, 0, []⟩ : T_api_Event) fun x46 =>
  sls x46 0 k1_0_0y0 fun x47 =>
  some (x47, k1_0_0y1)) n (x1, (IntKind.wrap .i64 (x1 + 1)), m0, m1)
def F_tidegatelaw05_StreamDivides_l2 (n : Nat) (a2 : Int) (a1 : (List Int)) (a0 : (List T_api_Event)) (v1_0 : (List T_api_Value) × (List (List T_api_Event)) × Int × Int × (List T_api_Event)) (x59 : (List T_api_Event)) (k2_1_0 : (List T_api_Event) → Option (Bool)) : Nat → Int → Option (Bool)
  | 0, _ => none
  | mv2_1 + 1, v2_1 =>
    cnd (decide (v2_1 < (((List.map e_api_Event (x59)).length : Nat) : Int)))
      (idx x59 v2_1 fun x105 =>
      bnd (F_tidegateref05_Key n x105 a1) fun x106 =>
      cnd (!(x106.2.1))
        (some false)
      <| idx v1_0.1 v1_0.2.2.2.1 fun x107 =>
      cnd (!(decide (x106.1.fKind = x107.fKind) && (decide (x106.1.fNum = x107.fNum) && ((x106.1.fText.toList == x107.fText.toList) && true))))
        (some false)
      <| F_tidegatelaw05_StreamDivides_l2 n a2 a1 a0 v1_0 x59 k2_1_0 mv2_1 (IntKind.wrap .i64 (v2_1 + 1)))
    <| k2_1_0 x59
def F_tidegatelaw05_StreamDivides_l3 (n : Nat) (a2 : Int) (a1 : (List Int)) (a0 : (List T_api_Event)) (v1_0 : (List T_api_Value) × (List (List T_api_Event)) × Int × Int × (List T_api_Event)) (x59 : (List T_api_Event)) (k3_2_0 : (List T_api_Event) → Option (Bool)) : Nat → Int → Option (Bool)
  | 0, _ => none
  | mv3_2 + 1, v3_2 =>
    cnd (decide (v3_2 < (((List.map e_api_Event (x59)).length : Nat) : Int)))
      (idx x59 v3_2 fun x150 =>
      bnd (F_tidegateref05_Key n x150 a1) fun x151 =>
      cnd (!(x151.2.1))
        (some false)
      <| idx v1_0.1 v1_0.2.2.2.1 fun x152 =>
      cnd (!(decide (x151.1.fKind = x152.fKind) && (decide (x151.1.fNum = x152.fNum) && ((x151.1.fText.toList == x152.fText.toList) && true))))
        (some false)
      <| F_tidegatelaw05_StreamDivides_l3 n a2 a1 a0 v1_0 x59 k3_2_0 mv3_2 (IntKind.wrap .i64 (v3_2 + 1)))
    <| k3_2_0 x59
def F_tidegatelaw05_StreamDivides_l1 (n : Nat) (a2 : Int) (a1 : (List Int)) (a0 : (List T_api_Event)) (k1_0_0 : (List T_api_Event) → Option (Bool)) : Nat → (List T_api_Value) × (List (List T_api_Event)) × Int × Int × (List T_api_Event) → Option (Bool)
  | 0, _ => none
  | mv1_0 + 1, v1_0 =>
    cnd (decide (v1_0.2.2.2.1 < v1_0.2.2.1))
      (idx v1_0.2.1 v1_0.2.2.2.1 fun x59 =>
      cnd (decide ((((List.map e_api_Event (x59)).length : Nat) : Int) = 0))
        (some false)
      <| cnd (decide (0 < v1_0.2.2.2.1))
        (idx v1_0.1 (IntKind.wrap .i64 (v1_0.2.2.2.1 - 1)) fun x60 =>
        idx v1_0.1 v1_0.2.2.2.1 fun x61 =>
        bnd (F_tidegateref01_Compare n x60 x61) fun x62 =>
        cnd (decide (0 ≤ x62))
          (some false)
        <| F_tidegatelaw05_StreamDivides_l2 n a2 a1 a0 v1_0 x59
          (fun k2_1_0y => app v1_0.2.2.2.2 k2_1_0y 56 fun x104 =>
        F_tidegatelaw05_StreamDivides_l1 n a2 a1 a0 k1_0_0 mv1_0 (v1_0.1, v1_0.2.1, v1_0.2.2.1, (IntKind.wrap .i64 (v1_0.2.2.2.1 + 1)), x104)) n 0)
      <| F_tidegatelaw05_StreamDivides_l3 n a2 a1 a0 v1_0 x59
        (fun k3_2_0y => app v1_0.2.2.2.2 k3_2_0y 56 fun x149 =>
      F_tidegatelaw05_StreamDivides_l1 n a2 a1 a0 k1_0_0 mv1_0 (v1_0.1, v1_0.2.1, v1_0.2.2.1, (IntKind.wrap .i64 (v1_0.2.2.2.1 + 1)), x149)) n 0)
    <| k1_0_0 v1_0.2.2.2.2
def F_tidegatelaw05_StreamDivides (n : Nat) (a0 : (List T_api_Event)) (a1 : (List Int)) (a2 : Int) : Option (Bool) :=
  bnd (F_tidegateref05_Few n a0) fun x1 =>
  cnd (!(x1))
    (bnd (F_tidegatelaw05_awake n) fun x2 =>
    some x2)
  <| bnd (F_tidegateref05_Check n a0) fun x3 =>
  cnd (!decide (x3 = 0))
    (bnd (F_tidegatelaw05_awake n) fun x4 =>
    some x4)
  <| cnd (decide (40 < (((List.map aI (a1)).length : Nat) : Int)))
    (bnd (F_tidegatelaw05_awake n) fun x5 =>
    some x5)
  <| bnd (F_stream_Split n a0 a1) fun x6 =>
  cnd (decide (x6.2.2 = 0))
    (cnd (!decide ((((List.map e_api_Value (x6.1)).length : Nat) : Int) = (((List.map (fun q => AV.sl 5 (List.map e_api_Event q)) (x6.2.1)).length : Nat) : Int)))
      (some false)
    <| F_tidegatelaw05_StreamDivides_l1 n a2 a1 a0
      (fun k1_0_0y => bndR (F_clone n a0) fun x48 =>
    bnd (F_slices_DeleteFunc n a1 x48) fun x49 =>
    frz 7108 <| reg <| bnd (F_stream_Sort n k1_0_0y) fun x50 =>
    cnd (!decide (x50.2 = 0))
      (some false)
    <| bnd (F_tidegateref05_Same n x50.1 x49.1) fun x51 =>
    cnd (!(x51))
      (some false)
    <| cnd (!decide ((((List.map e_api_Event (k1_0_0y)).length : Nat) : Int) = (((List.map e_api_Event (x49.1)).length : Nat) : Int)))
      (some false)
    <| cnd (decide (a2 < 0))
      (bnd (F_tidegatelaw05_awake n) fun x52 =>
      some x52)
    <| cnd (decide (1099511627776 ≤ a2))
      (bnd (F_tidegatelaw05_awake n) fun x53 =>
      some x53)
    <| bnd (F_stream_Slice n a0 0 a2) fun x54 =>
    bnd (F_stream_Slice n a0 (IntKind.wrap .i64 (a2 + 1)) 1099511627776) fun x55 =>
    bnd (F_stream_Merge n x54.1 x55.1) fun x56 =>
    cnd (decide (x54.2 = 0))
      (cnd (decide (x55.2 = 0))
        (cnd (decide (x56.2 = 0))
          (bnd (F_tidegateref05_Same n x56.1 a0) fun x57 =>
          cnd (x57)
            (bnd (F_tidegatelaw05_awake n) fun x58 =>
            some x58)
          <| some false)
        <| some false)
      <| some false)
    <| some false) n (x6.1, x6.2.1, (((List.map (fun q => AV.sl 5 (List.map e_api_Event q)) (x6.2.1)).length : Nat) : Int), 0, []))
  <| cnd (decide (a2 < 0))
    (bnd (F_tidegatelaw05_awake n) fun x153 =>
    some x153)
  <| cnd (decide (1099511627776 ≤ a2))
    (bnd (F_tidegatelaw05_awake n) fun x154 =>
    some x154)
  <| bnd (F_stream_Slice n a0 0 a2) fun x155 =>
  bnd (F_stream_Slice n a0 (IntKind.wrap .i64 (a2 + 1)) 1099511627776) fun x156 =>
  bnd (F_stream_Merge n x155.1 x156.1) fun x157 =>
  cnd (decide (x155.2 = 0))
    (cnd (decide (x156.2 = 0))
      (cnd (decide (x157.2 = 0))
        (bnd (F_tidegateref05_Same n x157.1 a0) fun x158 =>
        cnd (x158)
          (bnd (F_tidegatelaw05_awake n) fun x159 =>
          some x159)
        <| some false)
      <| some false)
    <| some false)
  <| some false
end Go.Proofs.Ytkbopbgcjfcjjaa
namespace Go.Proofs.Ytkbopbgcjfcjjaa
open Go.RowKit

theorem chk_mk : ∀ (l p : List Ev), (∀ x ∈ l, placedB x = true) → (∀ x ∈ l, ∀ y ∈ p, idt y ≠ idt x) → l.Pairwise (fun x y => idt x ≠ idt y) → (match p, l with | x :: _, y :: _ => evCmp x y < 0 | _, _ => True) → l.Pairwise (fun x y => evCmp x y < 0) → chk p l = 0
  | [], p, _, _, _, _, _ => rfl
  | e :: l, p, h1, h2, h3, h4, h5 => by
    unfold chk
    rw [if_neg (by rw [h1 e (by simp)]; simp)]
    have h3' := List.pairwise_cons.1 h3
    have h5' := List.pairwise_cons.1 h5
    rw [if_neg (by
      cases p with
      | nil => simp [headGe]
      | cons x p => simp only [headGe, decide_eq_true_eq]; have h4 : evCmp x e < 0 := h4; omega)]
    rw [if_neg (by
      simp only [Bool.not_eq_true, List.any_eq_false, decide_eq_true_eq]
      exact fun y hy => h2 e (by simp) y hy)]
    refine chk_mk l (e :: p) (fun x hx => h1 x (by simp [hx])) (fun x hx y hy => ?_) h3'.2 ?_ h5'.2
    · rcases List.mem_cons.1 hy with rfl | hy
      · exact h3'.1 x hx
      · exact h2 x (by simp [hx]) y hy
    · cases l with
      | nil => trivial
      | cons z l => exact h5'.1 z (by simp)
theorem strChk_mk {l : List Ev} (h0 : l.length ≤ 4096) (h1 : ∀ x ∈ l, placedB x = true) (h3 : l.Pairwise (fun x y => idt x ≠ idt y)) (h5 : l.Pairwise (fun x y => evCmp x y < 0)) : strChk l = 0 := by
  unfold strChk
  rw [if_neg (by omega)]
  exact chk_mk l [] h1 (by simp) h3 (by trivial) h5
theorem stream_distI {l : List Ev} (h : l.Pairwise (fun x y => idt x ≠ idt y)) : DistI l ∧ l.Nodup := by
  refine ⟨fun x hx y hy hi => ?_, h.imp (fun h e => h (by rw [e]))⟩
  induction l with
  | nil => simp at hx
  | cons a l ih =>
    have h' := List.pairwise_cons.1 h
    rcases List.mem_cons.1 hx with hx | hx <;> rcases List.mem_cons.1 hy with hy | hy
    · rw [hx, hy]
    · exact absurd (hx ▸ hi) (h'.1 y hy)
    · exact absurd (hy ▸ hi.symm) (h'.1 x hx)
    · exact ih h'.2 hx hy
theorem stream_srt {l : List Ev} (h : strChk l = 0) : srt l = l := by
  obtain ⟨_, _, h3, h5⟩ := strChk_zero h
  obtain ⟨h1, h2⟩ := stream_distI h3
  refine (srt_uniq h1 (fun _ => Iff.rfl) h2 (h5.imp fun {x y} hxy => ?_)).symm
  have : ltOf evCmp x y = true := by simpa [ltOf] using hxy
  cases h3 : ltOf evCmp y x with
  | false => rfl
  | true => have := evCmp_swo.trans _ _ _ h3 this; rw [evCmp_swo.irrefl] at this; cases this
end Go.Proofs.Ytkbopbgcjfcjjaa
namespace Go.Proofs.Ytkbopbgcjfcjjaa
open Go.RowKit

theorem stream_dist {l : List Ev} (h : strChk l = 0) : DistI l ∧ l.Nodup := stream_distI (strChk_zero h).2.2.1
end Go.Proofs.Ytkbopbgcjfcjjaa
namespace Go.Proofs.Ytkbopbgcjfcjjaa
open Go.RowKit

section
variable {α β κ ν : Type}
theorem nle_nat {i len : Nat} (h : i ≤ len) (k : Nat → Option β) : nle (i : Int) len k = k i := by unfold nle; simp [h]
theorem clr_ok {l : List α} {lo : Nat} (h : lo ≤ l.length) (z : α) (k : List α → Option β) : clr l lo z k = k (clrL l lo z) := by unfold clr; simp [h]
end

end Go.Proofs.Ytkbopbgcjfcjjaa
namespace Go.Proofs.Ytkbopbgcjfcjjaa
open Go.RowKit
set_option maxHeartbeats 400000 in
theorem clone15_any (l : List (Cel 5)) (S : Nat → Prop) (v : Value) (w : World) (h : Sl w S 5 encC v l) (hl : l.length ≤ 1000000000) :
    Calls Try.prog 15 #[v] w (RetOwn 41 5 encC l w) := by
  have eok : EOk Try.prog 22 41 5 56 (encC (n := 5)) := eokC (sz := 5) tyOk22 rfl tyOk41 (by omega) rfl
  obtain ⟨A, c, rfl, hc, _⟩ := h.form
  have hq := fun (W : World) => Lib.run_eql_slice_nil W 22 41 A l.length c 0 0 Try.underlying22
  have H := hide h
  cases A with
  | none =>
    have h0 : l = [] := h.none_nil
    subst h0
    clear h H hl hc
    simp only [List.length_nil, Option.isNone_none] at hq ⊢
    go_enter Try.func15, Try.ntmps15
    go_wp2
    go_ret
    exact ⟨none, 0, rfl, Own.nil_, by go_grown⟩
  | some ad =>
    clear h
    go_enter Try.func15, Try.ntmps15
    go_wp2_with (at_builtin; refine wpList_append_sl rfl _ _ rfl eok rfl Own.made_ rfl (H.out.alloc _) (by simp; omega) (by omega) (by simp) ?_; intro A' c' w1 ho hg _)
    go_ret
    exact ⟨A', c', rfl, ho, (Own.made_ (sz := 5) (enc := encC (n := 5))).grown ((Below.refl _ _).alloc (Nat.le_refl _) _) (Nat.le_refl _) (by simp) hg⟩
theorem conT_clone15 {n : Nat} {a r : List T_api_Event} (hF : F_clone n a = some r) : ConT E0 15 [.sl 5 (List.map e_api_Event a)] 41 5 (List.map e_api_Event r) (.row 0) := clone_gen rfl (enters_of Try.func15 rfl rfl) clone15_any hF
def R_tidegatelaw05_StreamDivides_1 (r : Bool) : AV := .bool (r)
theorem con_tidegatelaw05_StreamDivides_1 {n : Nat} {a0 : T_api_Event} {a1 : (List Int)} {r : Bool} (hF : F_tidegatelaw05_StreamDivides_1 n a0 a1 = some r) : Con E0 true 16 [.agg [aI (a0.fSource), aI (a0.fSeq), aI (a0.fType), aI (a0.fTime), .sl 3 (List.map e_api_Value (a0.fValues))], .ref [.sl 1 (List.map aI (a1))]] (R_tidegatelaw05_StreamDivides_1 r) := by
  unfold F_tidegatelaw05_StreamDivides_1 at hF
  refine Con.walk _ Try.func16 rfl (enters_of Try.func16 rfl rfl) rfl (Or.inr rfl) ?_
  repeat' first
    | (refine AW.step ?_; conv => whnf)
    | (refine CondX.o hF (fun hF => ?_) (fun hF => ?_))
    | (refine CondX.t ?_)
    | (refine CondX.f ?_)
    | (refine CallX.o hF R_tidegateref05_Key (fun a h => con_tidegateref05_Key h) (fun a hF => ?_))
    | (refine And.intro ⟨by kernel_rfl, by kernel_rfl⟩ ?_)
    | (refine EqX.mk (by first | rfl | kernel_rfl) ?_)
    | (exact RetX.o hF (by repeat' first | exact Sub.nil _ | exact Sub.refl _ | refine Sub.agg ?_ | refine Sub.tup ?_ | refine Sub.fn ?_ | exact SubL.nil | refine SubL.cons ?_ ?_ | refine Sub.sl _ ?_ | exact SubE.nil | refine SubE.cons ?_ ?_))

def S_slices_IndexFunc_s45_l1 (a1c0 : (List Int)) (a0 : (List T_api_Event)) (v1_0 : Int) : AS := ⟨[(0, .sl 5 (List.map e_api_Event (a0))), (1, .fn 16 [.ref [.sl 1 (List.map aI (a1c0))]]), (7, aI ((((List.map e_api_Event (a0)).length : Nat) : Int))), (8, aI (v1_0))], []⟩
theorem slices_IndexFunc_s45_l1_o {n N : Nat} {a1c0 : (List Int)} {a0 : (List T_api_Event)} {k1_0_0 : Option (Int)} {R : Exit → AS → Prop} {K : List KItem} {c : Code} {σ : AS} {v0 : Int} {r : Int} (hF : F_slices_IndexFunc_s45_l1 n a1c0 a0 k1_0_0 N v0 = some r) (hl : LeX E0 19 σ (S_slices_IndexFunc_s45_l1 a1c0 a0 v0)) (round : ∀ m v, F_slices_IndexFunc_s45_l1 n a1c0 a0 k1_0_0 (m + 1) v = some r → AW E0 19 (thenA (fun σ' => ∃ v', F_slices_IndexFunc_s45_l1 n a1c0 a0 k1_0_0 m v' = some r ∧ LeX E0 19 σ' (S_slices_IndexFunc_s45_l1 a1c0 a0 v')) (AW E0 19 R K)) [.code c] .normal (S_slices_IndexFunc_s45_l1 a1c0 a0 v)) : LoopX E0 19 (fun next σ' => AW E0 19 (thenA next (AW E0 19 R K)) [.code c] .normal σ') σ :=
  LoopA.o (S := S_slices_IndexFunc_s45_l1 a1c0 a0) hF (fun _ => rfl) hl round
def R_slices_IndexFunc_s45 (r : Int) : AV := aI (r)
theorem con_slices_IndexFunc_s45 {n : Nat} {a0 : (List T_api_Event)} {a1c0 : (List Int)} {r : Int} (hF : F_slices_IndexFunc_s45 n a0 a1c0 = some r) : Con E0 true 35 [.sl 5 (List.map e_api_Event (a0)), .fn 16 [.ref [.sl 1 (List.map aI (a1c0))]]] (R_slices_IndexFunc_s45 r) := by
  unfold F_slices_IndexFunc_s45 at hF
  refine Con.walk _ Try.func35 rfl (enters_of Try.func35 rfl rfl) rfl (Or.inr rfl) ?_
  repeat' first
    | (refine AW.step ?_; conv => whnf)
    | (refine CondX.o hF (fun hF => ?_) (fun hF => ?_))
    | (refine CondX.t ?_)
    | (refine CondX.f ?_)
    | (refine IdxX.o e_api_Event hF (fun x hF => ?_))
    | (refine CallX.o hF R_tidegatelaw05_StreamDivides_1 (fun a h => con_tidegatelaw05_StreamDivides_1 h) (fun a hF => ?_))
    | (exact ⟨_, hF, LeX.of [] rfl ⟨⟨rfl, rfl⟩, ⟨rfl, rfl⟩, ⟨rfl, rfl⟩, ⟨rfl, rfl⟩, trivial⟩ trivial⟩)
    | (refine slices_IndexFunc_s45_l1_o hF (LeX.of [] rfl ⟨⟨rfl, rfl⟩, ⟨rfl, rfl⟩, ⟨rfl, rfl⟩, ⟨rfl, rfl⟩, trivial⟩ trivial) (fun m v hF => ?_); unfold F_slices_IndexFunc_s45_l1 at hF)
    | (refine And.intro ⟨by kernel_rfl, by kernel_rfl⟩ ?_)
    | (refine EqX.mk (by first | rfl | kernel_rfl) ?_)
    | (exact RetX.o hF (by repeat' first | exact Sub.nil _ | exact Sub.refl _ | refine Sub.agg ?_ | refine Sub.tup ?_ | refine Sub.fn ?_ | exact SubL.nil | refine SubL.cons ?_ ?_ | refine Sub.sl _ ?_ | exact SubE.nil | refine SubE.cons ?_ ?_))

def M_tidegatelaw05_StreamDivides_1_s47 (a0 : T_api_Event) (m0 : (List Int)) : List (Nat × Ent) := [(100000, .box 23 [.sl 1 (List.map aI (m0))])]
def N_tidegatelaw05_StreamDivides_1_s47 (r : Bool × (List Int)) : List (Nat × Ent) := [(100000, .box 23 [.sl 1 (List.map aI (r.2))])]
def R_tidegatelaw05_StreamDivides_1_s47 (r : Bool × (List Int)) : AV := .bool (r.1)
def Z_tidegatelaw05_StreamDivides_1_s47 (r : Bool × (List Int)) : AS := ⟨[(3, .bool (r.1)), (1, .ptr 100000 0)], N_tidegatelaw05_StreamDivides_1_s47 r⟩
theorem con_tidegatelaw05_StreamDivides_1_s47 {n : Nat} {a0 : T_api_Event} {m0 : (List Int)} {r : Bool × (List Int)} (hF : F_tidegatelaw05_StreamDivides_1_s47 n a0 m0 = some r) : ConG E0.P none (CalF E0.P 16 0) [.agg [aI (a0.fSource), aI (a0.fSeq), aI (a0.fType), aI (a0.fTime), .sl 3 (List.map e_api_Value (a0.fValues))], .ptr 100000 0] [] (M_tidegatelaw05_StreamDivides_1_s47 a0 m0) (R_tidegatelaw05_StreamDivides_1_s47 r) (N_tidegatelaw05_StreamDivides_1_s47 r) := by
  unfold F_tidegatelaw05_StreamDivides_1_s47 at hF
  refine ConG.walk (E := (E0p 2)) (caps := []) _ Try.func16 rfl rfl rfl rfl rfl ?_
  repeat' first
    | (refine AW.step ?_; conv => whnf)
    | (refine CondX.o hF (fun hF => ?_) (fun hF => ?_))
    | (refine CondX.t ?_)
    | (refine CondX.f ?_)
    | (refine CallX.o hF R_tidegateref05_Key (fun a h => Con.env rfl rfl (con_tidegateref05_Key h)) (fun a hF => ?_))
    | (refine GX.o (res := R_tidegatelaw05_StreamDivides_1_s47) (meF := N_tidegatelaw05_StreamDivides_1_s47) hF ?_; exact GX.mk (Z_tidegatelaw05_StreamDivides_1_s47 _) (LeX.of [] rfl ⟨⟨rfl, rfl⟩, ⟨rfl, rfl⟩, trivial⟩ ⟨⟨rfl, rfl⟩, trivial⟩) rfl _ rfl (by repeat' first | exact Sub.nil _ | exact Sub.refl _ | refine Sub.agg ?_ | refine Sub.tup ?_ | refine Sub.fn ?_ | exact SubL.nil | refine SubL.cons ?_ ?_ | refine Sub.sl _ ?_ | exact SubE.nil | refine SubE.cons ?_ ?_) [] trivial rfl)
    | (refine And.intro ⟨by kernel_rfl, by kernel_rfl⟩ ?_)
    | (refine EqX.mk (by first | rfl | kernel_rfl) ?_)

def S_slices_DeleteFunc_l1 (v1_0 : Int × Int × (List Int) × (List T_api_Event)) : AS := ⟨[(0, .row 200001), (1, .fn 16 [.ptr 100000 0]), (5, aI (v1_0.1)), (6, aI (v1_0.2.1))], [(100000, .box 23 [.sl 1 (List.map aI (v1_0.2.2.1))]), (200001, .row 41 5 (List.map e_api_Event (v1_0.2.2.2)))]⟩
theorem slices_DeleteFunc_l1_o {n N : Nat} {k1_0_0 : Int → (List Int) → (List T_api_Event) → Option ((List T_api_Event) × (List Int))} {R : Exit → AS → Prop} {K : List KItem} {c : Code} {σ : AS} {v0 : Int × Int × (List Int) × (List T_api_Event)} {r : (List T_api_Event) × (List Int)} (hF : F_slices_DeleteFunc_l1 n k1_0_0 N v0 = some r) (hl : LeX (E0p 2) 42 σ (S_slices_DeleteFunc_l1 v0)) (round : ∀ m v, F_slices_DeleteFunc_l1 n k1_0_0 (m + 1) v = some r → AW (E0p 2) 42 (thenA (fun σ' => ∃ v', F_slices_DeleteFunc_l1 n k1_0_0 m v' = some r ∧ LeX (E0p 2) 42 σ' (S_slices_DeleteFunc_l1 v')) (AW (E0p 2) 42 R K)) [.code c] .normal (S_slices_DeleteFunc_l1 v)) : LoopX (E0p 2) 42 (fun next σ' => AW (E0p 2) 42 (thenA next (AW (E0p 2) 42 R K)) [.code c] .normal σ') σ :=
  LoopA.o (S := S_slices_DeleteFunc_l1) hF (fun _ => rfl) hl round
def M_slices_DeleteFunc (m0 : (List Int)) (m1 : (List T_api_Event)) : List (Nat × Ent) := [(100000, .box 23 [.sl 1 (List.map aI (m0))]), (200001, .row 41 5 (List.map e_api_Event (m1)))]
def N_slices_DeleteFunc (r : (List T_api_Event) × (List Int)) : List (Nat × Ent) := [(260000, .row 41 5 (List.map e_api_Event (r.1))), (100000, .box 23 [.sl 1 (List.map aI (r.2))])]
def R_slices_DeleteFunc (r : (List T_api_Event) × (List Int)) : AV := .row 260000
def Z_slices_DeleteFunc (r : (List T_api_Event) × (List Int)) : AS := ⟨[(4, .row 260000), (1, .fn 16 [.ptr 100000 0])], N_slices_DeleteFunc r⟩
theorem con_slices_DeleteFunc {n : Nat} {m0 : (List Int)} {m1 : (List T_api_Event)} {r : (List T_api_Event) × (List Int)} (hF : F_slices_DeleteFunc n m0 m1 = some r) : ConG E0.P none (CalF E0.P 14 0) [.row 200001, .fn 16 [.ptr 100000 0]] [] (M_slices_DeleteFunc m0 m1) (R_slices_DeleteFunc r) (N_slices_DeleteFunc r) := by
  unfold F_slices_DeleteFunc at hF
  refine ConG.walk (E := (E0p 2)) (caps := []) _ Try.func14 rfl rfl rfl rfl rfl ?_
  repeat' first
    | (refine AW.step ?_; conv => whnf)
    | (refine CondX.o hF (fun hF => ?_) (fun hF => ?_))
    | (refine CondX.t ?_)
    | (refine CondX.f ?_)
    | (refine CallC.o hF R_slices_IndexFunc_s45 (fun a h => Con.env rfl rfl (con_slices_IndexFunc_s45 h)) (fun _ => Or.inr rfl) (fun a hF => ?_))
    | (refine GX.o (res := R_slices_DeleteFunc) (meF := N_slices_DeleteFunc) hF ?_; exact GX.mk (Z_slices_DeleteFunc _) (LeX.of [(260000, 200001)] rfl ⟨⟨rfl, rfl⟩, ⟨rfl, rfl⟩, trivial⟩ ⟨⟨rfl, rfl⟩, ⟨rfl, rfl⟩, trivial⟩) rfl _ rfl (by repeat' first | exact Sub.nil _ | exact Sub.refl _ | refine Sub.agg ?_ | refine Sub.tup ?_ | refine Sub.fn ?_ | exact SubL.nil | refine SubL.cons ?_ ?_ | refine Sub.sl _ ?_ | exact SubE.nil | refine SubE.cons ?_ ?_) [100000] ⟨Or.inr ⟨1, 0, _, _, _, _, _, Nat.le_of_ble_eq_true rfl, rfl, rfl, rfl, rfl, rfl⟩, trivial⟩ rfl)
    | (refine OpX.sub hF rfl rfl rfl rfl rfl rfl rfl rfl rfl rfl (fun m hF => ?_))
    | (refine OpX.clr e_api_Event hF rfl rfl rfl rfl rfl rfl rfl rfl rfl rfl rfl (by first | exact SubL.refl _ | (repeat' first | exact SubL.nil | refine SubL.cons ?_ ?_ | exact Sub.refl _ | exact Sub.nil _ | refine Sub.agg ?_)) (fun l hF => ?_))
    | (refine SlsX.o e_api_Event hF (fun l hF => ?_))
    | (refine GX.o (res := R_slices_DeleteFunc) (meF := N_slices_DeleteFunc) hF ?_; exact GX.mk (Z_slices_DeleteFunc _) (LeX.of [(260000, 41)] rfl ⟨⟨rfl, rfl⟩, ⟨rfl, rfl⟩, trivial⟩ ⟨⟨rfl, rfl⟩, ⟨rfl, rfl⟩, trivial⟩) rfl _ rfl (by repeat' first | exact Sub.nil _ | exact Sub.refl _ | refine Sub.agg ?_ | refine Sub.tup ?_ | refine Sub.fn ?_ | exact SubL.nil | refine SubL.cons ?_ ?_ | refine Sub.sl _ ?_ | exact SubE.nil | refine SubE.cons ?_ ?_) [100000] ⟨Or.inr ⟨1, 0, _, _, _, _, _, Nat.le_of_ble_eq_true rfl, rfl, rfl, rfl, rfl, rfl⟩, trivial⟩ rfl)
    | (refine NatX.o hF (fun m hF => ?_))
    | (refine EltX.o e_api_Event hF (fun x hF => ?_))
    | (refine CallC.oM hF [(100000, 100000)] [(100000, 100000)] _ _ N_tidegatelaw05_StreamDivides_1_s47 R_tidegatelaw05_StreamDivides_1_s47 [] (fun a h => ConG.up (con_tidegatelaw05_StreamDivides_1_s47 h)) (enters_of Try.func16 rfl rfl) rfl rfl rfl ⟨⟨rfl, rfl⟩, trivial⟩ (fun a => ⟨rfl, rfl, rfl, rfl, rfl, rfl, rfl, rfl⟩) (fun a hF => ?_))
    | (refine CallX.oM hF [(100000, 100000)] [(100000, 100000)] _ _ N_tidegatelaw05_StreamDivides_1_s47 R_tidegatelaw05_StreamDivides_1_s47 [] (fun a h => ConG.up (con_tidegatelaw05_StreamDivides_1_s47 h)) (enters_of Try.func16 rfl rfl) rfl rfl rfl ⟨⟨rfl, rfl⟩, trivial⟩ (fun a => ⟨rfl, rfl, rfl, rfl, rfl, rfl, rfl, rfl⟩) (fun a hF => ?_))
    | (refine SetX.o e_api_Event hF (fun x => rfl) (fun x => (by first | exact SubL.refl _ | (repeat' first | exact SubL.nil | refine SubL.cons ?_ ?_ | exact Sub.refl _ | exact Sub.nil _ | refine Sub.agg ?_))) (fun l hF => ?_))
    | (exact ⟨_, hF, LeX.of [] rfl ⟨⟨rfl, rfl⟩, ⟨rfl, rfl⟩, ⟨rfl, rfl⟩, ⟨rfl, rfl⟩, trivial⟩ ⟨⟨rfl, rfl⟩, ⟨rfl, rfl⟩, trivial⟩⟩)
    | (refine slices_DeleteFunc_l1_o hF (LeX.of [] rfl ⟨⟨rfl, rfl⟩, ⟨rfl, rfl⟩, ⟨rfl, rfl⟩, ⟨rfl, rfl⟩, trivial⟩ ⟨⟨rfl, rfl⟩, ⟨rfl, rfl⟩, trivial⟩) (fun m v hF => ?_); unfold F_slices_DeleteFunc_l1 at hF)
    | (refine And.intro ⟨by kernel_rfl, by kernel_rfl⟩ ?_)
    | (refine EqX.mk (by first | rfl | kernel_rfl) ?_)

def S_tidegatelaw05_StreamDivides_l2 (a2 : Int) (a1 : (List Int)) (a0 : (List T_api_Event)) (v1_0 : (List T_api_Value) × (List (List T_api_Event)) × Int × Int × (List T_api_Event)) (x59 : (List T_api_Event)) (v2_1 : Int) : AS := ⟨[(0, .sl 5 (List.map e_api_Event (a0))), (2, aI (a2)), (4, .ptr 4 0), (7, .sl 3 (List.map e_api_Value (v1_0.1))), (10, .row 7108), (11, aI (v1_0.2.2.2.1)), (12, .sl 5 (List.map e_api_Event (x59))), (55, .sl 1 (List.map (fun q => AV.sl 5 (List.map e_api_Event q)) (v1_0.2.1))), (56, aI (v1_0.2.2.1)), (57, aI (v1_0.2.2.2.1)), (82, .sl 5 (List.map e_api_Event (x59))), (83, aI ((((List.map e_api_Event (x59)).length : Nat) : Int))), (84, aI (v2_1))], [(4, .box 23 [.sl 1 (List.map aI (a1))]), (7108, .row 41 5 (List.map e_api_Event (v1_0.2.2.2.2)))]⟩
theorem tidegatelaw05_StreamDivides_l2_o {n N : Nat} {a2 : Int} {a1 : (List Int)} {a0 : (List T_api_Event)} {v1_0 : (List T_api_Value) × (List (List T_api_Event)) × Int × Int × (List T_api_Event)} {x59 : (List T_api_Event)} {k2_1_0 : (List T_api_Event) → Option (Bool)} {R : Exit → AS → Prop} {K : List KItem} {c : Code} {σ : AS} {v0 : Int} {r : Bool} (hF : F_tidegatelaw05_StreamDivides_l2 n a2 a1 a0 v1_0 x59 k2_1_0 N v0 = some r) (hl : LeX E0 178 σ (S_tidegatelaw05_StreamDivides_l2 a2 a1 a0 v1_0 x59 v0)) (round : ∀ m v, F_tidegatelaw05_StreamDivides_l2 n a2 a1 a0 v1_0 x59 k2_1_0 (m + 1) v = some r → AW E0 178 (thenA (fun σ' => ∃ v', F_tidegatelaw05_StreamDivides_l2 n a2 a1 a0 v1_0 x59 k2_1_0 m v' = some r ∧ LeX E0 178 σ' (S_tidegatelaw05_StreamDivides_l2 a2 a1 a0 v1_0 x59 v')) (AW E0 178 R K)) [.code c] .normal (S_tidegatelaw05_StreamDivides_l2 a2 a1 a0 v1_0 x59 v)) : LoopX E0 178 (fun next σ' => AW E0 178 (thenA next (AW E0 178 R K)) [.code c] .normal σ') σ :=
  LoopA.o (S := S_tidegatelaw05_StreamDivides_l2 a2 a1 a0 v1_0 x59) hF (fun _ => rfl) hl round
def S_tidegatelaw05_StreamDivides_l3 (a2 : Int) (a1 : (List Int)) (a0 : (List T_api_Event)) (v1_0 : (List T_api_Value) × (List (List T_api_Event)) × Int × Int × (List T_api_Event)) (x59 : (List T_api_Event)) (v3_2 : Int) : AS := ⟨[(0, .sl 5 (List.map e_api_Event (a0))), (2, aI (a2)), (4, .ptr 4 0), (7, .sl 3 (List.map e_api_Value (v1_0.1))), (10, .row 7108), (11, aI (v1_0.2.2.2.1)), (12, .sl 5 (List.map e_api_Event (x59))), (55, .sl 1 (List.map (fun q => AV.sl 5 (List.map e_api_Event q)) (v1_0.2.1))), (56, aI (v1_0.2.2.1)), (57, aI (v1_0.2.2.2.1)), (82, .sl 5 (List.map e_api_Event (x59))), (83, aI ((((List.map e_api_Event (x59)).length : Nat) : Int))), (84, aI (v3_2))], [(4, .box 23 [.sl 1 (List.map aI (a1))]), (7108, .row 41 5 (List.map e_api_Event (v1_0.2.2.2.2)))]⟩
theorem tidegatelaw05_StreamDivides_l3_o {n N : Nat} {a2 : Int} {a1 : (List Int)} {a0 : (List T_api_Event)} {v1_0 : (List T_api_Value) × (List (List T_api_Event)) × Int × Int × (List T_api_Event)} {x59 : (List T_api_Event)} {k3_2_0 : (List T_api_Event) → Option (Bool)} {R : Exit → AS → Prop} {K : List KItem} {c : Code} {σ : AS} {v0 : Int} {r : Bool} (hF : F_tidegatelaw05_StreamDivides_l3 n a2 a1 a0 v1_0 x59 k3_2_0 N v0 = some r) (hl : LeX E0 178 σ (S_tidegatelaw05_StreamDivides_l3 a2 a1 a0 v1_0 x59 v0)) (round : ∀ m v, F_tidegatelaw05_StreamDivides_l3 n a2 a1 a0 v1_0 x59 k3_2_0 (m + 1) v = some r → AW E0 178 (thenA (fun σ' => ∃ v', F_tidegatelaw05_StreamDivides_l3 n a2 a1 a0 v1_0 x59 k3_2_0 m v' = some r ∧ LeX E0 178 σ' (S_tidegatelaw05_StreamDivides_l3 a2 a1 a0 v1_0 x59 v')) (AW E0 178 R K)) [.code c] .normal (S_tidegatelaw05_StreamDivides_l3 a2 a1 a0 v1_0 x59 v)) : LoopX E0 178 (fun next σ' => AW E0 178 (thenA next (AW E0 178 R K)) [.code c] .normal σ') σ :=
  LoopA.o (S := S_tidegatelaw05_StreamDivides_l3 a2 a1 a0 v1_0 x59) hF (fun _ => rfl) hl round
def S_tidegatelaw05_StreamDivides_l1 (a2 : Int) (a1 : (List Int)) (a0 : (List T_api_Event)) (v1_0 : (List T_api_Value) × (List (List T_api_Event)) × Int × Int × (List T_api_Event)) : AS := ⟨[(0, .sl 5 (List.map e_api_Event (a0))), (2, aI (a2)), (4, .ptr 4 0), (7, .sl 3 (List.map e_api_Value (v1_0.1))), (10, .row 7108), (55, .sl 1 (List.map (fun q => AV.sl 5 (List.map e_api_Event q)) (v1_0.2.1))), (56, aI (v1_0.2.2.1)), (57, aI (v1_0.2.2.2.1))], [(4, .box 23 [.sl 1 (List.map aI (a1))]), (7108, .row 41 5 (List.map e_api_Event (v1_0.2.2.2.2)))]⟩
theorem tidegatelaw05_StreamDivides_l1_o {n N : Nat} {a2 : Int} {a1 : (List Int)} {a0 : (List T_api_Event)} {k1_0_0 : (List T_api_Event) → Option (Bool)} {R : Exit → AS → Prop} {K : List KItem} {c : Code} {σ : AS} {v0 : (List T_api_Value) × (List (List T_api_Event)) × Int × Int × (List T_api_Event)} {r : Bool} (hF : F_tidegatelaw05_StreamDivides_l1 n a2 a1 a0 k1_0_0 N v0 = some r) (hl : LeX E0 178 σ (S_tidegatelaw05_StreamDivides_l1 a2 a1 a0 v0)) (round : ∀ m v, F_tidegatelaw05_StreamDivides_l1 n a2 a1 a0 k1_0_0 (m + 1) v = some r → AW E0 178 (thenA (fun σ' => ∃ v', F_tidegatelaw05_StreamDivides_l1 n a2 a1 a0 k1_0_0 m v' = some r ∧ LeX E0 178 σ' (S_tidegatelaw05_StreamDivides_l1 a2 a1 a0 v')) (AW E0 178 R K)) [.code c] .normal (S_tidegatelaw05_StreamDivides_l1 a2 a1 a0 v)) : LoopX E0 178 (fun next σ' => AW E0 178 (thenA next (AW E0 178 R K)) [.code c] .normal σ') σ :=
  LoopA.o (S := S_tidegatelaw05_StreamDivides_l1 a2 a1 a0) hF (fun _ => rfl) hl round
def R_tidegatelaw05_StreamDivides (r : Bool) : AV := .bool (r)
theorem con_tidegatelaw05_StreamDivides {n : Nat} {a0 : (List T_api_Event)} {a1 : (List Int)} {a2 : Int} {r : Bool} (hF : F_tidegatelaw05_StreamDivides n a0 a1 a2 = some r) : Con E0 true 4 [.sl 5 (List.map e_api_Event (a0)), .sl 1 (List.map aI (a1)), aI (a2)] (R_tidegatelaw05_StreamDivides r) := by
  unfold F_tidegatelaw05_StreamDivides at hF
  refine Con.walk _ Try.func4 rfl (enters_of Try.func4 rfl rfl) rfl (Or.inr rfl) ?_
  repeat' first
    | (refine AW.regO hF (fun hF => ?_))
    | (refine AW.frzO hF 7108 rfl (fun hF => ?_))
    | (refine AW.stepU [23] ?_; conv => whnf)
    | (refine CondX.o hF (fun hF => ?_) (fun hF => ?_))
    | (refine CondX.t ?_)
    | (refine CondX.f ?_)
    | (refine CallX.o hF R_tidegateref05_Few (fun a h => con_tidegateref05_Few h) (fun a hF => ?_))
    | (refine CallX.o hF R_tidegatelaw05_awake (fun a h => con_tidegatelaw05_awake h) (fun a hF => ?_))
    | (refine CallX.o hF R_tidegateref05_Check (fun a h => con_tidegateref05_Check h) (fun a hF => ?_))
    | (refine CallX.o hF R_stream_Split (fun a h => con_stream_Split h) (fun a hF => ?_))
    | (refine CallX.oR hF (fun r => r) e_api_Event (fun _ => AV.row 0) rfl (fun a h => conT_clone15 h) (fun a hF => ?_))
    | (refine CallX.oR hF (fun r => r) e_api_Event (fun _ => AV.row 0) rfl (fun a h => ConT.sub (by repeat' first | exact Sub.nil _ | exact Sub.refl _ | refine Sub.agg ?_ | refine Sub.tup ?_ | refine Sub.fn ?_ | exact SubL.nil | refine SubL.cons ?_ ?_ | refine Sub.sl _ ?_ | exact SubE.nil | refine SubE.cons ?_ ?_) (conT_clone15 h)) (fun a hF => ?_))
    | (refine CallC.oM hF [(100000, 4), (200001, 111)] [(260000, 114000000), (100000, 4)] _ _ N_slices_DeleteFunc R_slices_DeleteFunc [111] (fun a h => ConG.up (con_slices_DeleteFunc h)) (enters_of Try.func14 rfl rfl) rfl rfl rfl ⟨⟨rfl, rfl⟩, ⟨⟨rfl, rfl⟩, trivial⟩⟩ (fun a => ⟨rfl, rfl, rfl, rfl, rfl, rfl, rfl, rfl⟩) (fun a hF => ?_))
    | (refine CallX.oM hF [(100000, 4), (200001, 111)] [(260000, 114000000), (100000, 4)] _ _ N_slices_DeleteFunc R_slices_DeleteFunc [111] (fun a h => ConG.up (con_slices_DeleteFunc h)) (enters_of Try.func14 rfl rfl) rfl rfl rfl ⟨⟨rfl, rfl⟩, ⟨⟨rfl, rfl⟩, trivial⟩⟩ (fun a => ⟨rfl, rfl, rfl, rfl, rfl, rfl, rfl, rfl⟩) (fun a hF => ?_))
    | (refine CallX.o hF R_stream_Sort (fun a h => con_stream_Sort h) (fun a hF => ?_))
    | (refine CallC.o hF R_tidegateref05_Same (fun a h => con_tidegateref05_Same h) (fun _ => Or.inr rfl) (fun a hF => ?_))
    | (refine CallX.o hF R_stream_Slice (fun a h => con_stream_Slice h) (fun a hF => ?_))
    | (refine CallX.o hF R_stream_Merge (fun a h => con_stream_Merge h) (fun a hF => ?_))
    | (refine CallX.o hF R_tidegateref05_Same (fun a h => con_tidegateref05_Same h) (fun a hF => ?_))
    | (refine IdxX.o (fun q => AV.sl 5 (List.map e_api_Event q)) hF (fun x hF => ?_))
    | (refine IdxX.o e_api_Value hF (fun x hF => ?_))
    | (refine CallX.o hF R_tidegateref01_Compare (fun a h => con_tidegateref01_Compare h) (fun a hF => ?_))
    | (refine AppX.o e_api_Event hF (by first | exact SubR.refl _ | (repeat' first | exact SubR.nil | refine SubR.cons ?_ ?_ | exact SubL.nil | refine SubL.cons ?_ ?_ | exact Sub.refl _ | exact Sub.nil _)) (fun l hF => ?_))
    | (exact ⟨_, hF, LeX.of [(7108, 108)] rfl ⟨⟨rfl, rfl⟩, ⟨rfl, rfl⟩, ⟨rfl, rfl⟩, ⟨rfl, rfl⟩, ⟨rfl, rfl⟩, ⟨rfl, rfl⟩, ⟨rfl, rfl⟩, ⟨rfl, rfl⟩, trivial⟩ ⟨⟨rfl, rfl⟩, ⟨rfl, rfl⟩, trivial⟩⟩)
    | (refine IdxX.o e_api_Event hF (fun x hF => ?_))
    | (refine CallX.o hF R_tidegateref05_Key (fun a h => con_tidegateref05_Key h) (fun a hF => ?_))
    | (exact ⟨_, hF, LeX.of [] rfl ⟨⟨rfl, rfl⟩, ⟨rfl, rfl⟩, ⟨rfl, rfl⟩, ⟨rfl, rfl⟩, ⟨rfl, rfl⟩, ⟨rfl, rfl⟩, ⟨rfl, rfl⟩, ⟨rfl, rfl⟩, ⟨rfl, rfl⟩, ⟨rfl, rfl⟩, ⟨rfl, rfl⟩, ⟨rfl, rfl⟩, ⟨rfl, rfl⟩, trivial⟩ ⟨⟨rfl, rfl⟩, ⟨rfl, rfl⟩, trivial⟩⟩)
    | (refine tidegatelaw05_StreamDivides_l2_o hF (LeX.of [] rfl ⟨⟨rfl, rfl⟩, ⟨rfl, rfl⟩, ⟨rfl, rfl⟩, ⟨rfl, rfl⟩, ⟨rfl, rfl⟩, ⟨rfl, rfl⟩, ⟨rfl, rfl⟩, ⟨rfl, rfl⟩, ⟨rfl, rfl⟩, ⟨rfl, rfl⟩, ⟨rfl, rfl⟩, ⟨rfl, rfl⟩, ⟨rfl, rfl⟩, trivial⟩ ⟨⟨rfl, rfl⟩, ⟨rfl, rfl⟩, trivial⟩) (fun m v hF => ?_); unfold F_tidegatelaw05_StreamDivides_l2 at hF)
    | (refine tidegatelaw05_StreamDivides_l3_o hF (LeX.of [] rfl ⟨⟨rfl, rfl⟩, ⟨rfl, rfl⟩, ⟨rfl, rfl⟩, ⟨rfl, rfl⟩, ⟨rfl, rfl⟩, ⟨rfl, rfl⟩, ⟨rfl, rfl⟩, ⟨rfl, rfl⟩, ⟨rfl, rfl⟩, ⟨rfl, rfl⟩, ⟨rfl, rfl⟩, ⟨rfl, rfl⟩, ⟨rfl, rfl⟩, trivial⟩ ⟨⟨rfl, rfl⟩, ⟨rfl, rfl⟩, trivial⟩) (fun m v hF => ?_); unfold F_tidegatelaw05_StreamDivides_l3 at hF)
    | (refine tidegatelaw05_StreamDivides_l1_o hF (LeX.trans (LeX.adopt 10 7108 41 5 rfl rfl) (LeX.of [] rfl ⟨⟨rfl, rfl⟩, ⟨rfl, rfl⟩, ⟨rfl, rfl⟩, ⟨rfl, rfl⟩, ⟨rfl, rfl⟩, ⟨rfl, rfl⟩, ⟨rfl, rfl⟩, ⟨rfl, rfl⟩, trivial⟩ ⟨⟨rfl, rfl⟩, ⟨rfl, rfl⟩, trivial⟩)) (fun m v hF => ?_); unfold F_tidegatelaw05_StreamDivides_l1 at hF)
    | (refine And.intro ⟨by kernel_rfl, by kernel_rfl⟩ ?_)
    | (refine EqX.mk (by first | rfl | kernel_rfl) ?_)
    | (exact RetX.o hF (by repeat' first | exact Sub.nil _ | exact Sub.refl _ | refine Sub.agg ?_ | refine Sub.tup ?_ | refine Sub.fn ?_ | exact SubL.nil | refine SubL.cons ?_ ?_ | refine Sub.sl _ ?_ | exact SubE.nil | refine SubE.cons ?_ ?_))

end Go.Proofs.Ytkbopbgcjfcjjaa
namespace Go.Proofs.Ytkbopbgcjfcjjaa
open Go.RowKit

theorem p_no (n : Nat) (ks : List Int) (e : Ev) : F_tidegatelaw05_StreamDivides_1 n e ks = some (!kOk ks e) := by
  unfold F_tidegatelaw05_StreamDivides_1
  rw [p_rkey, bnd_some]
  rfl
theorem p_noM (n : Nat) (ks : List Int) (e : Ev) : F_tidegatelaw05_StreamDivides_1_s47 n e ks = some (!kOk ks e, ks) := by
  unfold F_tidegatelaw05_StreamDivides_1_s47
  rw [p_rkey, bnd_some]
  rfl
theorem p_idxD_l1 (n : Nat) (ks : List Int) (l : List Ev) : ∀ (m k : Nat), k ≤ l.length → l.length ≤ 1000000 → l.length < m + k → (∀ x ∈ l.take k, kOk ks x = true) →
    ∃ r : Int, F_slices_IndexFunc_s45_l1 n ks l (some (-1)) m (k : Int) = some r ∧ ((r = -1 ∧ ∀ x ∈ l, kOk ks x = true) ∨ ∃ (i : Nat) (h : i < l.length), r = (i : Int) ∧ (∀ x ∈ l.take i, kOk ks x = true) ∧ kOk ks l[i] = false)
  | 0, k, h1, h2, h3, _ => by omega
  | m + 1, k, h1, h2, h3, hx => by
    unfold F_slices_IndexFunc_s45_l1
    simp only [List.length_map, cnd_if]
    by_cases h : k < l.length
    · rw [if_pos (by omega), idx_nat h, wrapS k (by omega)]
      simp only [p_no, bnd_some]
      cases hk : kOk ks l[k] with
      | false => exact ⟨k, by simp [cnd_t], Or.inr ⟨k, h, rfl, hx, hk⟩⟩
      | true =>
        simp only [Bool.not_true, cnd_f]
        refine p_idxD_l1 n ks l m (k + 1) (by omega) h2 (by omega) (fun x hx' => ?_)
        rw [List.take_succ_eq_append_getElem h] at hx'
        simp only [List.mem_append, List.mem_singleton] at hx'
        rcases hx' with hx' | rfl
        · exact hx x hx'
        · exact hk
    · rw [if_neg (by omega)]
      rw [List.take_of_length_le (by omega)] at hx
      exact ⟨-1, rfl, Or.inl ⟨rfl, hx⟩⟩
theorem p_del_l1 (n : Nat) (ks : List Int) (l : List Ev) (K : Int → List Int → List Ev → Option (List Ev × List Int)) (r : Option (List Ev × List Int)) (hK : ∀ (i : Nat) (cur : List Ev), cur.length = l.length → i ≤ l.length → cur.take i = l.filter (kOk ks) → K (i : Int) ks cur = r) :
    ∀ (m i j : Nat) (cur : List Ev), i ≤ j → j ≤ l.length → l.length ≤ 1000000 → l.length < m + j → cur.length = l.length → cur.take i = (l.take j).filter (kOk ks) → cur.drop j = l.drop j → F_slices_DeleteFunc_l1 n K m ((i : Int), (j : Int), ks, cur) = r
  | 0, i, j, cur, h0, h1, h2, h3, h4, h5, h6 => by omega
  | m + 1, i, j, cur, h0, h1, h2, h3, h4, h5, h6 => by
    unfold F_slices_DeleteFunc_l1
    simp only [List.length_map, cnd_if]
    by_cases h : j < l.length
    · have hc : j < cur.length := by omega
      rw [if_pos (by omega), nat_nat hc, elt_ok hc, wrapS i (by omega), wrapS j (by omega)]
      simp only [p_noM, bnd_some, Bool.not_not]
      have hcj : cur[j] = l[j] := by
        have := congrArg (fun q => q[0]?) h6
        simp only [List.getElem?_drop, Nat.add_zero, List.getElem?_eq_getElem hc, List.getElem?_eq_getElem h, Option.some.injEq] at this
        exact this
      have hd : cur.drop (j + 1) = l.drop (j + 1) := by
        have := congrArg List.tail h6
        simpa using this
      have ht : (l.take (j + 1)).filter (kOk ks) = (l.take j).filter (kOk ks) ++ (if kOk ks l[j] = true then [l[j]] else []) := by
        rw [List.take_succ_eq_append_getElem h, List.filter_append, List.filter_cons]
        rfl
      rw [hcj]
      cases hk : kOk ks l[j] with
      | true =>
        have hi : i < cur.length := by omega
        simp only [cnd_t]
        rw [nat_nat hi, stx_ok hi]
        rw [hk] at ht
        refine p_del_l1 n ks l K r hK m (i + 1) (j + 1) _ (by omega) (by omega) h2 (by omega) (by simp [h4]) ?_ ?_
        · rw [ht, if_pos rfl, ← h5, List.take_succ_eq_append_getElem (by simpa using hi)]
          simp [List.take_set_of_le]
        · rw [← hd, List.drop_set_of_lt (by omega)]
      | false =>
        simp only [cnd_f]
        rw [hk] at ht
        exact p_del_l1 n ks l K r hK m i (j + 1) _ (by omega) (by omega) h2 (by omega) h4 (by rw [ht, h5]; simp) hd
    · rw [if_neg (by omega)]
      have hj : j = l.length := by omega
      subst hj
      rw [List.take_length] at h5
      exact hK i cur h4 (by omega) h5
theorem p_delete (n : Nat) (ks : List Int) (l : List Ev) (hn : l.length < n) (h2 : l.length ≤ 100000) : F_slices_DeleteFunc n ks l = some (l.filter (kOk ks), ks) := by
  unfold F_slices_DeleteFunc F_slices_IndexFunc_s45
  obtain ⟨r, hr, hcase⟩ := p_idxD_l1 n ks l n 0 (by omega) (by omega) (by omega) (by simp)
  rw [show ((0 : Nat) : Int) = 0 from rfl] at hr
  rw [hr, bnd_some]
  rcases hcase with ⟨rfl, hall⟩ | ⟨i, hi, rfl, hpre, hno⟩
  · rw [cnd_if, if_pos rfl, List.filter_eq_self.2 hall]
  · rw [cnd_if, if_neg (by omega), wrapS i (by omega)]
    refine p_del_l1 n ks l _ _ (fun q cur hc hq ht => ?_) n i (i + 1) l (by omega) (by omega) (by omega) (by omega) rfl ?_ rfl
    · simp only [List.length_map]
      rw [nle_nat (by omega), clr_ok (by omega)]
      have hlen := clrL_length cur q (⟨0, 0, 0, 0, []⟩ : T_api_Event) (by omega)
      have := sls_ok (l := clrL cur q (⟨0, 0, 0, 0, []⟩ : T_api_Event)) (a := 0) (b := q) (by omega) (by omega) (fun x47 => some (x47, ks))
      refine this.trans ?_
      rw [List.drop_zero]
      congr 2
      rw [← ht]
      unfold clrL
      rw [List.take_append_of_le_length (by simp; omega), List.take_take, Nat.min_self]
    · rw [List.take_succ_eq_append_getElem hi, List.filter_append, List.filter_eq_self.2 hpre]
      simp [hno]

theorem p_part_l2 (n : Nat) (a2 : Int) (ks : List Int) (l : List Ev) (A : List Va) (P : List (List Ev)) (c : Int) (i : Nat) (acc : List Ev) (hi : i < A.length) (p : List Ev) (hp : ∀ x ∈ p, inK ks A[i] x = true) (K : List Ev → Option Bool) : ∀ (m k : Nat), k ≤ p.length → p.length ≤ 1000000 → p.length < m + k →
    F_tidegatelaw05_StreamDivides_l2 n a2 ks l (A, P, c, (i : Int), acc) p K m (k : Int) = K p
  | 0, k, h1, h2, h3 => by omega
  | m + 1, k, h1, h2, h3 => by
    unfold F_tidegatelaw05_StreamDivides_l2
    simp only [List.length_map, cnd_if]
    by_cases h : k < p.length
    · have hx := hp _ (List.getElem_mem h)
      simp only [inK, Bool.and_eq_true, decide_eq_true_eq] at hx
      rw [if_pos (by omega), idx_nat h, wrapS k (by omega)]
      simp only [p_rkey, bnd_some, keyP_eq, hx.1, Bool.not_true, cnd_f, idx_nat hi, val_eq, hx.2, decide_true]
      exact p_part_l2 n a2 ks l A P c i acc hi p hp K m (k + 1) (by omega) h2 (by omega)
    · rw [if_neg (by omega)]
theorem p_part_l3 (n : Nat) (a2 : Int) (ks : List Int) (l : List Ev) (A : List Va) (P : List (List Ev)) (c : Int) (i : Nat) (acc : List Ev) (hi : i < A.length) (p : List Ev) (hp : ∀ x ∈ p, inK ks A[i] x = true) (K : List Ev → Option Bool) : ∀ (m k : Nat), k ≤ p.length → p.length ≤ 1000000 → p.length < m + k →
    F_tidegatelaw05_StreamDivides_l3 n a2 ks l (A, P, c, (i : Int), acc) p K m (k : Int) = K p
  | 0, k, h1, h2, h3 => by omega
  | m + 1, k, h1, h2, h3 => by
    unfold F_tidegatelaw05_StreamDivides_l3
    simp only [List.length_map, cnd_if]
    by_cases h : k < p.length
    · have hx := hp _ (List.getElem_mem h)
      simp only [inK, Bool.and_eq_true, decide_eq_true_eq] at hx
      rw [if_pos (by omega), idx_nat h, wrapS k (by omega)]
      simp only [p_rkey, bnd_some, keyP_eq, hx.1, Bool.not_true, cnd_f, idx_nat hi, val_eq, hx.2, decide_true]
      exact p_part_l3 n a2 ks l A P c i acc hi p hp K m (k + 1) (by omega) h2 (by omega)
    · rw [if_neg (by omega)]
theorem p_parts (n : Nat) (a2 : Int) (ks : List Int) (l : List Ev) (A : List Va) (hA : A.Pairwise (fun x y => vaCmp x y < 0)) (hne : ∀ v ∈ A, ∃ e ∈ l, inK ks v e = true) (hn : l.length < n) (hl : l.length ≤ 100) (hAl : A.length ≤ 100) (K : List Ev → Option Bool) :
    ∀ (m i : Nat) (acc : List Ev), i ≤ A.length → A.length < m + i → acc.length ≤ i * 100 → F_tidegatelaw05_StreamDivides_l1 n a2 ks l K m (A, A.map (fun v => l.filter (inK ks v)), (A.length : Int), (i : Int), acc) = K (acc ++ ((A.drop i).map fun v => l.filter (inK ks v)).flatten)
  | 0, i, acc, h1, h2, h3 => by omega
  | m + 1, i, acc, h1, h2, h3 => by
    unfold F_tidegatelaw05_StreamDivides_l1
    simp only [List.length_map, cnd_if]
    by_cases h : i < A.length
    · have hP : i < (A.map (fun v => l.filter (inK ks v))).length := by simpa using h
      have hpl := List.length_filter_le (inK ks A[i]) l
      have hin : ∀ x ∈ l.filter (inK ks A[i]), inK ks A[i] x = true := fun x hx => (List.mem_filter.1 hx).2
      obtain ⟨e, he, hev⟩ := hne A[i] (List.getElem_mem h)
      have hpos : 0 < (l.filter (inK ks A[i])).length := List.length_pos_of_mem (List.mem_filter.2 ⟨he, hev⟩)
      have hd : ((A.drop i).map fun v => l.filter (inK ks v)).flatten = l.filter (inK ks A[i]) ++ ((A.drop (i + 1)).map fun v => l.filter (inK ks v)).flatten := by rw [drop_eq_cons A i h]; rfl
      have hgo := p_parts n a2 ks l A hA hne hn hl hAl K m (i + 1) (acc ++ l.filter (inK ks A[i])) (by omega) (by omega) (by rw [List.length_append]; omega)
      rw [if_pos (by omega), idx_nat hP, wrapS i (by omega), List.getElem_map]
      rw [if_neg (by omega)]
      rw [hd, ← List.append_assoc, ← hgo]
      by_cases hi0 : 0 < i
      · rw [if_pos (by omega), wrap_pred hi0 (by omega), idx_nat (show i - 1 < A.length by omega), idx_nat h, p_rcmp1, bnd_some]
        have hlt : vaCmp (A[i - 1]'(by omega)) A[i] < 0 := List.pairwise_iff_getElem.1 hA (i - 1) i (by omega) h (by omega)
        rw [if_neg (by omega)]
        have := p_part_l2 n a2 ks l A (A.map (fun v => l.filter (inK ks v))) (A.length : Int) i acc h (l.filter (inK ks A[i])) hin (fun k2_1_0y => app acc k2_1_0y 56 fun x104 => F_tidegatelaw05_StreamDivides_l1 n a2 ks l K m (A, A.map (fun v => l.filter (inK ks v)), (A.length : Int), ((i + 1 : Nat) : Int), x104)) n 0 (by omega) (by omega) (by omega)
        refine this.trans ?_
        rw [app_ok (by omega) (by omega)]
      · rw [if_neg (by omega)]
        have := p_part_l3 n a2 ks l A (A.map (fun v => l.filter (inK ks v))) (A.length : Int) i acc h (l.filter (inK ks A[i])) hin (fun k2_1_0y => app acc k2_1_0y 56 fun x104 => F_tidegatelaw05_StreamDivides_l1 n a2 ks l K m (A, A.map (fun v => l.filter (inK ks v)), (A.length : Int), ((i + 1 : Nat) : Int), x104)) n 0 (by omega) (by omega) (by omega)
        refine this.trans ?_
        rw [app_ok (by omega) (by omega)]
    · rw [if_neg (by omega), List.drop_eq_nil_of_le (by omega)]; simp
theorem parts_all {ks : List Int} {l : List Ev} {A : List Va} (hs : strChk l = 0) (hA : A.Pairwise (fun x y => vaCmp x y < 0)) (hm : ∀ v, v ∈ A ↔ ∃ e ∈ l, inK ks v e = true) :
    srt (A.map fun v => l.filter (inK ks v)).flatten = l.filter (kOk ks) ∧ DistI (A.map fun v => l.filter (inK ks v)).flatten ∧ (∀ x, x ∈ (A.map fun v => l.filter (inK ks v)).flatten ↔ x ∈ l.filter (kOk ks)) ∧ (A.map fun v => l.filter (inK ks v)).flatten.length = (l.filter (kOk ks)).length := by
  have hmem : ∀ x, x ∈ (A.map fun v => l.filter (inK ks v)).flatten ↔ x ∈ l.filter (kOk ks) := fun x => by
    simp only [List.mem_flatten, List.mem_map, List.mem_filter]
    constructor
    · rintro ⟨p, ⟨v, hv, rfl⟩, hx⟩
      obtain ⟨h1, h2⟩ := List.mem_filter.1 hx
      simp only [inK, Bool.and_eq_true] at h2
      exact ⟨h1, h2.1⟩
    · rintro ⟨h1, h2⟩
      have hin : inK ks (kVal ks x) x = true := by simp [inK, h2]
      exact ⟨_, ⟨kVal ks x, (hm _).2 ⟨x, h1, hin⟩, rfl⟩, List.mem_filter.2 ⟨h1, hin⟩⟩
  obtain ⟨hd, hnd⟩ := stream_dist hs
  have hD : DistI (A.map fun v => l.filter (inK ks v)).flatten := fun x hx y hy => hd x (List.mem_filter.1 ((hmem x).1 hx)).1 y (List.mem_filter.1 ((hmem y).1 hy)).1
  have hss := srt_sorted l
  rw [stream_srt hs] at hss
  refine ⟨(srt_uniq hD (fun x => (hmem x).symm) (hnd.sublist List.filter_sublist) (hss.sublist List.filter_sublist)).symm, hD, hmem, ?_⟩
  have hn2 : (A.map fun v => l.filter (inK ks v)).flatten.Nodup := by
    unfold List.Nodup
    rw [List.pairwise_flatten]
    refine ⟨fun p hp => ?_, List.pairwise_map.2 (hA.imp (fun {v w} hvw x hx y hy e => ?_))⟩
    · obtain ⟨v, _, rfl⟩ := List.mem_map.1 hp
      exact hnd.sublist List.filter_sublist
    · subst e
      have h1 := (List.mem_filter.1 hx).2
      have h2 := (List.mem_filter.1 hy).2
      simp only [inK, Bool.and_eq_true, decide_eq_true_eq] at h1 h2
      rw [← h1.2, ← h2.2] at hvw
      exact vaCmp_irr _ hvw
  exact ((List.perm_ext_iff_of_nodup hn2 (hnd.sublist List.filter_sublist)).2 hmem).length_eq
theorem strChk_filter {l : List Ev} (hs : strChk l = 0) (q : Ev → Bool) : strChk (l.filter q) = 0 := by
  obtain ⟨h0, h1, h3, h5⟩ := strChk_zero hs
  have := List.length_filter_le q l
  exact strChk_mk (by omega) (fun x hx => h1 x (List.mem_filter.1 hx).1) (h3.sublist List.filter_sublist) (h5.sublist List.filter_sublist)
theorem slices_merge {l : List Ev} (hs : strChk l = 0) (t : Int) (h0 : 0 ≤ t) (h1 : t < 1099511627776) : mergeS (l.filter (sliceB 0 t)) (l.filter (sliceB (t + 1) 1099511627776)) = (l, 0) := by
  obtain ⟨z0, z1, _, _⟩ := strChk_zero hs
  obtain ⟨hd, hnd⟩ := stream_dist hs
  have hmem : ∀ x, x ∈ l ↔ x ∈ l.filter (sliceB 0 t) ++ l.filter (sliceB (t + 1) 1099511627776) := fun x => by
    simp only [List.mem_append, List.mem_filter, sliceB, Bool.and_eq_true, decide_eq_true_eq]
    constructor
    · intro hx
      have := z1 x hx
      simp only [placedB, Bool.and_eq_true, decide_eq_true_eq] at this
      rcases Int.lt_or_le t x.fTime with h | h
      · exact Or.inr ⟨hx, by omega, by omega⟩
      · exact Or.inl ⟨hx, by omega, h⟩
    · rintro (h | h)
      · exact h.1
      · exact h.1
  have hD : DistI (l.filter (sliceB 0 t) ++ l.filter (sliceB (t + 1) 1099511627776)) := fun x hx y hy => hd x ((hmem x).2 hx) y ((hmem y).2 hy)
  have hss := srt_sorted l
  rw [stream_srt hs] at hss
  have e := srt_uniq hD hmem hnd hss
  unfold mergeS joinedS
  rw [if_neg (by rw [strChk_filter hs]; simp), if_neg (by rw [strChk_filter hs]; simp), if_pos hD, ← e, if_neg (by omega)]
end Go.Proofs.Ytkbopbgcjfcjjaa
namespace Go.Proofs.Ytkbopbgcjfcjjaa
open Go.RowKit

theorem law_divides05 (l : List Ev) (ks : List Int) (t : Int) : F_tidegatelaw05_StreamDivides 200 l ks t = some true := by
  unfold F_tidegatelaw05_StreamDivides
  simp only [p_few 200 l (by omega), awake05 200 (by omega), bnd_some, List.length_map]
  cases h : fewE l with
  | false => simp only [Bool.not_false, cnd_t]
  | true =>
    obtain ⟨hl, hv⟩ := few_v (n := 200) (by omega) h
    simp only [Bool.not_true, cnd_f, p_rchk 200 l (by omega) (by omega), bnd_some, cnd_not, cnd_if]
    by_cases hs : strChk l = 0
    · rw [if_pos hs]
      by_cases hk : (40 : Int) < (ks.length : Int)
      · rw [if_pos hk]
      · rw [if_neg hk, p_split 200 ks l hv (by omega) (by omega), bnd_some]
        have hsl : ∀ a b, F_stream_Slice 200 l a b = some (l.filter (sliceB a b), 0) := fun a b => by
          rw [p_slice 200 l a b hv (by omega) (by omega)]
          unfold sliceS
          rw [if_neg (by simp [hs])]
        have hf : ∀ q : Ev → Bool, (l.filter q).length ≤ 12 ∧ ∀ x ∈ l.filter q, fewV 200 x := fun q => ⟨by have := List.length_filter_le q l; omega, fun x hx => hv x (List.mem_filter.1 hx).1⟩
        -- the second half
        have tail : (if t < 0 then some true else if 1099511627776 ≤ t then some true else
            bnd (F_stream_Slice 200 l 0 t) fun x54 => bnd (F_stream_Slice 200 l (IntKind.wrap .i64 (t + 1)) 1099511627776) fun x55 => bnd (F_stream_Merge 200 x54.1 x55.1) fun x56 =>
              if x54.2 = 0 then (if x55.2 = 0 then (if x56.2 = 0 then (bnd (F_tidegateref05_Same 200 x56.1 l) fun x57 => cnd x57 (some true) (some false)) else some false) else some false) else some false) = some true := by
          by_cases h0 : t < 0
          · rw [if_pos h0]
          · rw [if_neg h0]
            by_cases h1 : (1099511627776 : Int) ≤ t
            · rw [if_pos h1]
            · rw [if_neg h1, wrap_in _ (by omega), hsl, bnd_some, hsl, bnd_some]
              obtain ⟨a1, a2⟩ := hf (sliceB 0 t)
              obtain ⟨b1, b2⟩ := hf (sliceB (t + 1) 1099511627776)
              rw [p_merge 200 _ _ (fun x hx => (List.mem_append.1 hx).elim (a2 x) (b2 x)) (by omega) (by omega) (by omega) (by omega), bnd_some, slices_merge hs t (by omega) (by omega)]
              simp only [if_true]
              rw [p_rSame 200 l l hv (by omega) (by omega), bnd_some]
              simp [cnd_t]
        have hst : splitS ks l = if errF ks l = 0 then (keysAll ks [] l, (keysAll ks [] l).map fun v => l.filter (inK ks v), 0) else ([], [], errF ks l) := by
          unfold splitS
          rw [if_neg (by simp [hs])]
        by_cases he : errF ks l = 0
        · rw [hst, if_pos he, if_pos rfl]
          obtain ⟨q1, q2, q3⟩ := keysAll_props ks l [] .nil
          simp only [List.length_nil, Nat.zero_add] at q3
          have hm : ∀ v, v ∈ keysAll ks [] l ↔ ∃ e ∈ l, inK ks v e = true := fun v => by rw [q2]; simp
          simp only [List.length_map, if_true]
          have hp := p_parts 200 t ks l (keysAll ks [] l) q1 (fun v hv' => (hm v).1 hv') (by omega) (by omega) (by omega)
            (fun k1_0_0y => bndR (F_clone 200 l) fun x48 => bnd (F_slices_DeleteFunc 200 ks x48) fun x49 => frz 7108 <| reg <| bnd (F_stream_Sort 200 k1_0_0y) fun x50 =>
              if x50.2 = 0 then (bnd (F_tidegateref05_Same 200 x50.1 x49.1) fun x51 => cnd x51 (if ((k1_0_0y.length : Nat) : Int) = ((x49.1.length : Nat) : Int) then (if t < 0 then some true else if 1099511627776 ≤ t then some true else
            bnd (F_stream_Slice 200 l 0 t) fun x54 => bnd (F_stream_Slice 200 l (IntKind.wrap .i64 (t + 1)) 1099511627776) fun x55 => bnd (F_stream_Merge 200 x54.1 x55.1) fun x56 =>
              if x54.2 = 0 then (if x55.2 = 0 then (if x56.2 = 0 then (bnd (F_tidegateref05_Same 200 x56.1 l) fun x57 => cnd x57 (some true) (some false)) else some false) else some false) else some false) else some false) (some false)) else some false) 200 0 [] (by omega) (by omega) (by simp)
          refine Eq.trans ?_ (hp.trans ?_)
          · rfl
          · obtain ⟨z0, z1, _, _⟩ := strChk_zero hs
            obtain ⟨r1, r2, r3, r4⟩ := parts_all hs q1 hm
            rw [List.nil_append, List.drop_zero]
            generalize hall : ((keysAll ks [] l).map fun v => l.filter (inK ks v)).flatten = all at r1 r2 r3 r4
            have hfk := hf (kOk ks)
            have hav : ∀ x ∈ all, fewV 200 x := fun x hx => hfk.2 x ((r3 x).1 hx)
            rw [show F_clone 200 l = some l from by unfold F_clone; exact if_pos (by omega), bndR_some, p_delete 200 ks l (by omega) (by omega), bnd_some, frz_eq, reg_eq, p_sort 200 all hav (by omega) (by omega), bnd_some]
            have hso : sortS all = (l.filter (kOk ks), 0) := by
              unfold sortS
              have ha : allE all = 0 := by
                unfold allE
                rw [if_neg (by omega), if_pos (List.all_eq_true.2 fun x hx => z1 x (List.mem_filter.1 ((r3 x).1 hx)).1)]
              rw [if_neg (by simp [ha]), if_pos r2, r1]
            rw [hso]
            simp only [if_true]
            rw [p_rSame 200 _ _ hfk.2 (by omega) (by omega), bnd_some, if_pos (by omega)]
            simp only [decide_true, cnd_t]
            exact tail
        · rw [hst, if_neg he, if_neg he]
          exact tail
    · rw [if_neg hs]
theorem divides_con05 (l : List T_api_Event) (ks : List Int) (t : Int) : Con E0 true 4 [.sl 5 (l.map e_api_Event), .sl 1 (ks.map aI), aI t] (.bool true) := con_tidegatelaw05_StreamDivides (law_divides05 l ks t)
end Go.Proofs.Ytkbopbgcjfcjjaa
