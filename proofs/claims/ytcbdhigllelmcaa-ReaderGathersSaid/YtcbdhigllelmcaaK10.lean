/- Forms of terms: a string's bytes, a string appended to a row of bytes, literals that are rows. What some functions compute, over plain values. Printed by a program of mine (gen_fun.lean). Arguments opened: structs (printed by gen_open.py). Plain laws of the forms of terms (G0). Chapter 47, plain: names, event types (both CheckAll), values, events, keys. Chapter 47, plain: values, events of event types, keys (both). -/
import Derived.Test.YtcbdhigllelmcaaK09
import Derived.Test.YtcbdhigllelmcaaK07
set_option linter.unusedVariables false
set_option linter.unusedSimpArgs false
set_option maxRecDepth 100000
set_option maxHeartbeats 8000000
namespace Go.Proofs.Ytcbdhigllelmcaa
open Go.RowKit

def bytesI (s : ByteArray) : List Int := s.data.toList.map fun b => (b.toNat : Int)
theorem strAV_eq (s : ByteArray) : strAV s = (bytesI s).map (AV.int .u8) := by simp [strAV, bytesI]
section
variable {β : Type} {E : Env} {nt : Nat} {o : Oper} {σ : AS} {K : OpK}
def idb (s : ByteArray) (n : Int) (k : Int → Option β) : Option β := if 0 ≤ n then (match byteAt s n.toNat with | some b => k b.toNat | none => none) else none
theorem OpX.idb {s : ByteArray} {n : Int} {k : Int → Option β} {r : β} {T : Nat} {x y : Operand} {i : TyI} {kd : IntKind} (hF : idb s n k = some r) (ho : o.op = .index T x y) (hd : dokN E nt o.dst = true) (hxo : opdOk x = true) (hyo : opdOk y = true) (hx : σ.eval x = .str s) (hy : σ.eval y = .int kd n) (hT : lkT E.tab T = some i)
    (hs : i.shape = .str) (hk : ∀ b, k b = some r → K (.int .u8 b) [] []) : OpX E nt o σ K := by
  unfold Proofs.Ytcbdhigllelmcaa.idb at hF
  split at hF
  · rename_i hn
    split at hF
    · rename_i b hb
      exact .mk _ _ _ (fun cx hE hnt => r_index_str (m := n.toNat) ho (dok_of hd hE hnt) hxo hyo hx hy (by rw [hE]; exact hT) hs (by omega) hb) (hk _ hF)
    · cases hF
  · cases hF
theorem OpX.aps {s : ByteArray} {l : List Int} {k : List Int → Option β} {r : β} {T T' d id e eb : Nat} {x y : Operand} {i i' ie : TyI} (hF : app l (bytesI s) 1 k = some r) (ho : o.op = .call { callee := .builtin .append, args := #[x, y], argTypes := #[T, T'] }) (hdst : o.dst = some d) (hd : dokN E nt o.dst = true) (hxo : opdOk x = true) (hyo : opdOk y = true)
    (hx : σ.eval x = .row id) (hy : σ.eval y = .str s) (hl : σ.find id = some (.row e 1 (l.map (AV.int .u8)))) (hn : σ.find d = none) (hT : lkT E.tab T = some i) (hs : i.shape = .slc e 1 eb) (hT' : lkT E.tab T' = some i') (hs' : i'.shape = .str) (he : lkT E.tab e = some ie) (hsz : ie.sz = 1) (hby1 : ie.bytes = 1) (hze : ie.zero = .int .u8 0)
    (hne : Nat.beq id d = false) (hdr0 : E.dr = false) (hk : ∀ l', k l' = some r → K (.row d) [d, id] [(d, .row e 1 (l'.map (AV.int .u8))), (id, .dead)]) : OpX E nt o σ K := by
  have hlen : (bytesI s).length = s.size := by simp only [bytesI, List.length_map, Array.length_toList]; rfl
  unfold app at hF
  split at hF
  · rename_i hb
    refine .mk _ _ _ (fun cx hE hnt => ?_) (hk _ hF)
    have := r_append_str (cx := cx) (oid := some id) (xs := l.map (AV.int .u8)) ho hdst (dok_of hd hE hnt) hxo hyo (by rw [hE]; exact hT) hs (by rw [hE]; exact hT') hs' (by rw [hE]; exact he) hsz hby1 hze (Or.inr ⟨id, hx, rfl, nbne hne, hl⟩) hy hn (by rw [List.length_map]; rw [hlen] at hb; exact hb.1) (by rw [hE]; exact hdr0)
    rw [strAV_eq, ← List.map_append] at this
    exact this
  · cases hF
def bld {α : Type} (l : List α) (k : List α → Option β) : Option β := k l
theorem OpX.bld {α : Type} {l : List α} {k : List α → Option β} {r : β} (enc : α → AV) {T n d e esz eb : Nat} {ps : Array (Nat × Operand)} {i ie : TyI} (hF : bld l k = some r) (ho : o.op = .buildSlice T n ps) (hdst : o.dst = some d) (hd : dokN E nt o.dst = true) (hT : lkT E.tab T = some i) (hs : i.shape = .slc e esz eb) (he : lkT E.tab e = some ie) (hz : Nat.beq esz 0 = false) (hn : Nat.ble (n * esz) 16777216 = true)
    (hze : allOne ie.zero.cells.toList = true) (hz0 : Nat.blt 0 ie.zero.cells.size = true) (hok : partsOk σ ps = true) (hcl : AV.closedL (l.map enc) = true) (hlen : (l.map enc).length = n) (hl : (l.map enc).all (fun x => Nat.beq x.cells.length esz) = true)
    (hf : fillA (fun j => some (j * esz, esz)) (List.replicate (n * esz) .any) (partsA σ ps) = some ((l.map enc).flatMap AV.cells)) (hnn : σ.find d = none) (hk : ∀ l', k l' = some r → K (.row d) (d :: partIds (partsA σ ps)) [(d, .row e esz (l'.map enc))]) : OpX E nt o σ K :=
  .mk _ _ _ (fun cx hE hnt => r_buildSlice_row ho hdst (dok_of hd hE hnt) (by rw [hE]; exact hT) hs (by rw [hE]; exact he) (nbne hz) hn (allOne_all hze) hz0 hok hcl hlen hl hf hnn) (hk l hF)
def bldS {α : Type} (l : List α) (k : List α → Option β) : Option β := k l
theorem OpX.bldS {α : Type} {l : List α} {k : List α → Option β} {r : β} (enc : α → AV) {T n e esz eb : Nat} {ps : Array (Nat × Operand)} {i ie : TyI} (hF : Proofs.Ytcbdhigllelmcaa.bldS l k = some r) (ho : o.op = .buildSlice T n ps) (hd : dokN E nt o.dst = true) (hT : lkT E.tab T = some i) (hs : i.shape = .slc e esz eb) (he : lkT E.tab e = some ie) (hz : Nat.beq esz 0 = false) (hn : Nat.ble (n * esz) 16777216 = true)
    (hze : allOne ie.zero.cells.toList = true) (hz0 : Nat.blt 0 ie.zero.cells.size = true) (hok : partsOk σ ps = true) (hcl : AV.closedL (l.map enc) = true) (hlen : (l.map enc).length = n) (hl : (l.map enc).all (fun x => Nat.beq x.cells.length esz) = true)
    (hf : fillA (fun j => some (j * esz, esz)) (List.replicate (n * esz) .any) (partsA σ ps) = some ((l.map enc).flatMap AV.cells)) (hk : ∀ l', k l' = some r → K (.sl esz (l'.map enc)) (partIds (partsA σ ps)) []) : OpX E nt o σ K :=
  .mk _ _ _ (fun cx hE hnt => r_buildSlice ho (dok_of hd hE hnt) (by rw [hE]; exact hT) hs (by rw [hE]; exact he) (nbne hz) hn (allOne_all hze) hz0 hok hcl hlen hl hf) (hk l hF)
end
end Go.Proofs.Ytcbdhigllelmcaa
namespace Go.Proofs.Ytcbdhigllelmcaa
open Go.RowKit
structure T_api_Value where
  fKind : Int
  fNum : Int
  fText : ByteArray
deriving DecidableEq, Inhabited
def e_api_Value (x : T_api_Value) : AV := .agg [aI (x.fKind), aI (x.fNum), .str (x.fText)]
structure T_api_Event where
  fSource : Int
  fSeq : Int
  fType : Int
  fTime : Int
  fValues : (List T_api_Value)
deriving DecidableEq, Inhabited
def e_api_Event (x : T_api_Event) : AV := .agg [aI (x.fSource), aI (x.fSeq), aI (x.fType), aI (x.fTime), .sl 3 (List.map e_api_Value (x.fValues))]
structure T_api_Message where
  fKind : Int
  fEvent : T_api_Event
  fSource : Int
  fSeq : Int
  fTime : Int
deriving DecidableEq, Inhabited
def e_api_Message (x : T_api_Message) : AV := .agg [aI (x.fKind), aI (x.fEvent.fSource), aI (x.fEvent.fSeq), aI (x.fEvent.fType), aI (x.fEvent.fTime), .sl 3 (List.map e_api_Value (x.fEvent.fValues)), aI (x.fSource), aI (x.fSeq), aI (x.fTime)]
def F_watermark_ranged (n : Nat) (a0 : Int) (a1 : Int) : Option (Bool) :=
  cnd (decide (0 ≤ a0))
    (some (decide (a0 ≤ a1)))
  <| some false
def F_watermark_checkEvent (n : Nat) (a0 : T_api_Message) : Option (Int) :=
  cnd (!decide (a0.fSource = 0))
    (some 3)
  <| cnd (!decide (a0.fSeq = 0))
    (some 3)
  <| cnd (!decide (a0.fTime = 0))
    (some 3)
  <| bnd (F_watermark_ranged n a0.fEvent.fSource 7) fun x1 =>
  cnd (!(x1))
    (some 2)
  <| bnd (F_watermark_ranged n a0.fEvent.fSeq 1099511627776) fun x2 =>
  cnd (!(x2))
    (some 2)
  <| bnd (F_watermark_ranged n a0.fEvent.fTime 1099511627776) fun x3 =>
  cnd (!(x3))
    (some 2)
  <| some 0
def F_sequence_Begin (n : Nat) : Option (Trk) :=
  some (⟨0, [], [], (-1)⟩)
def F_watermark_valid (n : Nat) (a0 : T_api_Message) : Option (Bool) :=
  bnd (F_sequence_Begin n) fun x1 =>
  bnd (F_puAdd n x1 (⟨a0.fSeq, a0.fTime⟩ : Pt)) fun x2 =>
  some (decide (x2.2 = 0))
def F_watermark_checkPoint (n : Nat) (a0 : T_api_Message) : Option (Int) :=
  cnd (!decide (a0.fEvent.fSource = 0))
    (some 3)
  <| cnd (!decide (a0.fEvent.fSeq = 0))
    (some 3)
  <| cnd (!decide (a0.fEvent.fType = 0))
    (some 3)
  <| cnd (!decide (a0.fEvent.fTime = 0))
    (some 3)
  <| cnd (decide (0 < (((List.map e_api_Value (a0.fEvent.fValues)).length : Nat) : Int)))
    (some 3)
  <| bnd (F_watermark_ranged n a0.fSource 7) fun x1 =>
  cnd (!(x1))
    (some 2)
  <| bnd (F_watermark_valid n a0) fun x2 =>
  cnd (!(x2))
    (some 2)
  <| some 0
def F_watermark_CheckMessage (n : Nat) (a0 : T_api_Message) : Option (Int) :=
  cnd (decide (a0.fKind < 0))
    (some 1)
  <| cnd (decide (2 ≤ a0.fKind))
    (some 1)
  <| cnd (decide (a0.fKind = 0))
    (bnd (F_watermark_checkEvent n a0) fun x1 =>
  some x1)
  <| cnd (decide (a0.fKind = 1))
    (bnd (F_watermark_checkPoint n a0) fun x2 =>
  some x2)
  <| none
def F_watermark_Check_l1 (n : Nat) (a0 : (List Trk)) (k1_0_0 : Option (Int)) : Nat → Int → Option (Int)
  | 0, _ => none
  | mv1_0 + 1, v1_0 =>
    cnd (decide (v1_0 < (((List.map aTrk (a0)).length : Nat) : Int)))
      (idx a0 v1_0 fun x41 =>
      bnd (F_puCheck n x41) fun x42 =>
      cnd (!decide (x42 = 0))
        (some x42)
      <| F_watermark_Check_l1 n a0 k1_0_0 mv1_0 (IntKind.wrap .i64 (v1_0 + 1)))
    <| k1_0_0
def F_watermark_Check (n : Nat) (a0 : (List Trk)) : Option (Int) :=
  cnd (decide (8 < (((List.map aTrk (a0)).length : Nat) : Int)))
    (some 5)
  <| F_watermark_Check_l1 n a0
    (some 0) n 0
def F_watermark_kinds_1 (n : Nat) (a0 : T_api_Message) : Option (Int) :=
  some a0.fEvent.fSource
def F_sequence_Check_l1 (n : Nat) (a0 : Trk) (k1_0_0 : Option (Int)) : Nat → Int × Int → Option (Int)
  | 0, _ => none
  | mv1_0 + 1, v1_0 =>
    cnd (decide (v1_0.2 < (((List.map aI (a0.beyond)).length : Nat) : Int)))
      (idx a0.beyond v1_0.2 fun x41 =>
      cnd (decide (x41 < 0))
        (some 2)
      <| cnd (decide (1099511627776 < x41))
        (some 2)
      <| cnd (decide (x41 ≤ v1_0.1))
        (some 14)
      <| F_sequence_Check_l1 n a0 k1_0_0 mv1_0 (x41, (IntKind.wrap .i64 (v1_0.2 + 1))))
    <| k1_0_0
def F_sequence_Check (n : Nat) (a0 : Trk) : Option (Int) :=
  cnd (decide (a0.next < 0))
    (some 2)
  <| cnd (decide (1099511627777 < a0.next))
    (some 2)
  <| cnd (decide (256 < (((List.map aI (a0.beyond)).length : Nat) : Int)))
    (some 5)
  <| F_sequence_Check_l1 n a0
    (some 0) n (a0.next, 0)
def F_sequence_place_1 (n : Nat) (a0 : Int) (a1 : (List Int)) (a2 : Int) : Option (Bool) :=
  idx a1 a0 fun x1 =>
  some (decide (a2 ≤ x1))
def F_sort_Search_l1 (n : Nat) (a1c1 : Int) (a1c0 : (List Int)) (k1_0_0 : Int → Option (Int)) : Nat → Int × Int → Option (Int)
  | 0, _ => none
  | mv1_0 + 1, v1_0 =>
    cnd (decide (v1_0.1 < v1_0.2))
      (shx (1 : Int) <| bnd (F_sequence_place_1 n (IntKind.wrap .i64 (Int.fdiv (IntKind.wrap .u64 (IntKind.wrap .i64 (v1_0.1 + v1_0.2))) (2 ^ min (Int.toNat (1 : Int)) (IntKind.bits .u64)))) a1c0 a1c1) fun x42 =>
      cnd (!(x42))
        (F_sort_Search_l1 n a1c1 a1c0 k1_0_0 mv1_0 ((IntKind.wrap .i64 ((IntKind.wrap .i64 (Int.fdiv (IntKind.wrap .u64 (IntKind.wrap .i64 (v1_0.1 + v1_0.2))) (2 ^ min (Int.toNat (1 : Int)) (IntKind.bits .u64)))) + 1)), v1_0.2))
      <| F_sort_Search_l1 n a1c1 a1c0 k1_0_0 mv1_0 (v1_0.1, (IntKind.wrap .i64 (Int.fdiv (IntKind.wrap .u64 (IntKind.wrap .i64 (v1_0.1 + v1_0.2))) (2 ^ min (Int.toNat (1 : Int)) (IntKind.bits .u64))))))
    <| k1_0_0 v1_0.1
def F_sort_Search (n : Nat) (a0 : Int) (a1c0 : (List Int)) (a1c1 : Int) : Option (Int) :=
  F_sort_Search_l1 n a1c1 a1c0
    (fun k1_0_0y => some k1_0_0y) n (0, a0)
def F_sequence_place (n : Nat) (a0 : (List Int)) (a1 : Int) : Option (Int) :=
  bnd (F_sort_Search n (((List.map aI (a0)).length : Nat) : Int) a0 a1) fun x1 =>
  some x1
def F_sequence_has (n : Nat) (a0 : Trk) (a1 : Int) : Option (Bool) :=
  cnd (decide (a1 < a0.next))
    (some (decide (0 ≤ a1)))
  <| bnd (F_sequence_place n a0.beyond a1) fun x1 =>
  cnd (decide (x1 < (((List.map aI (a0.beyond)).length : Nat) : Int)))
    (idx a0.beyond x1 fun x2 =>
    some (decide (x2 = a1)))
  <| some false
def F_sequence_Has (n : Nat) (a0 : Trk) (a1 : Int) : Option (Bool × Int) :=
  bnd (F_sequence_Check n a0) fun x1 =>
  cnd (!decide (x1 = 0))
    (some (false, x1))
  <| bnd (F_sequence_has n a0 a1) fun x2 =>
  some (x2, 0)
def F_sequence_with_l1 (n : Nat) (a0 : Trk) (x2 : (List Pt)) (k1_0_0 : Int → (List Int) → (List Pt) → Option (Trk)) : Nat → Int × (List Int) → Option (Trk)
  | 0, _ => none
  | mv1_0 + 1, v1_0 =>
    cnd (decide (0 < (((List.map aI (v1_0.2)).length : Nat) : Int)))
      (idx v1_0.2 0 fun x48 =>
      cnd (decide (x48 = v1_0.1))
        (reg <| sls v1_0.2 1 (((List.map aI (v1_0.2)).length : Nat) : Int) fun x49 =>
        F_sequence_with_l1 n a0 x2 k1_0_0 mv1_0 ((IntKind.wrap .i64 (v1_0.1 + 1)), x49))
      <| k1_0_0 v1_0.1 v1_0.2 x2)
    <| k1_0_0 v1_0.1 v1_0.2 x2
def F_sequence_with (n : Nat) (a0 : Trk) (a1 : Int) : Option (Trk) :=
  bndR (F_clone n a0.beyond) fun x1 =>
  bnd (F_clone n a0.points) fun x2 =>
  cnd (decide (a0.next < a1))
    (bnd (F_sequence_place n x1 a1) fun x3 =>
    bndC (F_insert n x1 x3 [a1]) fun x4 =>
    some (⟨a0.next, x4, x2, a0.mark⟩))
  <| F_sequence_with_l1 n a0 x2
    (fun k1_0_0y0 k1_0_0y1 k1_0_0y2 => some (⟨k1_0_0y0, k1_0_0y1, k1_0_0y2, a0.mark⟩)) n ((IntKind.wrap .i64 (a0.next + 1)), x1)
def F_sequence_Receive (n : Nat) (a0 : Trk) (a1 : Int) : Option (Trk × Bool × Int) :=
  bnd (F_sequence_Check n a0) fun x1 =>
  cnd (!decide (x1 = 0))
    (some (⟨0, [], [], 0⟩, false, x1))
  <| cnd (decide (a1 < 0))
    (some (⟨0, [], [], 0⟩, false, 2))
  <| cnd (decide (1099511627776 < a1))
    (some (⟨0, [], [], 0⟩, false, 2))
  <| bnd (F_sequence_has n a0 a1) fun x2 =>
  cnd (x2)
    (bnd (F_clone n a0.beyond) fun x3 =>
    bnd (F_clone n a0.points) fun x4 =>
    some (⟨a0.next, x3, x4, a0.mark⟩, false, 0))
  <| bnd (F_sequence_with n a0 a1) fun x5 =>
  cnd (decide (256 < (((List.map aI (x5.beyond)).length : Nat) : Int)))
    (some (⟨0, [], [], 0⟩, false, 5))
  <| some (x5, true, 0)
def F_watermark_receiveEvent (n : Nat) (a0 : Trk) (a1 : T_api_Message) : Option (Trk × Bool × Int) :=
  bnd (F_sequence_Has n a0 a1.fEvent.fSeq) fun x1 =>
  cnd (!decide (x1.2 = 0))
    (some (a0, false, x1.2))
  <| cnd (x1.1)
    (some (a0, false, x1.2))
  <| bnd (F_puAllows n a0 a1.fEvent.fSeq a1.fEvent.fTime) fun x2 =>
  cnd (!decide (x2.2 = 0))
    (some (a0, false, x2.2))
  <| cnd (!(x2.1))
    (some (a0, false, 19))
  <| bnd (F_sequence_Receive n a0 a1.fEvent.fSeq) fun x3 =>
  cnd (!decide (x3.2.2 = 0))
    (some (a0, false, x3.2.2))
  <| bnd (F_puSettle n x3.1) fun x4 =>
  some (x4.1, true, x4.2)
def F_watermark_kinds_2 (n : Nat) (a0 : T_api_Message) : Option (Int) :=
  some a0.fSource
def F_watermark_receivePoint (n : Nat) (a0 : Trk) (a1 : T_api_Message) : Option (Trk × Bool × Int) :=
  bnd (F_puAdd n a0 (⟨a1.fSeq, a1.fTime⟩ : Pt)) fun x1 =>
  some (x1.1, false, x1.2)
def F_watermark_receive (n : Nat) (a0 : (List Trk)) (a1 : T_api_Message) : Option ((List Trk) × Bool × Int) :=
  bnd (F_watermark_CheckMessage n a1) fun x1 =>
  cnd (!decide (x1 = 0))
    (some ([], false, x1))
  <| cnd (decide (a1.fKind = 0))
    (bnd (F_watermark_kinds_1 n a1) fun x2 =>
  cnd (decide ((((List.map aTrk (a0)).length : Nat) : Int) ≤ x2))
    (some ([], false, 32))
  <| idx a0 x2 fun x3 =>
  bnd (F_watermark_receiveEvent n x3 a1) fun x4 =>
  cnd (!decide (x4.2.2 = 0))
    (some ([], false, x4.2.2))
  <| bndR (F_clone n a0) fun x5 =>
  nat x2 (List.map aTrk (x5)).length fun x6 =>
  stx x5 x6 (fun x7 => x4.1) fun x8 =>
  some (x8, x4.2.1, 0))
  <| cnd (decide (a1.fKind = 1))
    (bnd (F_watermark_kinds_2 n a1) fun x9 =>
  cnd (decide ((((List.map aTrk (a0)).length : Nat) : Int) ≤ x9))
    (some ([], false, 32))
  <| idx a0 x9 fun x10 =>
  bnd (F_watermark_receivePoint n x10 a1) fun x11 =>
  cnd (!decide (x11.2.2 = 0))
    (some ([], false, x11.2.2))
  <| bndR (F_clone n a0) fun x12 =>
  nat x9 (List.map aTrk (x12)).length fun x13 =>
  stx x12 x13 (fun x14 => x11.1) fun x15 =>
  some (x15, x11.2.1, 0))
  <| none
def F_watermark_Receive_l1 (n : Nat) (x2 : (List Trk) × Bool × Int) (k1_0_0 : Bool → (List Trk) → Option ((List Trk) × Bool × Int)) : Nat → Int × (List Trk) → Option ((List Trk) × Bool × Int)
  | 0, _ => none
  | mv1_0 + 1, v1_0 =>
    cnd (decide (v1_0.1 < (((List.map aTrk (x2.1)).length : Nat) : Int)))
      (nat v1_0.1 (List.map aTrk (v1_0.2)).length fun x45 =>
      ltx x45 (List.map aTrk (v1_0.2)).length <| elt v1_0.2 x45 fun x46 =>
      bnd (F_clone n x46.beyond) fun x47 =>
      nat v1_0.1 (List.map aTrk (v1_0.2)).length fun x48 =>
      ltx x48 (List.map aTrk (v1_0.2)).length <| elt v1_0.2 x48 fun x49 =>
      bnd (F_clone n x49.points) fun x50 =>
      nat v1_0.1 (List.map aTrk (v1_0.2)).length fun x51 =>
      ltx x51 (List.map aTrk (v1_0.2)).length <| stx v1_0.2 x51 (fun x52 => ⟨x52.next, x47, x52.points, x52.mark⟩) fun x53 =>
      nat v1_0.1 (List.map aTrk (x53)).length fun x54 =>
      ltx x54 (List.map aTrk (x53)).length <| stx x53 x54 (fun x55 => ⟨x55.next, x55.beyond, x50, x55.mark⟩) fun x56 =>
      F_watermark_Receive_l1 n x2 k1_0_0 mv1_0 ((IntKind.wrap .i64 (v1_0.1 + 1)), x56))
    <| k1_0_0 x2.2.1 v1_0.2
def F_watermark_Receive (n : Nat) (a0 : (List Trk)) (a1 : T_api_Message) : Option ((List Trk) × Bool × Int) :=
  bnd (F_watermark_Check n a0) fun x1 =>
  cnd (!decide (x1 = 0))
    (some ([], false, x1))
  <| bndR (F_watermark_receive n a0 a1) fun x2 =>
  cnd (!decide (x2.2.2 = 0))
    (some ([], false, x2.2.2))
  <| F_watermark_Receive_l1 n x2
    (fun k1_0_0y0 k1_0_0y1 => some (k1_0_0y1, k1_0_0y0, 0)) n (0, x2.1)
def F_value_size (n : Nat) (a0 : T_api_Value) : Option (Int) :=
  cnd (decide (a0.fKind = 0))
    (cnd (decide (a0.fNum < (-1099511627776)))
      (some 2)
    <| cnd (decide (1099511627776 < a0.fNum))
      (some 2)
    <| cnd (decide (a0.fKind = 1))
      (cnd (!decide (a0.fNum = 0))
        (cnd (!decide (a0.fNum = 1))
          (some 2)
        <| cnd (decide (64 < ((a0.fText.size : Nat) : Int)))
          (some 13)
        <| some 0)
      <| cnd (decide (64 < ((a0.fText.size : Nat) : Int)))
        (some 13)
      <| some 0)
    <| cnd (decide (64 < ((a0.fText.size : Nat) : Int)))
      (some 13)
    <| some 0)
  <| cnd (decide (a0.fKind = 1))
    (cnd (!decide (a0.fNum = 0))
      (cnd (!decide (a0.fNum = 1))
        (some 2)
      <| cnd (decide (64 < ((a0.fText.size : Nat) : Int)))
        (some 13)
      <| some 0)
    <| cnd (decide (64 < ((a0.fText.size : Nat) : Int)))
      (some 13)
    <| some 0)
  <| cnd (decide (64 < ((a0.fText.size : Nat) : Int)))
    (some 13)
  <| some 0
def F_value_Check (n : Nat) (a0 : T_api_Value) : Option (Int) :=
  cnd (decide (a0.fKind = 0))
    (cnd (decide (a0.fKind = 0))
      (cnd (!(a0.fText.toList == ByteArray.empty.toList))
        (some 3)
      <| bnd (F_value_size n a0) fun x1 =>
      some x1)
    <| cnd (decide (a0.fKind = 2))
      (cnd (!decide (a0.fNum = 0))
        (some 3)
      <| bnd (F_value_size n a0) fun x2 =>
      some x2)
    <| some 1)
  <| cnd (decide (a0.fKind = 1))
    (cnd (!(a0.fText.toList == ByteArray.empty.toList))
      (some 3)
    <| bnd (F_value_size n a0) fun x3 =>
    some x3)
  <| cnd (decide (a0.fKind = 2))
    (cnd (!decide (a0.fNum = 0))
      (some 3)
    <| bnd (F_value_size n a0) fun x4 =>
    some x4)
  <| some 1
def F_value_Hash_l1 (n : Nat) (x3 : (List Int)) (k1_0_0 : Int → Option (Int × Int)) : Nat → Int × Int → Option (Int × Int)
  | 0, _ => none
  | mv1_0 + 1, v1_0 =>
    cnd (decide (v1_0.2 < (((List.map (AV.int .u8) (x3)).length : Nat) : Int)))
      (nat v1_0.2 (List.map (AV.int .u8) (x3)).length fun x45 =>
      elt x3 x45 fun x46 =>
      F_value_Hash_l1 n x3 k1_0_0 mv1_0 ((IntKind.wrap .u32 ((IntKind.wrap .u32 (BitVec.toNat (BitVec.ofInt (IntKind.bits .u32) v1_0.1 ^^^ (BitVec.ofInt (IntKind.bits .u32) (IntKind.wrap .u32 x46))) : Int)) * 16777619)), (IntKind.wrap .i64 (v1_0.2 + 1))))
    <| k1_0_0 v1_0.1
def F_value_Hash_l3 (n : Nat) (k2_1_0y : (List Int)) (k3_2_0 : Int → Option (Int × Int)) : Nat → Int × Int → Option (Int × Int)
  | 0, _ => none
  | mv3_2 + 1, v3_2 =>
    cnd (decide (v3_2.2 < (((List.map (AV.int .u8) (k2_1_0y)).length : Nat) : Int)))
      (nat v3_2.2 (List.map (AV.int .u8) (k2_1_0y)).length fun x129 =>
      elt k2_1_0y x129 fun x130 =>
      F_value_Hash_l3 n k2_1_0y k3_2_0 mv3_2 ((IntKind.wrap .u32 ((IntKind.wrap .u32 (BitVec.toNat (BitVec.ofInt (IntKind.bits .u32) v3_2.1 ^^^ (BitVec.ofInt (IntKind.bits .u32) (IntKind.wrap .u32 x130))) : Int)) * 16777619)), (IntKind.wrap .i64 (v3_2.2 + 1))))
    <| k3_2_0 v3_2.1
def F_value_Hash_l2 (n : Nat) (a0 : T_api_Value) (k2_1_0 : (List Int) → Option (Int × Int)) : Nat → Int × (List Int) → Option (Int × Int)
  | 0, _ => none
  | mv2_1 + 1, v2_1 =>
    cnd (decide (0 ≤ v2_1.1))
      (shx v2_1.1 <| bldS ([(IntKind.wrap .u8 (Int.fdiv a0.fNum (2 ^ min (Int.toNat v2_1.1) (IntKind.bits .i64))))] : List Int) fun x131 =>
      app v2_1.2 x131 1 fun x132 =>
      F_value_Hash_l2 n a0 k2_1_0 mv2_1 ((IntKind.wrap .i64 (v2_1.1 - 8)), x132))
    <| k2_1_0 v2_1.2
def F_value_Hash (n : Nat) (a0 : T_api_Value) : Option (Int × Int) :=
  bnd (F_value_Check n a0) fun x1 =>
  cnd (!decide (x1 = 0))
    (some (0, x1))
  <| bld ([(IntKind.wrap .u8 a0.fKind)] : List Int) fun x2 =>
  cnd (decide (a0.fKind = 2))
    (app x2 (bytesI a0.fText) 1 fun x3 =>
    F_value_Hash_l1 n x3
      (fun k1_0_0y => some ((IntKind.wrap .i64 k1_0_0y), 0)) n (2166136261, 0))
  <| F_value_Hash_l2 n a0
    (fun k2_1_0y => F_value_Hash_l3 n k2_1_0y
    (fun k3_2_0y => some ((IntKind.wrap .i64 k3_2_0y), 0)) n (2166136261, 0)) n (56, x2)
structure T_api_Field where
  fName : ByteArray
  fKind : Int
deriving DecidableEq, Inhabited
def e_api_Field (x : T_api_Field) : AV := .agg [.str (x.fName), aI (x.fKind)]
structure T_api_Schema where
  fName : ByteArray
  fFields : (List T_api_Field)
deriving DecidableEq, Inhabited
def e_api_Schema (x : T_api_Schema) : AV := .agg [.str (x.fName), .sl 2 (List.map e_api_Field (x.fFields))]
def F_schema_digit (n : Nat) (a0 : Int) : Option (Bool) :=
  cnd (decide (48 ≤ a0))
    (some (decide (a0 ≤ 57)))
  <| some false
def F_schema_letter (n : Nat) (a0 : Int) : Option (Bool) :=
  cnd (decide (a0 = 95))
    (some true)
  <| cnd (decide (97 ≤ a0))
    (cnd (decide (a0 ≤ 122))
      (some true)
    <| cnd (decide (65 ≤ a0))
      (some (decide (a0 ≤ 90)))
    <| some false)
  <| cnd (decide (65 ≤ a0))
    (some (decide (a0 ≤ 90)))
  <| some false
def F_schema_name_l1 (n : Nat) (a0 : ByteArray) (k1_0_0 : Option (Bool)) : Nat → Int → Option (Bool)
  | 0, _ => none
  | mv1_0 + 1, v1_0 =>
    cnd (decide (v1_0 < ((a0.size : Nat) : Int)))
      (idb a0 v1_0 fun x43 =>
      bnd (F_schema_letter n x43) fun x44 =>
      cnd (!(x44))
        (idb a0 v1_0 fun x45 =>
        bnd (F_schema_digit n x45) fun x46 =>
        cnd (!(x46))
          (some false)
        <| F_schema_name_l1 n a0 k1_0_0 mv1_0 (IntKind.wrap .i64 (v1_0 + 1)))
      <| F_schema_name_l1 n a0 k1_0_0 mv1_0 (IntKind.wrap .i64 (v1_0 + 1)))
    <| k1_0_0
def F_schema_name (n : Nat) (a0 : ByteArray) : Option (Bool) :=
  cnd (decide (((a0.size : Nat) : Int) = 0))
    (some false)
  <| cnd (decide (24 < ((a0.size : Nat) : Int)))
    (some false)
  <| idb a0 0 fun x1 =>
  bnd (F_schema_digit n x1) fun x2 =>
  cnd (x2)
    (some false)
  <| F_schema_name_l1 n a0
    (some true) n 0
def F_schema_fieldName (n : Nat) (a0 : ByteArray) : Option (Bool) :=
  bnd (F_schema_name n a0) fun x1 =>
  cnd (x1)
    (some (!(a0.toList == (ByteArray.mk #[116, 105, 109, 101]).toList)))
  <| some false
def F_schema_Check_l1 (n : Nat) (a0 : T_api_Schema) (k1_0_0 : Option (Int)) : Nat → Int × (List (ByteArray × Bool)) → Option (Int)
  | 0, _ => none
  | mv1_0 + 1, v1_0 =>
    cnd (decide (v1_0.1 < (((List.map e_api_Field (a0.fFields)).length : Nat) : Int)))
      (idx a0.fFields v1_0.1 fun x42 =>
      bnd (F_schema_fieldName n x42.fName) fun x43 =>
      cnd (!(x43))
        (some 8)
      <| mgt v1_0.2 x42.fName (false : Bool) fun x44 x45 =>
      cnd (x44)
        (some 7)
      <| cnd (decide (x42.fKind < 0))
        (some 1)
      <| cnd (decide (3 ≤ x42.fKind))
        (some 1)
      <| mst v1_0.2 x42.fName true fun x46 =>
      F_schema_Check_l1 n a0 k1_0_0 mv1_0 ((IntKind.wrap .i64 (v1_0.1 + 1)), x46))
    <| k1_0_0
def F_schema_Check (n : Nat) (a0 : T_api_Schema) : Option (Int) :=
  bnd (F_schema_name n a0.fName) fun x1 =>
  cnd (!(x1))
    (some 8)
  <| cnd (decide (8 < (((List.map e_api_Field (a0.fFields)).length : Nat) : Int)))
    (some 5)
  <| F_schema_Check_l1 n a0
    (some 0) n (0, [])
def F_schema_CheckAll_l1 (n : Nat) (a0 : (List T_api_Schema)) (k1_0_0 : Option (Int)) : Nat → Int × (List (ByteArray × Bool)) → Option (Int)
  | 0, _ => none
  | mv1_0 + 1, v1_0 =>
    cnd (decide (v1_0.1 < (((List.map e_api_Schema (a0)).length : Nat) : Int)))
      (idx a0 v1_0.1 fun x41 =>
      bnd (F_schema_Check n x41) fun x42 =>
      cnd (!decide (x42 = 0))
        (some x42)
      <| mgt v1_0.2 x41.fName (false : Bool) fun x43 x44 =>
      cnd (x43)
        (some 7)
      <| mst v1_0.2 x41.fName true fun x45 =>
      F_schema_CheckAll_l1 n a0 k1_0_0 mv1_0 ((IntKind.wrap .i64 (v1_0.1 + 1)), x45))
    <| k1_0_0
def F_schema_CheckAll (n : Nat) (a0 : (List T_api_Schema)) : Option (Int) :=
  cnd (decide (16 < (((List.map e_api_Schema (a0)).length : Nat) : Int)))
    (some 5)
  <| F_schema_CheckAll_l1 n a0
    (some 0) n (0, [])
def F_event_numbers (n : Nat) (a0 : T_api_Event) : Option (Int) :=
  cnd (decide (a0.fSource < 0))
    (some 32)
  <| cnd (decide (8 ≤ a0.fSource))
    (some 32)
  <| cnd (decide (a0.fSeq < 0))
    (some 2)
  <| cnd (decide (1099511627776 < a0.fSeq))
    (some 2)
  <| cnd (decide (a0.fTime < 0))
    (some 2)
  <| cnd (decide (1099511627776 < a0.fTime))
    (some 2)
  <| some 0
def F_event_valid_l1 (n : Nat) (a1 : T_api_Event) (x2 : T_api_Schema) (k1_0_0 : Option (Int)) : Nat → Int → Option (Int)
  | 0, _ => none
  | mv1_0 + 1, v1_0 =>
    cnd (decide (v1_0 < (((List.map e_api_Value (a1.fValues)).length : Nat) : Int)))
      (idx a1.fValues v1_0 fun x43 =>
      bnd (F_value_Check n x43) fun x44 =>
      cnd (!decide (x44 = 0))
        (some x44)
      <| idx x2.fFields v1_0 fun x45 =>
      cnd (!decide (x43.fKind = x45.fKind))
        (some 9)
      <| F_event_valid_l1 n a1 x2 k1_0_0 mv1_0 (IntKind.wrap .i64 (v1_0 + 1)))
    <| k1_0_0
def F_event_valid (n : Nat) (a0 : (List T_api_Schema)) (a1 : T_api_Event) : Option (Int) :=
  bnd (F_event_numbers n a1) fun x1 =>
  cnd (!decide (x1 = 0))
    (some x1)
  <| cnd (decide (a1.fType < 0))
    (some 6)
  <| cnd (decide ((((List.map e_api_Schema (a0)).length : Nat) : Int) ≤ a1.fType))
    (some 6)
  <| idx a0 a1.fType fun x2 =>
  cnd (!decide ((((List.map e_api_Value (a1.fValues)).length : Nat) : Int) = (((List.map e_api_Field (x2.fFields)).length : Nat) : Int)))
    (some 15)
  <| F_event_valid_l1 n a1 x2
    (some 0) n 0
def F_event_Check (n : Nat) (a0 : (List T_api_Schema)) (a1 : T_api_Event) : Option (Int) :=
  bnd (F_schema_CheckAll n a0) fun x1 =>
  cnd (!decide (x1 = 0))
    (some x1)
  <| bnd (F_event_valid n a0 a1) fun x2 =>
  some x2
def F_event_Key_l1 (n : Nat) (a2 : T_api_Event) (a1 : (List Int)) (a0 : (List T_api_Schema)) (k1_0_0 : Option (T_api_Value × Bool × Int)) : Nat → Int → Option (T_api_Value × Bool × Int)
  | 0, _ => none
  | mv1_0 + 1, v1_0 =>
    cnd (decide (v1_0 < (((List.map aI (a1)).length : Nat) : Int)))
      (idx a1 v1_0 fun x44 =>
      cnd (decide (x44 < (-1)))
        (some (⟨0, 0, ByteArray.empty⟩, false, 16))
      <| idx a0 v1_0 fun x45 =>
      cnd (decide ((((List.map e_api_Field (x45.fFields)).length : Nat) : Int) ≤ x44))
        (some (⟨0, 0, ByteArray.empty⟩, false, 16))
      <| F_event_Key_l1 n a2 a1 a0 k1_0_0 mv1_0 (IntKind.wrap .i64 (v1_0 + 1)))
    <| k1_0_0
def F_event_Key (n : Nat) (a0 : (List T_api_Schema)) (a1 : (List Int)) (a2 : T_api_Event) : Option (T_api_Value × Bool × Int) :=
  bnd (F_event_Check n a0 a2) fun x1 =>
  cnd (!decide (x1 = 0))
    (some (⟨0, 0, ByteArray.empty⟩, false, x1))
  <| cnd (decide ((((List.map aI (a1)).length : Nat) : Int) = 0))
    (some (⟨0, 0, ByteArray.empty⟩, true, 0))
  <| cnd (!decide ((((List.map aI (a1)).length : Nat) : Int) = (((List.map e_api_Schema (a0)).length : Nat) : Int)))
    (some (⟨0, 0, ByteArray.empty⟩, false, 15))
  <| F_event_Key_l1 n a2 a1 a0
    (idx a1 a2.fType fun x42 =>
  cnd (decide (0 ≤ x42))
    (idx a2.fValues x42 fun x43 =>
    some (x43, true, 0))
  <| some (⟨0, 0, ByteArray.empty⟩, false, 0)) n 0
def F_keygroup_Group (n : Nat) (a0 : T_api_Value) : Option (Int × Int) :=
  bnd (F_value_Hash n a0) fun x1 =>
  cnd (!decide (x1.2 = 0))
    (some (0, x1.2))
  <| nzx ((16 : Int)) <| some (((x1.1).tmod 16), 0)
def F_keygroup_number (n : Nat) (a0 : Int) : Option (Bool) :=
  cnd (decide (1 ≤ a0))
    (some (decide (a0 ≤ 8)))
  <| some false
def F_keygroup_allowed_l1 (n : Nat) (a0 : (List Bool)) (k1_0_0 : Option (Int)) : Nat → Int → Option (Int)
  | 0, _ => none
  | mv1_0 + 1, v1_0 =>
    cnd (decide (v1_0 < (((List.map AV.bool (a0)).length : Nat) : Int)))
      (idx a0 v1_0 fun x41 =>
      cnd (!(x41))
        (some 2)
      <| F_keygroup_allowed_l1 n a0 k1_0_0 mv1_0 (IntKind.wrap .i64 (v1_0 + 1)))
    <| k1_0_0
def F_keygroup_allowed (n : Nat) (a0 : (List Bool)) : Option (Int) :=
  F_keygroup_allowed_l1 n a0
    (some 0) n 0
def F_keygroup_owner (n : Nat) (a0 : Int) (a1 : Int) : Option (Int) :=
  nzx ((16 : Int)) <| some (IntKind.wrap .i64 ((IntKind.wrap .i64 (a0 * a1)).tdiv 16))
def F_keygroup_Worker (n : Nat) (a0 : Int) (a1 : Int) : Option (Int × Int) :=
  bnd (F_keygroup_number n a1) fun x1 =>
  bnd (F_keygroup_allowed n ([decide (0 ≤ a0), decide (a0 < 16), x1])) fun x2 =>
  cnd (!decide (x2 = 0))
    (some (0, x2))
  <| bnd (F_keygroup_owner n a0 a1) fun x3 =>
  some (x3, 0)
structure T_api_Item where
  fKind : Int
  fEvent : T_api_Event
  fNumber : Int
deriving DecidableEq, Inhabited
def e_api_Item (x : T_api_Item) : AV := .agg [aI (x.fKind), aI (x.fEvent.fSource), aI (x.fEvent.fSeq), aI (x.fEvent.fType), aI (x.fEvent.fTime), .sl 3 (List.map e_api_Value (x.fEvent.fValues)), aI (x.fNumber)]
structure T_api_Queue where
  fFrom : Int
  fTo : Int
  fItems : (List T_api_Item)
deriving DecidableEq, Inhabited
def e_api_Queue (x : T_api_Queue) : AV := .agg [aI (x.fFrom), aI (x.fTo), .sl 7 (List.map e_api_Item (x.fItems))]
def F_cmp_isNaN (n : Nat) (a0 : Int) : Option (Bool) :=
  some (!decide (a0 = a0))
def F_cmp_Compare (n : Nat) (a0 : Int) (a1 : Int) : Option (Int) :=
  bnd (F_cmp_isNaN n a0) fun x1 =>
  bnd (F_cmp_isNaN n a1) fun x2 =>
  cnd (x1)
    (cnd (x2)
      (some 0)
    <| some (-1))
  <| cnd (x2)
    (some 1)
  <| cnd (decide (a0 < a1))
    (some (-1))
  <| cnd (decide (a1 < a0))
    (some 1)
  <| some 0
def F_cmp_Or_l1 (n : Nat) (a0 : (List Int)) (k1_0_0 : Option (Int)) : Nat → Int → Option (Int)
  | 0, _ => none
  | mv1_0 + 1, v1_0 =>
    cnd (decide (v1_0 < (((List.map aI (a0)).length : Nat) : Int)))
      (idx a0 v1_0 fun x41 =>
      cnd (!decide (x41 = 0))
        (some x41)
      <| F_cmp_Or_l1 n a0 k1_0_0 mv1_0 (IntKind.wrap .i64 (v1_0 + 1)))
    <| k1_0_0
def F_cmp_Or (n : Nat) (a0 : (List Int)) : Option (Int) :=
  F_cmp_Or_l1 n a0
    (some 0) n 0
def F_channel_order (n : Nat) (a0 : T_api_Queue) (a1 : T_api_Queue) : Option (Int) :=
  bnd (F_cmp_Compare n a0.fFrom a1.fFrom) fun x1 =>
  bnd (F_cmp_Compare n a0.fTo a1.fTo) fun x2 =>
  bnd (F_cmp_Or n ([x1, x2])) fun x3 =>
  some x3
def F_channel_empty (n : Nat) (a0 : T_api_Event) : Option (Bool) :=
  cnd (decide (a0.fSource = 0))
    (cnd (decide (a0.fSeq = 0))
      (cnd (decide (a0.fType = 0))
        (cnd (decide (a0.fTime = 0))
          (some (decide ((((List.map e_api_Value (a0.fValues)).length : Nat) : Int) = 0)))
        <| some false)
      <| some false)
    <| some false)
  <| some false
def F_channel_item (n : Nat) (a0 : T_api_Item) : Option (Int) :=
  cnd (decide (a0.fKind = 0))
    (cnd (decide (a0.fNumber < 0))
      (some 2)
    <| cnd (decide (0 < a0.fNumber))
      (some 2)
    <| cnd (!decide (a0.fKind = 0))
      (bnd (F_channel_empty n a0.fEvent) fun x1 =>
      cnd (!(x1))
        (some 3)
      <| some 0)
    <| some 0)
  <| cnd (decide (a0.fKind = 1))
    (cnd (decide (a0.fNumber < 0))
      (some 2)
    <| cnd (decide (1099511627776 < a0.fNumber))
      (some 2)
    <| cnd (!decide (a0.fKind = 0))
      (bnd (F_channel_empty n a0.fEvent) fun x2 =>
      cnd (!(x2))
        (some 3)
      <| some 0)
    <| some 0)
  <| cnd (decide (a0.fKind = 2))
    (cnd (decide (a0.fNumber < 1))
      (some 2)
    <| cnd (decide (1099511627776 < a0.fNumber))
      (some 2)
    <| cnd (!decide (a0.fKind = 0))
      (bnd (F_channel_empty n a0.fEvent) fun x3 =>
      cnd (!(x3))
        (some 3)
      <| some 0)
    <| some 0)
  <| some 1
def F_channel_items_l1 (n : Nat) (a0 : (List T_api_Item)) (k1_0_0 : Option (Int)) : Nat → Int → Option (Int)
  | 0, _ => none
  | mv1_0 + 1, v1_0 =>
    cnd (decide (v1_0 < (((List.map e_api_Item (a0)).length : Nat) : Int)))
      (idx a0 v1_0 fun x41 =>
      bnd (F_channel_item n x41) fun x42 =>
      cnd (!decide (x42 = 0))
        (some x42)
      <| F_channel_items_l1 n a0 k1_0_0 mv1_0 (IntKind.wrap .i64 (v1_0 + 1)))
    <| k1_0_0
def F_channel_items (n : Nat) (a0 : (List T_api_Item)) : Option (Int) :=
  F_channel_items_l1 n a0
    (some 0) n 0
def F_channel_Check_l1 (n : Nat) (a0 : (List T_api_Queue)) (k1_0_0 : Option (Int)) : Nat → Int → Option (Int)
  | 0, _ => none
  | mv1_0 + 1, v1_0 =>
    cnd (decide (v1_0 < (((List.map e_api_Queue (a0)).length : Nat) : Int)))
      (idx a0 v1_0 fun x41 =>
      cnd (decide (x41.fFrom < 0))
        (some 2)
      <| cnd (decide (8 ≤ x41.fFrom))
        (some 2)
      <| cnd (decide (x41.fTo < 0))
        (some 2)
      <| cnd (decide (8 ≤ x41.fTo))
        (some 2)
      <| cnd (decide (0 < v1_0))
        (idx a0 (IntKind.wrap .i64 (v1_0 - 1)) fun x42 =>
        bnd (F_channel_order n x42 x41) fun x43 =>
        cnd (decide (0 ≤ x43))
          (some 14)
        <| cnd (decide (4096 < (((List.map e_api_Item (x41.fItems)).length : Nat) : Int)))
          (some 5)
        <| bnd (F_channel_items n x41.fItems) fun x44 =>
        cnd (!decide (x44 = 0))
          (some x44)
        <| F_channel_Check_l1 n a0 k1_0_0 mv1_0 (IntKind.wrap .i64 (v1_0 + 1)))
      <| cnd (decide (4096 < (((List.map e_api_Item (x41.fItems)).length : Nat) : Int)))
        (some 5)
      <| bnd (F_channel_items n x41.fItems) fun x45 =>
      cnd (!decide (x45 = 0))
        (some x45)
      <| F_channel_Check_l1 n a0 k1_0_0 mv1_0 (IntKind.wrap .i64 (v1_0 + 1)))
    <| k1_0_0
def F_channel_Check (n : Nat) (a0 : (List T_api_Queue)) : Option (Int) :=
  F_channel_Check_l1 n a0
    (some 0) n 0
def F_tidegateref46_SameItem_l1 (n : Nat) (a1 : T_api_Item) (a0 : T_api_Item) (k1_0_0 : Option (Bool)) : Nat → Int → Option (Bool)
  | 0, _ => none
  | mv1_0 + 1, v1_0 =>
    cnd (decide (v1_0 < (((List.map e_api_Value (a0.fEvent.fValues)).length : Nat) : Int)))
      (idx a0.fEvent.fValues v1_0 fun x41 =>
      idx a1.fEvent.fValues v1_0 fun x42 =>
      cnd (!(decide (x41.fKind = x42.fKind) && (decide (x41.fNum = x42.fNum) && ((x41.fText.toList == x42.fText.toList) && true))))
        (some false)
      <| F_tidegateref46_SameItem_l1 n a1 a0 k1_0_0 mv1_0 (IntKind.wrap .i64 (v1_0 + 1)))
    <| k1_0_0
def F_tidegateref46_SameItem (n : Nat) (a0 : T_api_Item) (a1 : T_api_Item) : Option (Bool) :=
  cnd (!decide (a0.fKind = a1.fKind))
    (some false)
  <| cnd (!decide (a0.fNumber = a1.fNumber))
    (some false)
  <| cnd (!decide (a0.fEvent.fSource = a1.fEvent.fSource))
    (some false)
  <| cnd (!decide (a0.fEvent.fSeq = a1.fEvent.fSeq))
    (some false)
  <| cnd (!decide (a0.fEvent.fType = a1.fEvent.fType))
    (some false)
  <| cnd (!decide (a0.fEvent.fTime = a1.fEvent.fTime))
    (some false)
  <| cnd (!decide ((((List.map e_api_Value (a0.fEvent.fValues)).length : Nat) : Int) = (((List.map e_api_Value (a1.fEvent.fValues)).length : Nat) : Int)))
    (some false)
  <| F_tidegateref46_SameItem_l1 n a1 a0
    (some true) n 0
def F_tidegateref46_SameItems_l1 (n : Nat) (a1 : (List T_api_Item)) (a0 : (List T_api_Item)) (k1_0_0 : Option (Bool)) : Nat → Int → Option (Bool)
  | 0, _ => none
  | mv1_0 + 1, v1_0 =>
    cnd (decide (v1_0 < (((List.map e_api_Item (a0)).length : Nat) : Int)))
      (idx a0 v1_0 fun x41 =>
      idx a1 v1_0 fun x42 =>
      bnd (F_tidegateref46_SameItem n x41 x42) fun x43 =>
      cnd (!(x43))
        (some false)
      <| F_tidegateref46_SameItems_l1 n a1 a0 k1_0_0 mv1_0 (IntKind.wrap .i64 (v1_0 + 1)))
    <| k1_0_0
def F_tidegateref46_SameItems (n : Nat) (a0 : (List T_api_Item)) (a1 : (List T_api_Item)) : Option (Bool) :=
  cnd (!decide ((((List.map e_api_Item (a0)).length : Nat) : Int) = (((List.map e_api_Item (a1)).length : Nat) : Int)))
    (some false)
  <| F_tidegateref46_SameItems_l1 n a1 a0
    (some true) n 0
def F_tidegateref34_SameInts_l1 (n : Nat) (a1 : (List Int)) (a0 : (List Int)) (k1_0_0 : Option (Bool)) : Nat → Int → Option (Bool)
  | 0, _ => none
  | mv1_0 + 1, v1_0 =>
    cnd (decide (v1_0 < (((List.map aI (a0)).length : Nat) : Int)))
      (idx a0 v1_0 fun x41 =>
      idx a1 v1_0 fun x42 =>
      cnd (!decide (x41 = x42))
        (some false)
      <| F_tidegateref34_SameInts_l1 n a1 a0 k1_0_0 mv1_0 (IntKind.wrap .i64 (v1_0 + 1)))
    <| k1_0_0
def F_tidegateref34_SameInts (n : Nat) (a0 : (List Int)) (a1 : (List Int)) : Option (Bool) :=
  cnd (!decide ((((List.map aI (a0)).length : Nat) : Int) = (((List.map aI (a1)).length : Nat) : Int)))
    (some false)
  <| F_tidegateref34_SameInts_l1 n a1 a0
    (some true) n 0
structure T_api_Reader where
  fSource : Int
  fOffset : Int
  fTracker : Trk
deriving DecidableEq, Inhabited
def F_reader_Check (n : Nat) (a0 : T_api_Reader) : Option (Int) :=
  cnd (decide (a0.fSource < 0))
    (some 32)
  <| cnd (decide (8 ≤ a0.fSource))
    (some 32)
  <| cnd (decide (a0.fOffset < 0))
    (some 30)
  <| cnd (decide (4096 < a0.fOffset))
    (some 30)
  <| bnd (F_puCheck n a0.fTracker) fun x1 =>
  some x1
def F_reader_Begin (n : Nat) (a0 : Int) : Option (T_api_Reader × Int) :=
  cnd (decide (a0 < 0))
    (some (⟨0, 0, ⟨0, [], [], 0⟩⟩, 32))
  <| cnd (decide (8 ≤ a0))
    (some (⟨0, 0, ⟨0, [], [], 0⟩⟩, 32))
  <| bnd (F_sequence_Begin n) fun x1 =>
  some (⟨a0, 0, x1⟩, 0)
def F_reader_origin (n : Nat) (a0 : T_api_Message) : Option (Int) :=
  cnd (decide (a0.fKind = 0))
    (some a0.fEvent.fSource)
  <| some a0.fSource
def F_reader_accept_l1 (n : Nat) (a2 : T_api_Message) (a1 : T_api_Reader) (x4 : (List Trk)) (k1_0_0 : (List Trk) → Option (Trk × Bool × Bool)) : Nat → Int × (List Trk) → Option (Trk × Bool × Bool)
  | 0, _ => none
  | mv1_0 + 1, v1_0 =>
    cnd (decide (v1_0.1 < (((List.map aTrk (x4)).length : Nat) : Int)))
      (bnd (F_sequence_Begin n) fun x51 =>
      nat v1_0.1 (List.map aTrk (v1_0.2)).length fun x52 =>
      stx v1_0.2 x52 (fun x53 => x51) fun x54 =>
      F_reader_accept_l1 n a2 a1 x4 k1_0_0 mv1_0 ((IntKind.wrap .i64 (v1_0.1 + 1)), x54))
    <| k1_0_0 v1_0.2
def F_reader_accept_l2 (n : Nat) (a2 : T_api_Message) (a1 : T_api_Reader) (x55 : (List Trk)) (k2_1_0 : (List Trk) → Option (Trk × Bool × Bool)) : Nat → Int × (List Trk) → Option (Trk × Bool × Bool)
  | 0, _ => none
  | mv2_1 + 1, v2_1 =>
    cnd (decide (v2_1.1 < (((List.map aTrk (x55)).length : Nat) : Int)))
      (bnd (F_sequence_Begin n) fun x102 =>
      nat v2_1.1 (List.map aTrk (v2_1.2)).length fun x103 =>
      stx v2_1.2 x103 (fun x104 => x102) fun x105 =>
      F_reader_accept_l2 n a2 a1 x55 k2_1_0 mv2_1 ((IntKind.wrap .i64 (v2_1.1 + 1)), x105))
    <| k2_1_0 v2_1.2
def F_reader_accept (n : Nat) (a0 : (List T_api_Schema)) (a1 : T_api_Reader) (a2 : T_api_Message) : Option (Trk × Bool × Bool) :=
  bnd (F_watermark_CheckMessage n a2) fun x1 =>
  cnd (!decide (x1 = 0))
    (some (a1.fTracker, false, false))
  <| bnd (F_reader_origin n a2) fun x2 =>
  cnd (!decide (x2 = a1.fSource))
    (some (a1.fTracker, false, false))
  <| cnd (decide (a2.fKind = 0))
    (bnd (F_event_Check n a0 a2.fEvent) fun x3 =>
    cnd (!decide (x3 = 0))
      (some (a1.fTracker, false, false))
    <| mak (IntKind.wrap .i64 (a1.fSource + 1)) 64 (⟨0, [], [], 0⟩ : Trk) fun x4 =>
    F_reader_accept_l1 n a2 a1 x4
      (fun k1_0_0y => nat a1.fSource (List.map aTrk (k1_0_0y)).length fun x46 =>
    stx k1_0_0y x46 (fun x47 => a1.fTracker) fun x48 =>
    frz 41 <| reg <| bnd (F_watermark_Receive n x48 a2) fun x49 =>
    cnd (!decide (x49.2.2 = 0))
      (some (a1.fTracker, false, false))
    <| idx x49.1 a1.fSource fun x50 =>
    some (x50, x49.2.1, true)) n (0, x4))
  <| mak (IntKind.wrap .i64 (a1.fSource + 1)) 64 (⟨0, [], [], 0⟩ : Trk) fun x55 =>
  F_reader_accept_l2 n a2 a1 x55
    (fun k2_1_0y => nat a1.fSource (List.map aTrk (k2_1_0y)).length fun x97 =>
  stx k2_1_0y x97 (fun x98 => a1.fTracker) fun x99 =>
  frz 41 <| reg <| bnd (F_watermark_Receive n x99 a2) fun x100 =>
  cnd (!decide (x100.2.2 = 0))
    (some (a1.fTracker, false, false))
  <| idx x100.1 a1.fSource fun x101 =>
  some (x101, x100.2.1, true)) n (0, x55)
def F_reader_read (n : Nat) (a0 : (List T_api_Schema)) (a1 : T_api_Reader) (a2 : T_api_Message) : Option (T_api_Reader × (List T_api_Item)) :=
  bnd (F_reader_accept n a0 a1 a2) fun x1 =>
  cnd (!(x1.2.2))
    (some (⟨a1.fSource, (IntKind.wrap .i64 (a1.fOffset + 1)), a1.fTracker⟩, []))
  <| cnd (x1.2.1)
    (app ([] : List T_api_Item) ([⟨0, a2.fEvent, 0⟩]) 72 fun x2 =>
    cnd (decide (a1.fTracker.mark < x1.1.mark))
      (app x2 ([⟨1, ⟨0, 0, 0, 0, []⟩, x1.1.mark⟩]) 72 fun x3 =>
      some (⟨a1.fSource, (IntKind.wrap .i64 (a1.fOffset + 1)), x1.1⟩, x3))
    <| some (⟨a1.fSource, (IntKind.wrap .i64 (a1.fOffset + 1)), x1.1⟩, x2))
  <| cnd (decide (a1.fTracker.mark < x1.1.mark))
    (app ([] : List T_api_Item) ([⟨1, ⟨0, 0, 0, 0, []⟩, x1.1.mark⟩]) 72 fun x4 =>
    some (⟨a1.fSource, (IntKind.wrap .i64 (a1.fOffset + 1)), x1.1⟩, x4))
  <| some (⟨a1.fSource, (IntKind.wrap .i64 (a1.fOffset + 1)), x1.1⟩, [])
def F_reader_check (n : Nat) (a0 : T_api_Reader) (a1 : (List T_api_Message)) (a2 : Int) : Option (Int) :=
  bnd (F_reader_Check n a0) fun x1 =>
  cnd (!decide (x1 = 0))
    (some x1)
  <| cnd (decide (4096 < (((List.map e_api_Message (a1)).length : Nat) : Int)))
    (some 5)
  <| cnd (decide ((IntKind.wrap .i64 ((((List.map e_api_Message (a1)).length : Nat) : Int) - a0.fOffset)) < a2))
    (some 30)
  <| some 0
def F_reader_owned (n : Nat) (a0 : T_api_Reader) : Option (T_api_Reader) :=
  bnd (F_clone n a0.fTracker.beyond) fun x1 =>
  bnd (F_clone n a0.fTracker.points) fun x2 =>
  some (⟨a0.fSource, a0.fOffset, ⟨a0.fTracker.next, x1, x2, a0.fTracker.mark⟩⟩)
def F_reader_Read (n : Nat) (a0 : (List T_api_Schema)) (a1 : T_api_Reader) (a2 : (List T_api_Message)) : Option (T_api_Reader × (List T_api_Item) × Int) :=
  bnd (F_schema_CheckAll n a0) fun x1 =>
  cnd (!decide (x1 = 0))
    (some (⟨0, 0, ⟨0, [], [], 0⟩⟩, [], x1))
  <| bnd (F_reader_check n a1 a2 1) fun x2 =>
  cnd (!decide (x2 = 0))
    (some (⟨0, 0, ⟨0, [], [], 0⟩⟩, [], x2))
  <| idx a2 a1.fOffset fun x3 =>
  bnd (F_reader_read n a0 a1 x3) fun x4 =>
  bnd (F_reader_owned n x4.1) fun x5 =>
  some (x5, x4.2, 0)
def F_reader_steps (n : Nat) (a0 : (List T_api_Schema)) (a1 : T_api_Reader) (a2 : (List T_api_Message)) : Option ((List T_api_Message) × T_api_Reader × (List T_api_Schema)) :=
  some (a2, a1, a0)
def F_reader_Replay_b9 (n : Nat) (a0 : T_api_Reader) (a1 : (List T_api_Item)) (m0 : (List T_api_Item)) (m1 : T_api_Reader) : Option ((List T_api_Item) × T_api_Reader) :=
  app m0 a1 72 fun x4 =>
  some (x4, a0)
def F_reader_steps_1_l1 (n : Nat) (m4 : (List T_api_Schema)) (m2 : (List T_api_Message)) (x1 : (List T_api_Message)) (k1_0_0 : Int → Int → Int → (List Int) → (List Pt) → Int → Int → Int → Int → (List Int) → (List Pt) → Int → (List T_api_Item) → Option ((List T_api_Item) × T_api_Reader × (List T_api_Message) × T_api_Reader × (List T_api_Schema))) : Nat → Int × Int × Int × Int × (List Int) × (List Pt) × Int × Int × Int × Int × (List Int) × (List Pt) × Int × (List T_api_Item) → Option ((List T_api_Item) × T_api_Reader × (List T_api_Message) × T_api_Reader × (List T_api_Schema))
  | 0, _ => none
  | mv1_0 + 1, v1_0 =>
    cnd (decide (v1_0.1 < (((List.map e_api_Message (x1)).length : Nat) : Int)))
      (idx x1 v1_0.1 fun x55 =>
      bnd (F_reader_read n m4 (⟨v1_0.2.2.2.2.2.2.2.1, v1_0.2.2.2.2.2.2.2.2.1, ⟨v1_0.2.2.2.2.2.2.2.2.2.1, v1_0.2.2.2.2.2.2.2.2.2.2.1, v1_0.2.2.2.2.2.2.2.2.2.2.2.1, v1_0.2.2.2.2.2.2.2.2.2.2.2.2.1⟩⟩ : T_api_Reader) x55) fun x56 =>
      bnd (F_reader_Replay_b9 n x56.1 x56.2 v1_0.2.2.2.2.2.2.2.2.2.2.2.2.2 (⟨v1_0.2.1, v1_0.2.2.1, ⟨v1_0.2.2.2.1, v1_0.2.2.2.2.1, v1_0.2.2.2.2.2.1, v1_0.2.2.2.2.2.2.1⟩⟩ : T_api_Reader)) fun x57 =>
      F_reader_steps_1_l1 n m4 m2 x1 k1_0_0 mv1_0 ((IntKind.wrap .i64 (v1_0.1 + 1)), x57.2.fSource, x57.2.fOffset, x57.2.fTracker.next, x57.2.fTracker.beyond, x57.2.fTracker.points, x57.2.fTracker.mark, x56.1.fSource, x56.1.fOffset, x56.1.fTracker.next, x56.1.fTracker.beyond, x56.1.fTracker.points, x56.1.fTracker.mark, x57.1))
    <| k1_0_0 v1_0.2.1 v1_0.2.2.1 v1_0.2.2.2.1 v1_0.2.2.2.2.1 v1_0.2.2.2.2.2.1 v1_0.2.2.2.2.2.2.1 v1_0.2.2.2.2.2.2.2.1 v1_0.2.2.2.2.2.2.2.2.1 v1_0.2.2.2.2.2.2.2.2.2.1 v1_0.2.2.2.2.2.2.2.2.2.2.1 v1_0.2.2.2.2.2.2.2.2.2.2.2.1 v1_0.2.2.2.2.2.2.2.2.2.2.2.2.1 v1_0.2.2.2.2.2.2.2.2.2.2.2.2.2
def F_reader_steps_1 (n : Nat) (m1 : T_api_Reader) (m2 : (List T_api_Message)) (m3 : T_api_Reader) (m4 : (List T_api_Schema)) : Option ((List T_api_Item) × T_api_Reader × (List T_api_Message) × T_api_Reader × (List T_api_Schema)) :=
  sls m2 m3.fOffset (((List.map e_api_Message (m2)).length : Nat) : Int) fun x1 =>
  F_reader_steps_1_l1 n m4 m2 x1
    (fun k1_0_0y0 k1_0_0y1 k1_0_0y2 k1_0_0y3 k1_0_0y4 k1_0_0y5 k1_0_0y6 k1_0_0y7 k1_0_0y8 k1_0_0y9 k1_0_0y10 k1_0_0y11 k1_0_0y12 => some (k1_0_0y12, ⟨k1_0_0y0, k1_0_0y1, ⟨k1_0_0y2, k1_0_0y3, k1_0_0y4, k1_0_0y5⟩⟩, m2, ⟨k1_0_0y6, k1_0_0y7, ⟨k1_0_0y8, k1_0_0y9, k1_0_0y10, k1_0_0y11⟩⟩, m4)) n (0, m1.fSource, m1.fOffset, m1.fTracker.next, m1.fTracker.beyond, m1.fTracker.points, m1.fTracker.mark, m3.fSource, m3.fOffset, m3.fTracker.next, m3.fTracker.beyond, m3.fTracker.points, m3.fTracker.mark, [])
def F_reader_Replay (n : Nat) (a0 : (List T_api_Schema)) (a1 : T_api_Reader) (a2 : (List T_api_Message)) : Option (T_api_Reader × (List T_api_Item) × Int) :=
  bnd (F_schema_CheckAll n a0) fun x1 =>
  cnd (!decide (x1 = 0))
    (some (⟨0, 0, ⟨0, [], [], 0⟩⟩, [], x1))
  <| bnd (F_reader_check n a1 a2 0) fun x2 =>
  cnd (!decide (x2 = 0))
    (some (⟨0, 0, ⟨0, [], [], 0⟩⟩, [], x2))
  <| bnd (F_reader_steps n a0 a1 a2) fun x3 =>
  bnd (F_reader_steps_1 n a1 x3.1 x3.2.1 x3.2.2) fun x5 =>
  bnd (F_reader_owned n x5.2.1) fun x6 =>
  some (x6, x5.1, 0)
def F_reader_checkKey_l1 (n : Nat) (a1 : (List Int)) (a0 : (List T_api_Schema)) (k1_0_0 : Option (Int)) : Nat → Int → Option (Int)
  | 0, _ => none
  | mv1_0 + 1, v1_0 =>
    cnd (decide (v1_0 < (((List.map aI (a1)).length : Nat) : Int)))
      (idx a1 v1_0 fun x41 =>
      cnd (decide (x41 < (-1)))
        (some 16)
      <| idx a0 v1_0 fun x42 =>
      cnd (decide ((((List.map e_api_Field (x42.fFields)).length : Nat) : Int) ≤ x41))
        (some 16)
      <| F_reader_checkKey_l1 n a1 a0 k1_0_0 mv1_0 (IntKind.wrap .i64 (v1_0 + 1)))
    <| k1_0_0
def F_reader_checkKey (n : Nat) (a0 : (List T_api_Schema)) (a1 : (List Int)) : Option (Int) :=
  cnd (decide ((((List.map aI (a1)).length : Nat) : Int) = 0))
    (some 0)
  <| cnd (!decide ((((List.map aI (a1)).length : Nat) : Int) = (((List.map e_api_Schema (a0)).length : Nat) : Int)))
    (some 15)
  <| F_reader_checkKey_l1 n a1 a0
    (some 0) n 0
def F_reader_Route_l3 (n : Nat) (a2 : Int) (k2_1_0y : (List (Int × Bool))) (k3_2_0 : (List Int) → Option ((List Int) × Int)) : Nat → Int × (List Int) → Option ((List Int) × Int)
  | 0, _ => none
  | mv3_2 + 1, v3_2 =>
    cnd (decide (v3_2.1 < a2))
      (mgt k2_1_0y v3_2.1 (false : Bool) fun x125 x126 =>
      cnd (x125)
        (app v3_2.2 [v3_2.1] 8 fun x127 =>
        F_reader_Route_l3 n a2 k2_1_0y k3_2_0 mv3_2 ((IntKind.wrap .i64 (v3_2.1 + 1)), x127))
      <| F_reader_Route_l3 n a2 k2_1_0y k3_2_0 mv3_2 ((IntKind.wrap .i64 (v3_2.1 + 1)), v3_2.2))
    <| k3_2_0 v3_2.2
def F_reader_Route_l2 (n : Nat) (a2 : Int) (k2_1_0 : (List (Int × Bool)) → Option ((List Int) × Int)) : Nat → Int × (List (Int × Bool)) → Option ((List Int) × Int)
  | 0, _ => none
  | mv2_1 + 1, v2_1 =>
    cnd (decide (v2_1.1 < a2))
      (mst v2_1.2 v2_1.1 true fun x128 =>
      F_reader_Route_l2 n a2 k2_1_0 mv2_1 ((IntKind.wrap .i64 (v2_1.1 + 1)), x128))
    <| k2_1_0 v2_1.2
def F_reader_Route_l5 (n : Nat) (a2 : Int) (k4_3_0y : (List (Int × Bool))) (k5_4_0 : (List Int) → Option ((List Int) × Int)) : Nat → Int × (List Int) → Option ((List Int) × Int)
  | 0, _ => none
  | mv5_4 + 1, v5_4 =>
    cnd (decide (v5_4.1 < a2))
      (mgt k4_3_0y v5_4.1 (false : Bool) fun x212 x213 =>
      cnd (x212)
        (app v5_4.2 [v5_4.1] 8 fun x214 =>
        F_reader_Route_l5 n a2 k4_3_0y k5_4_0 mv5_4 ((IntKind.wrap .i64 (v5_4.1 + 1)), x214))
      <| F_reader_Route_l5 n a2 k4_3_0y k5_4_0 mv5_4 ((IntKind.wrap .i64 (v5_4.1 + 1)), v5_4.2))
    <| k5_4_0 v5_4.2
def F_reader_Route_l4 (n : Nat) (a3 : T_api_Item) (a2 : Int) (a1 : (List (List Int))) (a0 : (List T_api_Schema)) (k4_3_0 : (List (Int × Bool)) → Option ((List Int) × Int)) : Nat → Int × (List (Int × Bool)) → Option ((List Int) × Int)
  | 0, _ => none
  | mv4_3 + 1, v4_3 =>
    cnd (decide (v4_3.1 < (((List.map (fun q => AV.sl 1 (List.map aI q)) (a1)).length : Nat) : Int)))
      (idx a1 v4_3.1 fun x215 =>
      bnd (F_event_Key n a0 x215 a3.fEvent) fun x216 =>
      bnd (F_keygroup_Group n x216.1) fun x217 =>
      cnd (x216.2.1)
        (cnd (decide (x217.2 = 0))
          (bnd (F_keygroup_Worker n x217.1 a2) fun x218 =>
          mst v4_3.2 x218.1 true fun x219 =>
          F_reader_Route_l4 n a3 a2 a1 a0 k4_3_0 mv4_3 ((IntKind.wrap .i64 (v4_3.1 + 1)), x219))
        <| F_reader_Route_l4 n a3 a2 a1 a0 k4_3_0 mv4_3 ((IntKind.wrap .i64 (v4_3.1 + 1)), v4_3.2))
      <| F_reader_Route_l4 n a3 a2 a1 a0 k4_3_0 mv4_3 ((IntKind.wrap .i64 (v4_3.1 + 1)), v4_3.2))
    <| k4_3_0 v4_3.2
def F_reader_Route_l1 (n : Nat) (a3 : T_api_Item) (a2 : Int) (a1 : (List (List Int))) (a0 : (List T_api_Schema)) (k1_0_0 : Option ((List Int) × Int)) : Nat → Int → Option ((List Int) × Int)
  | 0, _ => none
  | mv1_0 + 1, v1_0 =>
    cnd (decide (v1_0 < (((List.map (fun q => AV.sl 1 (List.map aI q)) (a1)).length : Nat) : Int)))
      (idx a1 v1_0 fun x220 =>
      bnd (F_reader_checkKey n a0 x220) fun x221 =>
      cnd (!decide (x221 = 0))
        (some ([], x221))
      <| F_reader_Route_l1 n a3 a2 a1 a0 k1_0_0 mv1_0 (IntKind.wrap .i64 (v1_0 + 1)))
    <| k1_0_0
def F_reader_Route (n : Nat) (a0 : (List T_api_Schema)) (a1 : (List (List Int))) (a2 : Int) (a3 : T_api_Item) : Option ((List Int) × Int) :=
  bnd (F_schema_CheckAll n a0) fun x1 =>
  cnd (!decide (x1 = 0))
    (some ([], x1))
  <| cnd (decide (16 < (((List.map (fun q => AV.sl 1 (List.map aI q)) (a1)).length : Nat) : Int)))
    (some ([], 5))
  <| F_reader_Route_l1 n a3 a2 a1 a0
    (cnd (decide (a2 < 1))
    (some ([], 2))
  <| cnd (decide (8 < a2))
    (some ([], 2))
  <| bnd (F_channel_Check n ([⟨0, 0, [a3]⟩])) fun x42 =>
  cnd (!decide (x42 = 0))
    (some ([], x42))
  <| cnd (!decide (a3.fKind = 0))
    (F_reader_Route_l2 n a2
      (fun k2_1_0y => F_reader_Route_l3 n a2 k2_1_0y
      (fun k3_2_0y => some (k3_2_0y, 0)) n (0, [])) n (0, []))
  <| bnd (F_event_Check n a0 a3.fEvent) fun x129 =>
  cnd (!decide (x129 = 0))
    (some ([], x129))
  <| F_reader_Route_l4 n a3 a2 a1 a0
    (fun k4_3_0y => F_reader_Route_l5 n a2 k4_3_0y
    (fun k5_4_0y => some (k5_4_0y, 0)) n (0, [])) n (0, [])) n 0
def F_tidegatelaw47_event (n : Nat) (a0 : Int) (a1 : Int) : Option (T_api_Event) :=
  some (⟨0, a0, 0, a1, [⟨2, 0, (ByteArray.mk #[97])⟩]⟩)
def F_tidegatelaw47_types (n : Nat) : Option ((List T_api_Schema)) :=
  some ([⟨(ByteArray.mk #[65]), [⟨(ByteArray.mk #[115]), 2⟩]⟩])
def F_tidegatelaw47_awake (n : Nat) : Option (Bool) :=
  bnd (F_tidegatelaw47_event n 1 7) fun x1 =>
  bnd (F_tidegatelaw47_event n 0 4) fun x2 =>
  bnd (F_tidegatelaw47_event n 1 7) fun x3 =>
  bnd (F_reader_Begin n 0) fun x4 =>
  bnd (F_tidegatelaw47_types n) fun x5 =>
  bnd (F_reader_Read n x5 x4.1 ([⟨0, x1, 0, 0, 0⟩, ⟨1, ⟨0, 0, 0, 0, []⟩, 0, 2, 5⟩, ⟨0, x2, 0, 0, 0⟩, ⟨0, x3, 0, 0, 0⟩])) fun x6 =>
  bnd (F_tidegatelaw47_types n) fun x7 =>
  bnd (F_reader_Replay n x7 x4.1 ([⟨0, x1, 0, 0, 0⟩, ⟨1, ⟨0, 0, 0, 0, []⟩, 0, 2, 5⟩, ⟨0, x2, 0, 0, 0⟩, ⟨0, x3, 0, 0, 0⟩])) fun x8 =>
  cnd (!decide (x4.2 = 0))
    (some false)
  <| cnd (!decide (x6.2.2 = 0))
    (some false)
  <| cnd (!decide (x8.2.2 = 0))
    (some false)
  <| cnd (!decide (x6.1.fOffset = 1))
    (some false)
  <| cnd (!decide (x8.1.fOffset = 4))
    (some false)
  <| cnd (!decide (x8.1.fTracker.mark = 5))
    (some false)
  <| bnd (F_tidegatelaw47_event n 1 7) fun x9 =>
  bnd (F_tidegateref46_SameItems n x6.2.1 ([⟨0, x9, 0⟩])) fun x10 =>
  cnd (!(x10))
    (some false)
  <| bnd (F_tidegatelaw47_event n 1 7) fun x11 =>
  bnd (F_tidegatelaw47_event n 0 4) fun x12 =>
  bnd (F_tidegateref46_SameItems n x8.2.1 ([⟨0, x11, 0⟩, ⟨0, x12, 0⟩, ⟨1, ⟨0, 0, 0, 0, []⟩, 5⟩])) fun x13 =>
  cnd (!(x13))
    (some false)
  <| bnd (F_tidegatelaw47_types n) fun x14 =>
  bnd (F_tidegatelaw47_event n 1 7) fun x15 =>
  bnd (F_reader_Route n x14 [[0]] 2 (⟨0, x15, 0⟩ : T_api_Item)) fun x16 =>
  bnd (F_tidegatelaw47_types n) fun x17 =>
  bnd (F_reader_Route n x17 [] 2 (⟨1, ⟨0, 0, 0, 0, []⟩, 5⟩ : T_api_Item)) fun x18 =>
  cnd (decide (x16.2 = 0))
    (cnd (decide (x18.2 = 0))
      (bnd (F_tidegateref34_SameInts n x16.1 [1]) fun x19 =>
      cnd (x19)
        (bnd (F_tidegateref34_SameInts n x18.1 ([0, 1])) fun x20 =>
        some x20)
      <| some false)
    <| some false)
  <| some false
structure T_tidegatelaw47_Routing where
  fKeys : (List (List Int))
  fWorkers : Int
deriving DecidableEq, Inhabited
def e_tidegatelaw47_Routing (x : T_tidegatelaw47_Routing) : AV := .agg [.sl 1 (List.map (fun q => AV.sl 1 (List.map aI q)) (x.fKeys)), aI (x.fWorkers)]
def F_tidegatelaw47_ReaderGathers_l2 (n : Nat) (a2 : T_tidegatelaw47_Routing) (a0 : T_api_Event) (x54 : (List Int) × Int) (k2_1_0 : Option (Bool)) : Nat → Int → Option (Bool)
  | 0, _ => none
  | mv2_1 + 1, v2_1 =>
    cnd (decide (v2_1 < (((List.map aI (x54.1)).length : Nat) : Int)))
      (idx x54.1 v2_1 fun x97 =>
      cnd (!decide (x97 = v2_1))
        (some false)
      <| F_tidegatelaw47_ReaderGathers_l2 n a2 a0 x54 k2_1_0 mv2_1 (IntKind.wrap .i64 (v2_1 + 1)))
    <| k2_1_0
def F_tidegatelaw47_ReaderGathers_l1 (n : Nat) (a2 : T_tidegatelaw47_Routing) (a0 : T_api_Event) (x7 : (List Int) × Int) (x9 : (List Int) × Int) (k1_0_0 : Bool → Option (Bool)) : Nat → Bool × Int → Option (Bool)
  | 0, _ => none
  | mv1_0 + 1, v1_0 =>
    cnd (decide (v1_0.2 < (((List.map aI (x9.1)).length : Nat) : Int)))
      (cnd (v1_0.1)
        (idx x9.1 v1_0.2 fun x98 =>
        cnd (decide (x98 < 0))
          (some false)
        <| idx x9.1 v1_0.2 fun x99 =>
        cnd (decide (a2.fWorkers ≤ x99))
          (some false)
        <| cnd (decide (0 < v1_0.2))
          (idx x9.1 v1_0.2 fun x100 =>
          idx x9.1 (IntKind.wrap .i64 (v1_0.2 - 1)) fun x101 =>
          cnd (decide (x100 ≤ x101))
            (some false)
          <| F_tidegatelaw47_ReaderGathers_l1 n a2 a0 x7 x9 k1_0_0 mv1_0 (true, (IntKind.wrap .i64 (v1_0.2 + 1))))
        <| F_tidegatelaw47_ReaderGathers_l1 n a2 a0 x7 x9 k1_0_0 mv1_0 (true, (IntKind.wrap .i64 (v1_0.2 + 1))))
      <| idx x9.1 v1_0.2 fun x102 =>
      idx x7.1 0 fun x103 =>
      idx x9.1 v1_0.2 fun x104 =>
      cnd (decide (x104 < 0))
        (some false)
      <| idx x9.1 v1_0.2 fun x105 =>
      cnd (decide (a2.fWorkers ≤ x105))
        (some false)
      <| cnd (decide (0 < v1_0.2))
        (idx x9.1 v1_0.2 fun x106 =>
        idx x9.1 (IntKind.wrap .i64 (v1_0.2 - 1)) fun x107 =>
        cnd (decide (x106 ≤ x107))
          (some false)
        <| F_tidegatelaw47_ReaderGathers_l1 n a2 a0 x7 x9 k1_0_0 mv1_0 (decide (x102 = x103), (IntKind.wrap .i64 (v1_0.2 + 1))))
      <| F_tidegatelaw47_ReaderGathers_l1 n a2 a0 x7 x9 k1_0_0 mv1_0 (decide (x102 = x103), (IntKind.wrap .i64 (v1_0.2 + 1))))
    <| k1_0_0 v1_0.1
def F_tidegatelaw47_ReaderGathers (n : Nat) (a0 : T_api_Event) (a1 : T_api_Event) (a2 : T_tidegatelaw47_Routing) : Option (Bool) :=
  cnd (!decide ((((List.map e_api_Value (a0.fValues)).length : Nat) : Int) = 2))
    (bnd (F_tidegatelaw47_awake n) fun x1 =>
    some x1)
  <| cnd (!decide ((((List.map e_api_Value (a1.fValues)).length : Nat) : Int) = 2))
    (bnd (F_tidegatelaw47_awake n) fun x2 =>
    some x2)
  <| cnd (decide (a2.fWorkers < 1))
    (bnd (F_tidegatelaw47_awake n) fun x3 =>
    some x3)
  <| cnd (decide (8 < a2.fWorkers))
    (bnd (F_tidegatelaw47_awake n) fun x4 =>
    some x4)
  <| idx a1.fValues 0 fun x5 =>
  idx a0.fValues 1 fun x6 =>
  bnd (F_reader_Route n ([⟨(ByteArray.mk #[65]), [⟨(ByteArray.mk #[120]), 0⟩, ⟨(ByteArray.mk #[115]), 2⟩]⟩]) [[1]] a2.fWorkers (⟨0, a0, 0⟩ : T_api_Item)) fun x7 =>
  bnd (F_reader_Route n ([⟨(ByteArray.mk #[65]), [⟨(ByteArray.mk #[120]), 0⟩, ⟨(ByteArray.mk #[115]), 2⟩]⟩]) [[1]] a2.fWorkers (⟨0, ⟨a1.fSource, a1.fSeq, a1.fType, a1.fTime, [x5, x6]⟩, 0⟩ : T_api_Item)) fun x8 =>
  bnd (F_reader_Route n ([⟨(ByteArray.mk #[65]), [⟨(ByteArray.mk #[120]), 0⟩, ⟨(ByteArray.mk #[115]), 2⟩]⟩]) ([[1], [0], [(-1)], []]) a2.fWorkers (⟨0, a0, 0⟩ : T_api_Item)) fun x9 =>
  cnd (!decide (x7.2 = 0))
    (bnd (F_tidegatelaw47_awake n) fun x10 =>
    some x10)
  <| cnd (!decide (x8.2 = 0))
    (bnd (F_tidegatelaw47_awake n) fun x11 =>
    some x11)
  <| cnd (!decide (x9.2 = 0))
    (some false)
  <| cnd (!decide ((((List.map aI (x7.1)).length : Nat) : Int) = 1))
    (some false)
  <| bnd (F_tidegateref34_SameInts n x7.1 x8.1) fun x12 =>
  cnd (!(x12))
    (some false)
  <| cnd (decide ((((List.map aI (x9.1)).length : Nat) : Int) < 1))
    (some false)
  <| cnd (decide (3 < (((List.map aI (x9.1)).length : Nat) : Int)))
    (some false)
  <| F_tidegatelaw47_ReaderGathers_l1 n a2 a0 x7 x9
    (fun k1_0_0y => bnd (F_reader_Route n ([⟨(ByteArray.mk #[65]), [⟨(ByteArray.mk #[120]), 0⟩, ⟨(ByteArray.mk #[115]), 2⟩]⟩]) [] a2.fWorkers (⟨1, ⟨0, 0, 0, 0, []⟩, 3⟩ : T_api_Item)) fun x54 =>
  cnd (!decide (x54.2 = 0))
    (some false)
  <| cnd (!decide ((((List.map aI (x54.1)).length : Nat) : Int) = a2.fWorkers))
    (some false)
  <| cnd (!(k1_0_0y))
    (some false)
  <| F_tidegatelaw47_ReaderGathers_l2 n a2 a0 x54
    (bnd (F_reader_Route n ([⟨(ByteArray.mk #[65]), [⟨(ByteArray.mk #[120]), 0⟩, ⟨(ByteArray.mk #[115]), 2⟩]⟩]) [[(-1)]] a2.fWorkers (⟨0, a0, 0⟩ : T_api_Item)) fun x95 =>
  bnd (F_tidegatelaw47_awake n) fun x96 =>
  cnd (x96)
    (cnd (decide (x95.2 = 0))
      (some (decide ((((List.map aI (x95.1)).length : Nat) : Int) = 0)))
    <| some false)
  <| some false) n 0) n (false, 0)
end Go.Proofs.Ytcbdhigllelmcaa
namespace Go.Proofs.Ytcbdhigllelmcaa
open Go.ChangeShapes Go.WideShapes Go.ChangeAt Go.RowKit Go.Joins Go.Deep

section
variable {H : Type} {enc : TypeId × Value → H} {W : World} {base : Nat} {v : Value} {d : DataW H} {p : List MemPlace}
set_option maxRecDepth 100000

theorem fo_Value : FO enc W 36 3 (fun m : T_api_Value => (e_api_Value m).cells) := fun n cs x hl h => by
  obtain ⟨xs, n', _, _, _, hlen, hf⟩ := DataW.trod_struct Try.underlying36 h
  match xs, hlen with
  | [y0, y1, y2], _ =>
    have c0 : Try.prog.cellsOf 3 = 1 := by kernel_rfl
    have g0 : DataW.trod enc Try.prog W 0 (fun _ => true) true n' 3 ((cs.drop 0).take (Try.prog.cellsOf 3)) = some y0 := hf 0 _ rfl
    rw [c0] at g0
    obtain ⟨m0, h0⟩ := (fo_int Try.underlying3) n' _ _ (cut_len (by omega)) g0
    have c1 : Try.prog.cellsOf 3 = 1 := by kernel_rfl
    have g1 : DataW.trod enc Try.prog W 0 (fun _ => true) true n' 3 ((cs.drop 1).take (Try.prog.cellsOf 3)) = some y1 := hf 1 _ rfl
    rw [c1] at g1
    obtain ⟨m1, h1⟩ := (fo_int Try.underlying3) n' _ _ (cut_len (by omega)) g1
    have c2 : Try.prog.cellsOf 9 = 1 := by kernel_rfl
    have g2 : DataW.trod enc Try.prog W 0 (fun _ => true) true n' 9 ((cs.drop 2).take (Try.prog.cellsOf 9)) = some y2 := hf 2 _ rfl
    rw [c2] at g2
    obtain ⟨m2, h2⟩ := (fo_str Try.underlying9) n' _ _ (cut_len (by omega)) g2
    have r := (show CellsL W _ (cs.drop 0) from (.cut h0 (.cut h1 (.cut h2 (CellsL.done (by omega))))))
    exact ⟨⟨m0, m1, m2⟩, r⟩
theorem fo_Event : FO enc W 24 5 (fun m : T_api_Event => (e_api_Event m).cells) := fun n cs x hl h => by
  obtain ⟨xs, n', _, _, _, hlen, hf⟩ := DataW.trod_struct Try.underlying24 h
  match xs, hlen with
  | [y0, y1, y2, y3, y4], _ =>
    have c0 : Try.prog.cellsOf 3 = 1 := by kernel_rfl
    have g0 : DataW.trod enc Try.prog W 0 (fun _ => true) true n' 3 ((cs.drop 0).take (Try.prog.cellsOf 3)) = some y0 := hf 0 _ rfl
    rw [c0] at g0
    obtain ⟨m0, h0⟩ := (fo_int Try.underlying3) n' _ _ (cut_len (by omega)) g0
    have c1 : Try.prog.cellsOf 3 = 1 := by kernel_rfl
    have g1 : DataW.trod enc Try.prog W 0 (fun _ => true) true n' 3 ((cs.drop 1).take (Try.prog.cellsOf 3)) = some y1 := hf 1 _ rfl
    rw [c1] at g1
    obtain ⟨m1, h1⟩ := (fo_int Try.underlying3) n' _ _ (cut_len (by omega)) g1
    have c2 : Try.prog.cellsOf 3 = 1 := by kernel_rfl
    have g2 : DataW.trod enc Try.prog W 0 (fun _ => true) true n' 3 ((cs.drop 2).take (Try.prog.cellsOf 3)) = some y2 := hf 2 _ rfl
    rw [c2] at g2
    obtain ⟨m2, h2⟩ := (fo_int Try.underlying3) n' _ _ (cut_len (by omega)) g2
    have c3 : Try.prog.cellsOf 3 = 1 := by kernel_rfl
    have g3 : DataW.trod enc Try.prog W 0 (fun _ => true) true n' 3 ((cs.drop 3).take (Try.prog.cellsOf 3)) = some y3 := hf 3 _ rfl
    rw [c3] at g3
    obtain ⟨m3, h3⟩ := (fo_int Try.underlying3) n' _ _ (cut_len (by omega)) g3
    have c4 : Try.prog.cellsOf 22 = 1 := by kernel_rfl
    have g4 : DataW.trod enc Try.prog W 0 (fun _ => true) true n' 22 ((cs.drop 4).take (Try.prog.cellsOf 22)) = some y4 := hf 4 _ rfl
    rw [c4] at g4
    obtain ⟨m4, h4⟩ := (fo_sl (sz := 3) (a := e_api_Value) Try.underlying22 (by kernel_rfl) (by omega) inferInstance (fun _ => rfl) (fo_Value)) n' _ _ (cut_len (by omega)) g4
    have r := (show CellsL W _ (cs.drop 0) from (.cut h0 (.cut h1 (.cut h2 (.cut h3 (.cut h4 (CellsL.done (by omega))))))))
    exact ⟨⟨m0, m1, m2, m3, m4⟩, r⟩
theorem Event_arg (hv : Value.okWide Try.prog W .any base 24 v) (h : DataW.Trod enc Try.prog W 0 (fun _ => true) true 24 v d p) : ∃ m : T_api_Event, Rep W (fun _ => True) G0 (e_api_Event m) v :=
  arg_struct Try.underlying24 (by kernel_rfl) (fun _ => ⟨_, rfl⟩) fo_Event hv h
theorem fo_tidegatelaw47_Routing : FO enc W 27 2 (fun m : T_tidegatelaw47_Routing => (e_tidegatelaw47_Routing m).cells) := fun n cs x hl h => by
  obtain ⟨xs, n', _, _, _, hlen, hf⟩ := DataW.trod_struct Try.underlying27 h
  match xs, hlen with
  | [y0, y1], _ =>
    have c0 : Try.prog.cellsOf 25 = 1 := by kernel_rfl
    have g0 : DataW.trod enc Try.prog W 0 (fun _ => true) true n' 25 ((cs.drop 0).take (Try.prog.cellsOf 25)) = some y0 := hf 0 _ rfl
    rw [c0] at g0
    obtain ⟨m0, h0⟩ := (fo_sl (sz := 1) (a := (fun l : List Int => AV.sl 1 (l.map aI))) Try.underlying25 (by kernel_rfl) (by omega) inferInstance (fun _ => rfl) (fo_sl (sz := 1) (a := aI) Try.underlying37 (by kernel_rfl) (by omega) inferInstance (fun _ => rfl) (fo_int Try.underlying3))) n' _ _ (cut_len (by omega)) g0
    have c1 : Try.prog.cellsOf 3 = 1 := by kernel_rfl
    have g1 : DataW.trod enc Try.prog W 0 (fun _ => true) true n' 3 ((cs.drop 1).take (Try.prog.cellsOf 3)) = some y1 := hf 1 _ rfl
    rw [c1] at g1
    obtain ⟨m1, h1⟩ := (fo_int Try.underlying3) n' _ _ (cut_len (by omega)) g1
    have r := (show CellsL W _ (cs.drop 0) from (.cut h0 (.cut h1 (CellsL.done (by omega)))))
    exact ⟨⟨m0, m1⟩, r⟩
theorem tidegatelaw47_Routing_arg (hv : Value.okWide Try.prog W .any base 27 v) (h : DataW.Trod enc Try.prog W 0 (fun _ => true) true 27 v d p) : ∃ m : T_tidegatelaw47_Routing, Rep W (fun _ => True) G0 (e_tidegatelaw47_Routing m) v :=
  arg_struct Try.underlying27 (by kernel_rfl) (fun _ => ⟨_, rfl⟩) fo_tidegatelaw47_Routing hv h
end
end Go.Proofs.Ytcbdhigllelmcaa
namespace Go.Proofs.Ytcbdhigllelmcaa
open Go.RowKit

section
variable {α β : Type}
theorem cnd_t (x y : Option β) : cnd true x y = x := by unfold cnd; rfl
theorem cnd_f (x y : Option β) : cnd false x y = y := by unfold cnd; rfl
theorem cnd_if (p : Prop) [Decidable p] (x y : Option β) : cnd (decide p) x y = if p then x else y := by
  by_cases h : p <;> simp [h, cnd_t, cnd_f]
theorem cnd_not (b : Bool) (x y : Option β) : cnd (!b) x y = cnd b y x := by cases b <;> simp [cnd_t, cnd_f]
theorem cnd_b (b : Bool) (x y : Option β) : cnd b x y = if b = true then x else y := by cases b <;> simp [cnd_t, cnd_f]
theorem bnd_some (a : α) (k : α → Option β) : bnd (some a) k = k a := by unfold bnd; rfl
theorem bndR_some (a : α) (k : α → Option β) : bndR (some a) k = k a := by unfold bndR; rfl
theorem bndC_some (a : α) (k : α → Option β) : bndC (some a) k = k a := by unfold bndC; rfl
theorem reg_eq (x : Option β) : reg x = x := by unfold reg; rfl
theorem frz_eq (i : Nat) (x : Option β) : frz i x = x := by unfold frz; rfl
theorem idx_nat {l : List α} {i : Nat} (h : i < l.length) (k : α → Option β) : idx l (i : Int) k = k l[i] := by
  unfold idx
  simp [h]
theorem idx_int {l : List α} {n : Int} (h0 : 0 ≤ n) (h : n.toNat < l.length) (k : α → Option β) : idx l n k = k l[n.toNat] := by
  unfold idx
  simp [h, h0]
theorem idx_zero {x : α} {l : List α} (k : α → Option β) : idx (x :: l) 0 k = k x := by unfold idx; simp
theorem nat_nat {i len : Nat} (h : i < len) (k : Nat → Option β) : nat (i : Int) len k = k i := by
  unfold nat
  simp [h]
theorem nat_int {n : Int} {len : Nat} (h0 : 0 ≤ n) (h : n.toNat < len) (k : Nat → Option β) : nat n len k = k n.toNat := by
  unfold nat
  simp [h, h0]
theorem ltx_ok {m len : Nat} (h : m < len) (x : Option β) : ltx m len x = x := by unfold ltx; simp [h]
theorem elt_ok {l : List α} {m : Nat} (h : m < l.length) (k : α → Option β) : elt l m k = k l[m] := by unfold elt; simp [h]
theorem stx_ok {l : List α} {m : Nat} (h : m < l.length) (f : α → α) (k : List α → Option β) : stx l m f k = k (l.set m (f l[m])) := by unfold stx; simp [h]
theorem app_ok {l m : List α} {bytes : Nat} (h : l.length + m.length ≤ 1000000000) (hb : bytes ≤ 100000) (k : List α → Option β) : app l m bytes k = k (l ++ m) := by
  unfold app
  have h2 := Nat.mul_le_mul h hb
  rw [if_pos ⟨by omega, by omega⟩]
theorem mak_ok {n : Nat} {bytes : Nat} (h : n ≤ 1000000000) (hb : bytes ≤ 100000) (z : α) (k : List α → Option β) : mak (n : Int) bytes z k = k (List.replicate n z) := by
  unfold mak
  have h2 := Nat.mul_le_mul hb h
  rw [if_pos ⟨by omega, by simp only [Int.toNat_natCast]; omega, by simp only [Int.toNat_natCast]; omega⟩]
  simp only [Int.toNat_natCast]
theorem sls_ok {l : List α} {a b : Nat} (h1 : a ≤ b) (h2 : b ≤ l.length) (k : List α → Option β) : sls l (a : Int) (b : Int) k = k ((l.take b).drop a) := by
  unfold sls
  rw [if_pos (by omega)]
  simp
theorem shx_ok {b : Int} (h : 0 ≤ b) (x : Option β) : shx b x = x := by unfold shx; simp [h]
theorem nzx_ok {b : Int} (h : b ≠ 0) (x : Option β) : nzx b x = x := by unfold nzx; simp [h]
theorem wrapS (k : Nat) (h : k ≤ 1000000000000) : IntKind.wrap .i64 ((k : Int) + 1) = ((k + 1 : Nat) : Int) := by rw [wrap_in _ (by omega)]; omega
end
end Go.Proofs.Ytcbdhigllelmcaa
namespace Go.Proofs.Ytcbdhigllelmcaa
open Go.RowKit

section
variable {α β : Type}
theorem idb_idx (s : ByteArray) (n : Int) (k : Int → Option β) : idb s n k = idx (bytesI s) n k := by
  unfold idb idx byteAt bytesI
  by_cases h : 0 ≤ n
  · rw [if_pos h, if_pos h, List.getElem?_map, Array.getElem?_toList]
    cases s.data[n.toNat]? <;> rfl
  · rw [if_neg h, if_neg h]
theorem bytesI_len (s : ByteArray) : (bytesI s).length = s.size := by simp only [bytesI, List.length_map, Array.length_toList]; rfl
theorem mlk_put {κ ν : Type} [DecidableEq κ] (l : List (κ × ν)) (k : κ) (v : ν) (k' : κ) : mlk (mput l k v) k' = if k' = k then some v else mlk l k' := by
  induction l with
  | nil => simp [mput, mlk]
  | cons x r ih =>
    obtain ⟨a, y⟩ := x
    simp only [mput]
    by_cases h : k = a
    · subst h
      rw [if_pos rfl]
      simp only [mlk]
      by_cases h2 : k' = k
      · rw [if_pos h2, if_pos h2]
      · rw [if_neg h2, if_neg h2, if_neg h2]
    · rw [if_neg h]
      simp only [mlk, ih]
      by_cases h2 : k' = a
      · subst h2
        rw [if_pos rfl, if_neg (fun e => h e.symm), if_pos rfl]
      · rw [if_neg h2, if_neg h2]
theorem mgt_k {κ ν : Type} [DecidableEq κ] (l : List (κ × ν)) (k : κ) (z : ν) (c : ν → Bool → Option β) : mgt l k z c = c ((mlk l k).getD z) (mlk l k).isSome := by unfold mgt; rfl
theorem mst_k {κ ν : Type} [DecidableEq κ] (l : List (κ × ν)) (k : κ) (v : ν) (c : List (κ × ν) → Option β) : mst l k v c = c (mput l k v) := by unfold mst; rfl
theorem if_nne {γ : Type} {x y : γ} [Decidable (x ≠ y)] {a b : α} (h : x = y) : (if x ≠ y then a else b) = b := if_neg (fun e => e h)
theorem dropK_cons {l : List α} {k : Nat} (h : k < l.length) : l.drop k = l[k] :: l.drop (k + 1) := List.drop_eq_getElem_cons h
theorem takeK {l : List α} {k : Nat} (h : k < l.length) : l.take (k + 1) = l.take k ++ [l[k]] := by rw [List.take_add_one, List.getElem?_eq_getElem h]; rfl
end

def letC (c : Int) : Bool := decide (c = 95 ∨ (97 ≤ c ∧ c ≤ 122) ∨ (65 ≤ c ∧ c ≤ 90))
def digC (c : Int) : Bool := decide (48 ≤ c ∧ c ≤ 57)
def alnC (c : Int) : Bool := letC c || digC c
def nameL : List Int → Bool
  | [] => false
  | c :: r => decide ((c :: r).length ≤ 24) && (letC c && (c :: r).all alnC)
def nameOk (s : ByteArray) : Bool := nameL (bytesI s)
theorem let_dig {c : Int} (h : letC c = true) : digC c = false := by
  unfold letC at h; unfold digC
  have := of_decide_eq_true h
  rw [decide_eq_false_iff_not]; omega
theorem p_letter (n : Nat) (c : Int) : F_schema_letter n c = some (letC c) := by
  unfold F_schema_letter letC
  simp only [cnd_if]
  (repeat' split) <;> (congr 1; first | (symm; rw [decide_eq_true_eq]; omega) | (symm; rw [decide_eq_false_iff_not]; omega) | (rw [decide_eq_decide]; omega))
theorem p_digit (n : Nat) (c : Int) : F_schema_digit n c = some (digC c) := by
  unfold F_schema_digit digC
  simp only [cnd_if]
  (repeat' split) <;> (congr 1; first | (symm; rw [decide_eq_true_eq]; omega) | (symm; rw [decide_eq_false_iff_not]; omega) | (rw [decide_eq_decide]; omega))
theorem p_name_l1 (n : Nat) (s : ByteArray) (hs : s.size ≤ 1000000) : ∀ (m k : Nat), k ≤ s.size → s.size < m + k → F_schema_name_l1 n s (some true) m (k : Int) = some (((bytesI s).drop k).all alnC)
  | 0, k, h1, h2 => by omega
  | m + 1, k, h1, h2 => by
    unfold F_schema_name_l1
    have hl := bytesI_len s
    simp only [cnd_if, idb_idx, p_letter, p_digit, bnd_some, cnd_not]
    by_cases h : k < s.size
    · have hk : k < (bytesI s).length := by omega
      rw [if_pos (by omega), idx_nat hk, idx_nat hk, dropK_cons hk, List.all_cons, wrapS k (by omega), p_name_l1 n s hs m (k + 1) (by omega) (by omega)]
      cases ha : letC (bytesI s)[k] <;> cases hb : digC (bytesI s)[k] <;> simp [cnd_t, cnd_f, alnC, ha, hb]
    · rw [if_neg (by omega), List.drop_eq_nil_of_le (by omega)]; rfl
theorem p_name (n : Nat) (s : ByteArray) (hn : 30 ≤ n) : F_schema_name n s = some (nameOk s) := by
  unfold F_schema_name nameOk
  have hl := bytesI_len s
  simp only [cnd_if, idb_idx, p_digit, bnd_some]
  cases hb : bytesI s with
  | nil => rw [hb] at hl; simp only [List.length_nil] at hl; rw [if_pos (by omega)]; rfl
  | cons c r =>
    rw [hb] at hl
    simp only [List.length_cons] at hl
    rw [if_neg (by omega)]
    by_cases h : 24 < s.size
    · rw [if_pos (by omega)]
      have : ¬ ((c :: r).length ≤ 24) := by simp only [List.length_cons]; omega
      rw [nameL, decide_eq_false this]; rfl
    · rw [if_neg (by omega), idx_zero]
      have h24 : (c :: r).length ≤ 24 := by simp only [List.length_cons]; omega
      have := p_name_l1 n s (by omega) n 0 (by omega) (by omega)
      simp only [Int.natCast_zero, List.drop_zero] at this
      rw [this, hb, nameL, decide_eq_true h24, List.all_cons, alnC]
      cases ha : letC c with
      | true => rw [let_dig ha]; simp [cnd_f]
      | false => cases hd : digC c <;> simp [cnd_t, cnd_f]
abbrev Fd := T_api_Field
abbrev Sch := T_api_Schema
def timeW : ByteArray := ByteArray.mk #[116, 105, 109, 101]
instance memBA (x : ByteArray) (l : List ByteArray) : Decidable (x ∈ l) := decidable_of_iff (l.any (fun y => decide (x = y)) = true) (by rw [List.any_eq_true]; exact ⟨fun ⟨y, h, e⟩ => (of_decide_eq_true e) ▸ h, fun h => ⟨x, h, decide_eq_true rfl⟩⟩)
def fldErr (prev : List ByteArray) (f : Fd) : Int :=
  if (nameOk f.fName && !decide (f.fName = timeW)) = false then 8 else if f.fName ∈ prev then 7 else if f.fKind < 0 ∨ 3 ≤ f.fKind then 1 else 0
theorem fldErr_8 {prev : List ByteArray} {f : Fd} (h : (nameOk f.fName && !decide (f.fName = timeW)) = false) : fldErr prev f = 8 := if_pos h
theorem fldErr_7 {prev : List ByteArray} {f : Fd} (h : (nameOk f.fName && !decide (f.fName = timeW)) = true) (h2 : f.fName ∈ prev) : fldErr prev f = 7 := by unfold fldErr; rw [if_neg (by rw [h]; decide), if_pos h2]
theorem fldErr_1 {prev : List ByteArray} {f : Fd} (h : (nameOk f.fName && !decide (f.fName = timeW)) = true) (h2 : f.fName ∉ prev) (h3 : f.fKind < 0 ∨ 3 ≤ f.fKind) : fldErr prev f = 1 := by unfold fldErr; rw [if_neg (by rw [h]; decide), if_neg h2, if_pos h3]
theorem fldErr_0 {prev : List ByteArray} {f : Fd} (h : (nameOk f.fName && !decide (f.fName = timeW)) = true) (h2 : f.fName ∉ prev) (h3 : ¬ (f.fKind < 0 ∨ 3 ≤ f.fKind)) : fldErr prev f = 0 := by unfold fldErr; rw [if_neg (by rw [h]; decide), if_neg h2, if_neg h3]
theorem ife_8 {x y : Int} (h : x = 8) : (if x = 0 then y else x) = 8 := by subst h; rfl
theorem ife_7 {x y : Int} (h : x = 7) : (if x = 0 then y else x) = 7 := by subst h; rfl
theorem ife_1 {x y : Int} (h : x = 1) : (if x = 0 then y else x) = 1 := by subst h; rfl
theorem ife_0 {x y : Int} (h : x = 0) : (if x = 0 then y else x) = y := if_pos h
def fldsErr : List ByteArray → List Fd → Int
  | _, [] => 0
  | prev, f :: r => if fldErr prev f = 0 then fldsErr (prev ++ [f.fName]) r else fldErr prev f
def schErr (s : Sch) : Int := if nameOk s.fName = false then 8 else if 8 < s.fFields.length then 5 else fldsErr [] s.fFields
def allsErr : List ByteArray → List Sch → Int
  | _, [] => 0
  | prev, s :: r => if schErr s ≠ 0 then schErr s else if s.fName ∈ prev then 7 else allsErr (prev ++ [s.fName]) r
def allErr (l : List Sch) : Int := if 16 < l.length then 5 else allsErr [] l
def Seen (m : List (ByteArray × Bool)) (p : List ByteArray) : Prop := ∀ x, mlk m x = if x ∈ p then some true else none
theorem Seen.nil : Seen [] [] := fun x => by simp [mlk]
theorem Seen.put {m : List (ByteArray × Bool)} {p : List ByteArray} (h : Seen m p) (a : ByteArray) : Seen (mput m a true) (p ++ [a]) := fun x => by
  rw [mlk_put, h x]
  by_cases h1 : x = a
  · simp [h1]
  · simp [h1]
theorem Seen.get {m : List (ByteArray × Bool)} {p : List ByteArray} (h : Seen m p) (a : ByteArray) : (mlk m a).getD false = decide (a ∈ p) := by
  rw [h a]
  by_cases h1 : a ∈ p <;> simp [h1]
theorem p_fname (n : Nat) (s : ByteArray) (hn : 30 ≤ n) : F_schema_fieldName n s = some (nameOk s && !decide (s = timeW)) := by
  unfold F_schema_fieldName
  rw [p_name n s hn, bnd_some, bytes_dec]
  cases nameOk s <;> simp only [cnd_t, cnd_f, Bool.false_and, Bool.true_and] <;> rfl
theorem p_sch_l1 (n : Nat) (s : Sch) (hl : s.fFields.length ≤ 1000000) (hn : 30 ≤ n) : ∀ (m k : Nat) (mp : List (ByteArray × Bool)), k ≤ s.fFields.length → s.fFields.length < m + k → Seen mp ((s.fFields.take k).map (·.fName)) →
    F_schema_Check_l1 n s (some 0) m ((k : Int), mp) = some (fldsErr ((s.fFields.take k).map (·.fName)) (s.fFields.drop k))
  | 0, k, mp, h1, h2, hs => by omega
  | m + 1, k, mp, h1, h2, hs => by
    unfold F_schema_Check_l1
    simp only [List.length_map, cnd_if, cnd_not, p_fname n _ hn, bnd_some, mgt_k, mst_k]
    by_cases h : k < s.fFields.length
    · rw [if_pos (by omega), idx_nat h, dropK_cons h, fldsErr, hs.get, wrapS k (by omega)]
      have hs' : Seen (mput mp s.fFields[k].fName true) ((s.fFields.take (k + 1)).map (·.fName)) := by rw [takeK h, List.map_append]; exact hs.put _
      have ih := p_sch_l1 n s hl hn m (k + 1) _ (by omega) (by omega) hs'
      rw [ih, takeK h, List.map_append]
      simp only [List.map_cons, List.map_nil]
      cases h3 : (nameOk s.fFields[k].fName && !decide (s.fFields[k].fName = timeW)) with
      | false => rw [cnd_f, ife_8 (fldErr_8 h3)]
      | true =>
        rw [cnd_t]
        by_cases h4 : s.fFields[k].fName ∈ (s.fFields.take k).map (·.fName)
        · rw [decide_eq_true h4, cnd_t, ife_7 (fldErr_7 h3 h4)]
        · rw [decide_eq_false h4, cnd_f]
          by_cases h5 : s.fFields[k].fKind < 0
          · rw [if_pos h5, ife_1 (fldErr_1 h3 h4 (Or.inl h5))]
          · rw [if_neg h5]
            by_cases h6 : 3 ≤ s.fFields[k].fKind
            · rw [if_pos h6, ife_1 (fldErr_1 h3 h4 (Or.inr h6))]
            · rw [if_neg h6, ife_0 (fldErr_0 h3 h4 (by omega))]
    · rw [if_neg (by omega), List.drop_eq_nil_of_le (by omega)]; rfl
theorem p_sch (n : Nat) (s : Sch) (hn : 30 ≤ n) : F_schema_Check n s = some (schErr s) := by
  unfold F_schema_Check schErr
  simp only [List.length_map, cnd_if, cnd_not, p_name n _ hn, bnd_some]
  cases h : nameOk s.fName with
  | false => simp [cnd_f]
  | true =>
    rw [cnd_t, if_neg (show ¬ (true = false) by decide)]
    by_cases h8 : 8 < s.fFields.length
    · rw [if_pos (by omega), if_pos h8]
    · rw [if_neg (by omega), if_neg h8]
      have := p_sch_l1 n s (by omega) hn n 0 [] (by omega) (by omega) .nil
      simpa using this
theorem p_all_l1 (n : Nat) (l : List Sch) (hl : l.length ≤ 1000000) (hn : 30 ≤ n) : ∀ (m k : Nat) (mp : List (ByteArray × Bool)), k ≤ l.length → l.length < m + k → Seen mp ((l.take k).map (·.fName)) →
    F_schema_CheckAll_l1 n l (some 0) m ((k : Int), mp) = some (allsErr ((l.take k).map (·.fName)) (l.drop k))
  | 0, k, mp, h1, h2, hs => by omega
  | m + 1, k, mp, h1, h2, hs => by
    unfold F_schema_CheckAll_l1
    simp only [List.length_map, cnd_if, cnd_not, p_sch n _ hn, bnd_some, mgt_k, mst_k]
    by_cases h : k < l.length
    · rw [if_pos (by omega), idx_nat h, dropK_cons h, allsErr, hs.get, wrapS k (by omega)]
      have hs' : Seen (mput mp l[k].fName true) ((l.take (k + 1)).map (·.fName)) := by rw [takeK h, List.map_append]; exact hs.put _
      have ih := p_all_l1 n l hl hn m (k + 1) _ (by omega) (by omega) hs'
      rw [ih, takeK h, List.map_append]
      simp only [List.map_cons, List.map_nil]
      by_cases h3 : schErr l[k] = 0
      · rw [if_pos h3, if_neg (show ¬ (schErr l[k] ≠ 0) from fun e => e h3)]
        by_cases h4 : l[k].fName ∈ (l.take k).map (·.fName)
        · rw [decide_eq_true h4, cnd_t, if_pos h4]
        · rw [decide_eq_false h4, cnd_f, if_neg h4]
      · rw [if_neg h3, if_pos h3]
    · rw [if_neg (by omega), List.drop_eq_nil_of_le (by omega)]; rfl
theorem p_all (n : Nat) (l : List Sch) (hn : 30 ≤ n) : F_schema_CheckAll n l = some (allErr l) := by
  unfold F_schema_CheckAll allErr
  simp only [List.length_map, cnd_if]
  by_cases h8 : 16 < l.length
  · rw [if_pos (by omega), if_pos h8]
  · rw [if_neg (by omega), if_neg h8]
    have := p_all_l1 n l (by omega) hn n 0 [] (by omega) (by omega) .nil
    simpa using this
end Go.Proofs.Ytcbdhigllelmcaa
namespace Go.Proofs.Ytcbdhigllelmcaa
open Go.RowKit

abbrev Vl := T_api_Value
def valErr (v : Vl) : Int :=
  if v.fKind = 2 then (if v.fNum ≠ 0 then 3 else if 64 < v.fText.size then 13 else 0)
  else if v.fKind = 0 ∨ v.fKind = 1 then
    (if v.fText ≠ ByteArray.empty then 3 else if v.fKind = 1 ∧ v.fNum ≠ 0 ∧ v.fNum ≠ 1 then 2 else if v.fKind = 0 ∧ (v.fNum < -1099511627776 ∨ 1099511627776 < v.fNum) then 2 else 0)
  else 1
theorem size_empty : ByteArray.empty.size = 0 := rfl
theorem p_val (n : Nat) (v : Vl) : F_value_Check n v = some (valErr v) := by
  obtain ⟨kd, nm, tx⟩ := v
  unfold F_value_Check F_value_size valErr
  simp only [cnd_if, cnd_not, bytes_dec]
  by_cases h0 : kd = 0
  · subst h0
    by_cases ht : tx = ByteArray.empty
    · subst ht
      simp only [if_true, cnd_if]
      by_cases h1 : nm < -1099511627776
      · simp [h1, bnd_some]
      · by_cases h2 : 1099511627776 < nm
        · simp [h1, h2, bnd_some]
        · simp [h1, h2, bnd_some, size_empty]
    · simp [ht, cnd_f, cnd_if]
  · by_cases h1 : kd = 1
    · subst h1
      by_cases ht : tx = ByteArray.empty
      · subst ht
        by_cases h2 : nm = 0
        · subst h2; simp [bnd_some, size_empty, cnd_t, cnd_f, cnd_if]
        · by_cases h3 : nm = 1
          · subst h3; simp [bnd_some, size_empty, cnd_t, cnd_f, cnd_if]
          · simp [bnd_some, size_empty, h2, h3, cnd_t, cnd_f, cnd_if]
      · simp [ht, cnd_f, cnd_t, cnd_if]
    · by_cases h2 : kd = 2
      · subst h2
        by_cases h3 : nm = 0
        · subst h3
          by_cases h4 : 64 < tx.size
          · have : (64 : Int) < (tx.size : Int) := by omega
            simp [bnd_some, cnd_t, cnd_f, cnd_if, h4, this]
          · have : ¬ (64 : Int) < (tx.size : Int) := by omega
            simp [bnd_some, cnd_t, cnd_f, cnd_if, h4, this]
        · simp [bnd_some, cnd_t, cnd_f, cnd_if, h3]
      · simp [h0, h1, h2]
abbrev Ev47 := T_api_Event
def numErr (e : Ev47) : Int := if e.fSource < 0 ∨ 8 ≤ e.fSource then 32 else if e.fSeq < 0 ∨ 1099511627776 < e.fSeq ∨ e.fTime < 0 ∨ 1099511627776 < e.fTime then 2 else 0
def valsErr : List Vl → List Fd → Int
  | v :: r, f :: s => if valErr v ≠ 0 then valErr v else if v.fKind ≠ f.fKind then 9 else valsErr r s
  | _, _ => 0
def evErr (l : List Sch) (e : Ev47) : Int :=
  if numErr e ≠ 0 then numErr e else if e.fType < 0 ∨ (l.length : Int) ≤ e.fType then 6 else
    if e.fValues.length ≠ (l.getD e.fType.toNat default).fFields.length then 15 else valsErr e.fValues (l.getD e.fType.toNat default).fFields
theorem p_numbers (n : Nat) (e : Ev47) : F_event_numbers n e = some (numErr e) := by
  unfold F_event_numbers numErr
  simp only [cnd_if]
  (repeat' split) <;> first | rfl | (exfalso; omega)
theorem p_evV_l1 (n : Nat) (e : Ev47) (s : Sch) (hl : e.fValues.length = s.fFields.length) (hs : e.fValues.length ≤ 1000000) : ∀ (m k : Nat), k ≤ e.fValues.length → e.fValues.length < m + k → F_event_valid_l1 n e s (some 0) m (k : Int) = some (valsErr (e.fValues.drop k) (s.fFields.drop k))
  | 0, k, h1, h2 => by omega
  | m + 1, k, h1, h2 => by
    unfold F_event_valid_l1
    simp only [List.length_map, cnd_if, cnd_not, p_val, bnd_some]
    by_cases h : k < e.fValues.length
    · have h' : k < s.fFields.length := by omega
      rw [if_pos (by omega), idx_nat h, idx_nat h', dropK_cons h, dropK_cons h', valsErr, wrapS k (by omega), p_evV_l1 n e s hl hs m (k + 1) (by omega) (by omega)]
      by_cases h3 : valErr e.fValues[k] = 0
      · rw [if_pos h3, if_nne h3]
        by_cases h4 : e.fValues[k].fKind = s.fFields[k].fKind
        · rw [if_pos h4, if_nne h4]
        · rw [if_neg h4, if_pos h4]
      · rw [if_neg h3, if_pos h3]
    · rw [if_neg (by omega), List.drop_eq_nil_of_le (by omega)]; rfl
theorem getD_toNat {l : List Sch} {t : Int} (h0 : 0 ≤ t) (h1 : t < (l.length : Int)) : l.getD t.toNat default = l[t.toNat]'(by omega) := by
  rw [List.getD_eq_getElem?_getD, List.getElem?_eq_getElem (by omega)]; rfl
theorem p_evV (n : Nat) (l : List Sch) (e : Ev47) (hs : e.fValues.length ≤ 1000000) (hn : e.fValues.length < n) : F_event_valid n l e = some (evErr l e) := by
  unfold F_event_valid evErr
  simp only [List.length_map, cnd_if, cnd_not, p_numbers, bnd_some]
  by_cases h0 : numErr e = 0
  · rw [if_pos h0, if_nne h0]
    by_cases h1 : e.fType < 0
    · rw [if_pos h1, if_pos (Or.inl h1)]
    · rw [if_neg h1]
      by_cases h2 : (l.length : Int) ≤ e.fType
      · rw [if_pos h2, if_pos (Or.inr h2)]
      · rw [if_neg h2, if_neg (by omega), idx_int (by omega) (by omega), getD_toNat (by omega) (by omega)]
        by_cases h3 : e.fValues.length = (l[e.fType.toNat]'(by omega)).fFields.length
        · rw [if_pos (by omega), if_nne h3]
          have := p_evV_l1 n e _ h3 hs n 0 (by omega) (by omega)
          simpa using this
        · rw [if_neg (by omega), if_pos h3]
  · rw [if_neg h0, if_pos h0]
theorem p_evCheck (n : Nat) (l : List Sch) (e : Ev47) (hs : e.fValues.length ≤ 1000000) (hn : e.fValues.length < n) (hn2 : 30 ≤ n) (ha : allErr l = 0) : F_event_Check n l e = some (evErr l e) := by
  unfold F_event_Check
  rw [p_all n l hn2, bnd_some, ha]
  simp only [p_evV n l e hs hn, bnd_some, cnd_not, decide_true, cnd_t]
theorem evErr_zero {l : List Sch} {e : Ev47} (h : evErr l e = 0) : numErr e = 0 ∧ 0 ≤ e.fType ∧ ∃ ht : e.fType.toNat < l.length, e.fValues.length = l[e.fType.toNat].fFields.length ∧ valsErr e.fValues l[e.fType.toNat].fFields = 0 := by
  unfold evErr at h
  by_cases h0 : numErr e = 0
  · rw [if_nne h0] at h
    by_cases h1 : e.fType < 0 ∨ (l.length : Int) ≤ e.fType
    · rw [if_pos h1] at h; exact absurd h (by decide)
    · rw [if_neg h1, getD_toNat (by omega) (by omega)] at h
      have ht : e.fType.toNat < l.length := by omega
      by_cases h2 : e.fValues.length = l[e.fType.toNat].fFields.length
      · rw [if_nne h2] at h
        exact ⟨h0, by omega, ht, h2, h⟩
      · rw [if_pos h2] at h; exact absurd h (by decide)
  · rw [if_pos h0] at h; exact absurd h h0
theorem valsErr_at : ∀ {vs : List Vl} {fs : List Fd}, vs.length = fs.length → valsErr vs fs = 0 → ∀ v ∈ vs, valErr v = 0
  | [], [], _, _ => fun v hv => by simp at hv
  | x :: r, f :: s, hl, h => fun v hv => by
    rw [valsErr] at h
    by_cases h1 : valErr x = 0
    · rw [if_nne h1] at h
      by_cases h2 : x.fKind = f.fKind
      · rw [if_nne h2] at h
        rcases List.mem_cons.1 hv with rfl | hv
        · exact h1
        · exact valsErr_at (by simpa using hl) h v hv
      · rw [if_pos h2] at h; exact absurd h (by decide)
    · rw [if_pos h1] at h; exact absurd h h1
  | [], _ :: _, hl, _ => by simp at hl
  | _ :: _, [], hl, _ => by simp at hl
end Go.Proofs.Ytcbdhigllelmcaa
