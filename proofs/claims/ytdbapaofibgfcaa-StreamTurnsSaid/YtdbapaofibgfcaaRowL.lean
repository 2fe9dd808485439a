/- From a contract of the abstract walk to a law's row: whatever the arguments, it returns true, and they read as they did. -/
import Derived.Test.YtdbapaofibgfcaaRows
import Derived.Test.YtdbapaofibgfcaaAm0
import Derived.ProofKit
import Derived.Lib.SmallJoins
import Derived.Deep.Slices
import Derived.Carry
import Derived.Below
set_option linter.unusedVariables false
set_option linter.unusedSimpArgs false
namespace Go.Proofs.Ytdbapaofibgfcaa
open Go.ChangeShapes Go.WideShapes Go.ChangeAt Go.RowKit

theorem args_two {w : World} {S : Nat → Prop} {a b : AV} {x y : Value} (ha : Rep w S G0 a x) (hb : Rep w S G0 b y) : Args w S [a, b] #[x, y] :=
  ⟨rfl, fun i hi => by
    have hi' : i < 2 := hi
    rcases i with _ | _ | i
    · exact ha
    · exact hb
    · omega⟩

theorem args_three {w : World} {S : Nat → Prop} {a b c : AV} {x y z : Value} (ha : Rep w S G0 a x) (hb : Rep w S G0 b y) (hc : Rep w S G0 c z) : Args w S [a, b, c] #[x, y, z] :=
  ⟨rfl, fun i hi => by
    have hi' : i < 3 := hi
    rcases i with _ | _ | _ | i
    · exact ha
    · exact hb
    · exact hc
    · omega⟩
theorem args_one {w : World} {S : Nat → Prop} {a : AV} {x : Value} (ha : Rep w S G0 a x) : Args w S [a] #[x] :=
  ⟨rfl, fun i hi => by
    have hi' : i < 1 := hi
    rcases i with _ | i
    · exact ha
    · omega⟩

theorem own_knob : ownKnob Try.prog.godebug = none := by kernel_rfl
theorem laid_out : laidOutB Try.prog = true := by kernel_rfl

section
variable {H : Type} {enc : TypeId × Value → H}
theorem trodAll_stays {W W' : World} {sp' : Nat → Bool} (hb : Below W.heap.size W W') (ts : List TypeId) : ∀ (vs : List Value) (ds : List (DataW H)) (p : List MemPlace), ts.all (fun t => Try.prog.readableRec t && decide (t < Try.prog.types.size)) = true →
    DataW.TrodAll enc Try.prog W 0 (fun _ => true) true ts vs ds p → (∀ x ∈ p, x.block < W.heap.size) → (∀ x ∈ p, sp' x.block = true) → DataW.TrodAll enc Try.prog W' 0 sp' true ts vs ds p := by
  induction ts with
  | nil =>
    intro vs ds p _ h _ _
    match vs, ds, h with
    | [], [], h => exact h
    | _ :: _, _, h => exact h.elim
    | [], _ :: _, h => exact h.elim
  | cons t ts ih =>
    intro vs ds p hr h hlt hs
    match vs, ds, h with
    | v :: vs, d :: ds, h =>
      obtain ⟨q, r, h1, h2, rfl⟩ := h
      have hr1 : Try.prog.readableRec t = true ∧ t < Try.prog.types.size := by
        have := List.all_eq_true.mp hr t (List.mem_cons_self ..)
        rw [Bool.and_eq_true, decide_eq_true_eq] at this; exact this
      have hr2 : ts.all (fun t => Try.prog.readableRec t && decide (t < Try.prog.types.size)) = true :=
        List.all_eq_true.mpr fun x hx => List.all_eq_true.mp hr x (List.mem_cons_of_mem _ hx)
      exact ⟨q, r, WideElems.Trod_stays laid_out hr1.1 hr1.2 h1 (fun x hx => hb.same (hlt x (List.mem_append_left _ hx))) (fun x hx => hs x (List.mem_append_left _ hx)),
        ih vs ds r hr2 h2 (fun x hx => hlt x (List.mem_append_right _ hx)) (fun x hx => hs x (List.mem_append_right _ hx)), rfl⟩
    | [], _, h => exact h.elim
    | _ :: _, [], h => exact h.elim

theorem trodAll_len {W : World} {b : Nat} {sp : Nat → Bool} (ts : List TypeId) : ∀ (vs : List Value) (ds : List (DataW H)) (p : List MemPlace), DataW.TrodAll enc Try.prog W b sp true ts vs ds p → ds.length = ts.length := by
  induction ts with
  | nil =>
    intro vs ds p h
    match vs, ds, h with
    | [], [], h => rfl
    | _ :: _, _, h => exact h.elim
    | [], _ :: _, h => exact h.elim
  | cons t ts ih =>
    intro vs ds p h
    match vs, ds, h with
    | v :: vs, d :: ds, h =>
      obtain ⟨q, r, h1, h2, rfl⟩ := h
      simp only [List.length_cons]
      rw [ih vs ds r h2]
    | [], _, h => exact h.elim
    | _ :: _, [], h => exact h.elim

set_option maxRecDepth 100000 in
theorem law_lifted (os : Os) (started : os.Started) {f : FuncId} {fn : Func} {s : ChangeSpec} {fr : Bool} (hf : Try.prog.funcs[f]? = some fn) (hni : Try.prog.inits.idxOf? f = none)
    (hw : ∃ (w : World) (tape : Tape) (i : Input), w.os = os ∧ (w.forCall tape i).Shaped Try.checked.prog ∧ i.vars = [] ∧ Input.okWide Try.checked.prog (w.forCall tape i) .any w.heap.size f i ∧
      s.pre6 enc Try.checked.prog fn [] false (w.forCall tape i).memory i.args ∧ Assume.holds {} Try.checked.prog (lone (Frame.enter Try.checked.prog f i.args .normal) [] (w.forCall tape i)))
    (hvars : s.vars = []) (hres : fn.resultTypes = #[4]) (hread : fn.params.toList.all (fun t => Try.prog.readableRec t && decide (t < Try.prog.types.size)) = true)
    (hspec : ∀ ds : List (DataW H), ds.length = fn.params.size → s.fn H ds = { results := [.lit (.bool true)], args := ds })
    (hopen : ∀ (W : World) (base : Nat) (args : Array Value) (ds : List (DataW H)) (p : List MemPlace), (∀ (j : Nat) t v, fn.params[j]? = some t → args[j]? = some v → Value.okWide Try.prog W .any base t v) →
      DataW.TrodAll enc Try.prog W 0 (fun _ => true) true fn.params.toList args.toList ds p → ∃ avs, Args W (fun _ => True) avs args ∧ Con E0 fr f avs (.bool true)) :
    ReturnsInHanded {} Try.checked os f .any (s.pre6 enc Try.prog fn [] false) (s.post enc Try.prog fn false true false false) := by
  refine returnsInHanded_of_change (C := Try.checked) own_knob started hni hf hw ?_
  intro W base args ds gs before hval hW hcnd _
  have hW' := hW
  obtain ⟨p, q, hA, hV, rfl, hfz, hnd⟩ := hW
  have hlt : ∀ x ∈ p ++ q, x.block < W.heap.size := fun x hx => DataW.Whole.lt hW' x hx
  rw [hvars] at hV
  obtain ⟨rfl, rfl⟩ := trodVars_none hV
  obtain ⟨avs, hargs, hcon⟩ := hopen W base args ds p hval hA
  refine (hcon.2 (fun _ => True) W args hargs).mono fun e W' ⟨v, he, ⟨hb, _⟩, hv⟩ => ?_
  have hv := hv.bool_inv
  subst hv
  subst he
  have hdl : ds.length = fn.params.size := (trodAll_len _ _ _ _ hA).trans (by simp)
  have hsp : s.fn H (ds ++ []) = { results := [.lit (.bool true)], args := ds } := by rw [List.append_nil]; exact hspec ds hdl
  have hltp : ∀ x ∈ p, x.block < W.heap.size := fun x hx => hlt x (by simp [hx])
  have k0 := trodAll_stays (sp' := fun b => decide (b < W.heap.size)) hb _ _ _ _ hread hA hltp (fun x hx => by simpa using hltp x hx)
  have k1 := trodAll_stays (sp' := fun _ => true) hb _ _ _ _ hread hA hltp (fun x hx => rfl)
  have hrl : (Value.bool true).resultList fn.resultTypes.size = [.bool true] := by rw [hres]; rfl
  have hrt : fn.resultTypes.toList = [4] := by rw [hres]
  refine ⟨_, rfl, ds, [], _, [], p, [], hW', ?_, ?_, ?_, World.keptBut_mono (fun x hx => ⟨hx, ?_⟩) (hb.frame (· ∈ p ++ [])), fun h => ?_⟩
  · rw [hsp, hrt, hrl]; exact trodAll_mk1 (shut_bool Try.underlying4 true)
  · rw [hsp]; exact k0
  · rw [hsp, hvars]; exact rfl
  · exact Or.inr (Or.inl (by simpa using hx))
  · rw [hrt, hrl, hvars]
    refine ⟨?_, [.lit (.bool true)] ++ ds, [], p, ⟨p, [], ?_, rfl, by simp, ?_, fun h => by simp at h⟩, ?_⟩
    · rw [hres]; intro j t r ht hr
      match j with
      | 0 =>
        obtain rfl : 4 = t := Option.some.inj ht
        obtain rfl : Value.bool true = r := Option.some.inj hr
        exact okWide_bool_mk Try.underlying4 true
      | j + 1 => exact absurd hr (by simp)
    · exact trodAll_append k1 (trodAll_mk1 (shut_bool Try.underlying4 true))
    · intro b off hp
      have hin : MemPlace.cell b off ∈ p ++ [] := by simpa using hp
      rw [hb.frozen (hlt _ hin)]
      exact hfz b off hin
    · intro x hx _
      simpa using hx
end
end Go.Proofs.Ytdbapaofibgfcaa
