/- Arguments opened: values, events, references to events, ints. -/
import Derived.Test.YtdbapaofibgfcaaRowG
import Derived.Test.YtdbapaofibgfcaaA05F
set_option linter.unusedVariables false
set_option linter.unusedSimpArgs false
namespace Go.Proofs.Ytdbapaofibgfcaa
open Go.ChangeShapes Go.WideShapes Go.ChangeAt Go.RowKit Go.Joins Go.Deep

section
variable {H : Type} {enc : TypeId × Value → H} {W : World} {base : Nat} {v : Value} {d : DataW H} {p : List MemPlace}
set_option maxRecDepth 100000
theorem value_each (n : Nat) (cs : List Value) (x : DataW H × List MemPlace) (hl : cs.length = 3) (h : DataW.trod enc Try.prog W 0 (fun _ => true) true n 77 cs = some x) : ∃ m : T_api_Value, CellsOf W e_api_Value m cs := by
  obtain ⟨c0, c1, c2, rfl⟩ := list3 hl
  obtain ⟨y0, y1, y2, n', _, _, h0, h1, h2⟩ := trod_struct3 Try.underlying77 h
  have e : Try.prog.cellsOf 3 = 1 := by kernel_rfl
  have e' : Try.prog.cellsOf 9 = 1 := by kernel_rfl
  simp only [e, e', List.drop_zero, List.take_succ_cons, List.take_zero, List.drop_succ_cons] at h0 h1 h2
  obtain ⟨z0, rfl⟩ := icell_open h0
  obtain ⟨z1, rfl⟩ := icell_open h1
  obtain ⟨s, e2, _⟩ := DataW.trod_string Try.underlying9 h2
  simp only [List.cons.injEq, and_true] at e2
  subst e2
  refine ⟨⟨z0, z1, s⟩, rfl, fun j hj => ?_⟩
  have hj' : j < 3 := hj
  rcases j with _ | _ | _ | j
  · exact ⟨.int _ _, rfl⟩
  · exact ⟨.int _ _, rfl⟩
  · exact ⟨.str _, rfl⟩
  · omega
theorem list5 {l : List Value} (h : l.length = 5) : ∃ a b c d e, l = [a, b, c, d, e] := by
  match l, h with
  | [a, b, c, d, e], _ => exact ⟨a, b, c, d, e, rfl⟩
theorem event_each (n : Nat) (cs : List Value) (x : DataW H × List MemPlace) (hl : cs.length = 5) (h : DataW.trod enc Try.prog W 0 (fun _ => true) true n 51 cs = some x) : ∃ m : T_api_Event, CellsOf W e_api_Event m cs := by
  obtain ⟨c0, c1, c2, c3, c4, rfl⟩ := list5 hl
  obtain ⟨u0, u1, u2, u3, u4, n'', _, g0, g1, g2, g3, g4⟩ := trod_struct5 Try.underlying51 h
  have e : Try.prog.cellsOf 3 = 1 := by kernel_rfl
  have e'' : Try.prog.cellsOf 49 = 1 := by kernel_rfl
  simp only [e, e'', List.drop_zero, List.take_succ_cons, List.take_zero, List.drop_succ_cons] at g0 g1 g2 g3 g4
  obtain ⟨z1, rfl⟩ := icell_open g0
  obtain ⟨z2, rfl⟩ := icell_open g1
  obtain ⟨z3, rfl⟩ := icell_open g2
  obtain ⟨z4, rfl⟩ := icell_open g3
  obtain ⟨vs, hv⟩ := sl_open (a := e_api_Value) (sz := 3) Try.underlying49 (by kernel_rfl) (by omega) inferInstance (fun _ => rfl) value_each g4
  refine ⟨⟨z1, z2, z3, z4, vs⟩, rfl, fun j hj => ?_⟩
  have hj' : j < 5 := hj
  rcases j with _ | _ | _ | _ | _ | j
  · exact ⟨.int _ _, rfl⟩
  · exact ⟨.int _ _, rfl⟩
  · exact ⟨.int _ _, rfl⟩
  · exact ⟨.int _ _, rfl⟩
  · exact ⟨hv, hv.one_sl⟩
  · omega
theorem ref_each (n : Nat) (cs : List Value) (x : DataW H × List MemPlace) (hl : cs.length = 3) (h : DataW.trod enc Try.prog W 0 (fun _ => true) true n 34 cs = some x) : ∃ m : T_api_Ref, CellsOf W e_api_Ref m cs := by
  obtain ⟨c0, c1, c2, rfl⟩ := list3 hl
  obtain ⟨y0, y1, y2, n', _, _, h0, h1, h2⟩ := trod_struct3 Try.underlying34 h
  have e : Try.prog.cellsOf 3 = 1 := by kernel_rfl
  simp only [e, List.drop_zero, List.take_succ_cons, List.take_zero, List.drop_succ_cons] at h0 h1 h2
  obtain ⟨z0, rfl⟩ := icell_open h0
  obtain ⟨z1, rfl⟩ := icell_open h1
  obtain ⟨z2, rfl⟩ := icell_open h2
  refine ⟨⟨z0, z1, z2⟩, rfl, fun j hj => ?_⟩
  have hj' : j < 3 := hj
  rcases j with _ | _ | _ | j
  · exact ⟨.int _ _, rfl⟩
  · exact ⟨.int _ _, rfl⟩
  · exact ⟨.int _ _, rfl⟩
  · omega
theorem evs_open (hv : Value.okWide Try.prog W .any base 22 v) (h : DataW.Trod enc Try.prog W 0 (fun _ => true) true 22 v d p) : ∃ l : List T_api_Event, Rep W (fun _ => True) G0 (.sl 5 (l.map e_api_Event)) v :=
  slArg_open Try.underlying22 (by kernel_rfl) (by omega) inferInstance (fun _ => rfl) event_each hv h
theorem ints_open (hv : Value.okWide Try.prog W .any base 66 v) (h : DataW.Trod enc Try.prog W 0 (fun _ => true) true 66 v d p) : ∃ l : List Int, Rep W (fun _ => True) G0 (.sl 1 (l.map aI)) v :=
  slArg_open Try.underlying66 (by kernel_rfl) (by omega) inferInstance (fun _ => rfl) int_each hv h
theorem ev_open (hv : Value.okWide Try.prog W .any base 51 v) (h : DataW.Trod enc Try.prog W 0 (fun _ => true) true 51 v d p) : ∃ m : T_api_Event, Rep W (fun _ => True) G0 (e_api_Event m) v := by
  obtain ⟨cs, rfl, hsz⟩ := okWide_struct Try.underlying51 hv
  obtain ⟨fuel, hf⟩ := h
  have e5 : Try.prog.cellsOf 51 = 5 := by kernel_rfl
  obtain ⟨m, hm⟩ := event_each fuel cs.toList _ (by simpa using hsz.trans e5) hf
  exact ⟨m, agg_of rfl hm⟩
theorem ref_open (hv : Value.okWide Try.prog W .any base 34 v) (h : DataW.Trod enc Try.prog W 0 (fun _ => true) true 34 v d p) : ∃ m : T_api_Ref, Rep W (fun _ => True) G0 (e_api_Ref m) v := by
  obtain ⟨cs, rfl, hsz⟩ := okWide_struct Try.underlying34 hv
  obtain ⟨fuel, hf⟩ := h
  have e3 : Try.prog.cellsOf 34 = 3 := by kernel_rfl
  obtain ⟨m, hm⟩ := ref_each fuel cs.toList _ (by simpa using hsz.trans e3) hf
  exact ⟨m, agg_of rfl hm⟩
end
end Go.Proofs.Ytdbapaofibgfcaa
