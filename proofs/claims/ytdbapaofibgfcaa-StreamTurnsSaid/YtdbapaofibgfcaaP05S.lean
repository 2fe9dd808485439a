/- Layer 5: the comparisons, plainly; sorting by them. -/
import Derived.Test.YtdbapaofibgfcaaA05A
import Derived.Test.YtdbapaofibgfcaaG1
set_option linter.unusedVariables false
set_option linter.unusedSimpArgs false
namespace Go.Proofs.Ytdbapaofibgfcaa
open Go.RowKit

theorem Con.lo {fr : Bool} {f : FuncId} {avs : List AV} {res : AV} (h : Con E0d fr f avs res) : Con E0 fr f avs res :=
  ⟨h.1, fun S w vs ha => (h.2 S w vs ha).mono fun e w' ⟨v, h1, h2, h3⟩ => ⟨v, h1, belE0 h2.1, h3⟩⟩

def cmpI (a b : Int) : Int := if a < b then -1 else if b < a then 1 else 0
def or3 (a b c : Int) : Int := if a = 0 then (if b = 0 then c else b) else a
theorem f_cmp (n : Nat) (a b : Int) : F_cmp_Compare_d n a b = some (cmpI a b) := by
  unfold F_cmp_Compare_d F_cmp_isNaN_d
  simp only [bnd_some, decide_true, Bool.not_true, cnd_f, cnd_if, cmpI]
  split
  · rfl
  · split <;> rfl
theorem f_or3 (n : Nat) (a b c : Int) : F_cmp_Or_d (n + 4) [a, b, c] = some (or3 a b c) := by
  have w0 : IntKind.wrap .i64 ((0 : Int) + 1) = 1 := by decide
  have w1 : IntKind.wrap .i64 ((1 : Int) + 1) = 2 := by decide
  have w2 : IntKind.wrap .i64 ((2 : Int) + 1) = 3 := by decide
  unfold F_cmp_Or_d or3
  simp only [F_cmp_Or_d_l1, List.map_cons, List.map_nil, List.length_cons, List.length_nil, cnd_if, cnd_not, w0, w1, w2]
  simp only [idx]
  by_cases ha : a = 0
  · by_cases hb : b = 0
    · by_cases hc : c = 0 <;> simp [ha, hb, hc]
    · simp [ha, hb]
  · simp [ha]
def evCmp (a b : T_api_Event) : Int := or3 (cmpI a.fTime b.fTime) (cmpI a.fSource b.fSource) (cmpI a.fSeq b.fSeq)
theorem f_evCmp (n : Nat) (a b : T_api_Event) : F_event_Compare_d (n + 4) a b = some (evCmp a b) := by
  unfold F_event_Compare_d F_event_Ref_d
  simp only [bnd_some, f_cmp, f_or3, Bool.and_true, cnd_b, Bool.and_eq_true, decide_eq_true_eq]
  split
  · rename_i h
    obtain ⟨h1, h2, h3⟩ := h
    simp [evCmp, or3, cmpI, h1, h2, h3]
  · rfl
theorem evCmp_lt (a b : T_api_Event) : evCmp a b < 0 ↔ a.fTime < b.fTime ∨ (a.fTime = b.fTime ∧ (a.fSource < b.fSource ∨ (a.fSource = b.fSource ∧ a.fSeq < b.fSeq))) := by
  unfold evCmp or3 cmpI
  split <;> split <;> (try split) <;> (try split) <;> (try split) <;> (try split) <;> omega
theorem evCmp_swo : Go.Sort.SWO (ltOf evCmp) := by
  have h : ∀ x y, ltOf evCmp x y = decide (x.fTime < y.fTime ∨ (x.fTime = y.fTime ∧ (x.fSource < y.fSource ∨ (x.fSource = y.fSource ∧ x.fSeq < y.fSeq)))) := fun x y => by
    unfold ltOf; exact decide_eq_decide.2 (evCmp_lt x y)
  refine ⟨fun x => ?_, fun x y z h1 h2 => ?_, fun x y z h1 h2 => ?_⟩ <;> simp only [h, decide_eq_true_eq, decide_eq_false_iff_not] at * <;> omega
def F_evCmp (n : Nat) (a b : T_api_Event) : Option Int := some (evCmp a b)
theorem con_evCmp_d (a b : T_api_Event) : Con E0d true 54 [e_api_Event a, e_api_Event b] (.int .i64 (evCmp a b)) := con_event_Compare_d (f_evCmp 6 a b)
theorem con_evCmp {n : Nat} {a b : T_api_Event} {r : Int} (hF : F_evCmp n a b = some r) : Con E0 true 54 [e_api_Event a, e_api_Event b] (R_event_Compare_d r) := by
  injection hF with hF; subst hF; exact (con_event_Compare_d (f_evCmp 6 a b)).lo
def F_cmpI (n : Nat) (a b : Int) : Option Int := some (cmpI a b)
theorem con_cmpI {n : Nat} {a b : Int} {r : Int} (hF : F_cmpI n a b = some r) : Con E0 true 74 [aI a, aI b] (R_cmp_Compare_d r) := by
  injection hF with hF; subst hF; exact (con_cmp_Compare_d (f_cmp 0 a b)).lo
theorem con_cmpOr {n : Nat} {l : List Int} {r : Int} (hF : F_cmp_Or_d n l = some r) : Con E0 true 73 [.sl 1 (List.map aI l)] (R_cmp_Or_d r) := (con_cmp_Or_d hF).lo
theorem sortEv_con {n : Nat} {l l' : List T_api_Event} (hF : F_sort evCmp n l = some l') : ConC true E0 71 [.row 0, .fn 54 []] 51 5 (l.map e_api_Event) 51 5 (l'.map e_api_Event) (.tup []) :=
  sort_gen (Ed := E0d) rfl rfl (enters_of Try.func71 rfl rfl) (enters_of Try.func54 rfl rfl) (by omega) (fun x => ⟨_, rfl, rfl⟩)
    (fun α _ enc hk h1 cf hO blk off cap d w hcmp hH hblk hsz => AnyQ.slices_SortFunc Try.laysSlF06_f71 5 Try.isAgg51 Try.sizeOf51 enc hk h1 cf hO 54 #[] blk off cap d w (enters_of Try.func54 rfl rfl) hcmp hH hblk hsz)
    (fun p cap fv w => AnyF.slices_SortFunc_none Try.laysSlF06_f71 p cap fv w) con_evCmp_d evCmp_swo hF
end Go.Proofs.Ytdbapaofibgfcaa
