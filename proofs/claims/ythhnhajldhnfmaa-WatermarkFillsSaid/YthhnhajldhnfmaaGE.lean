/- Contracts that were walked by hand, in the form in which the printed ones call them. -/
import Derived.Test.YthhnhajldhnfmaaAm6
import Derived.Test.YthhnhajldhnfmaaLibD
import Derived.Test.YthhnhajldhnfmaaSpec36
set_option linter.unusedVariables false
set_option linter.unusedSimpArgs false
namespace Go.Proofs.Ythhnhajldhnfmaa
open Go.RowKit

def F_puCheck (n : Nat) (t : Trk) : Option Int := some (puCheck t)
def R_puCheck (r : Int) : AV := aI r
theorem con_puCheck {n : Nat} {t : Trk} {r : Int} (h : F_puCheck n t = some r) : Con E0 true 19 [aTrk t] (R_puCheck r) := by
  injection h with h; subst h; exact puCheck_con t
theorem con_rpuCheck {n : Nat} {t : Trk} {r : Int} (h : F_puCheck n t = some r) : Con E0 true 20 [aTrk t] (R_puCheck r) := by
  injection h with h; subst h; exact rpuCheck_con t
def F_puAllows (n : Nat) (t : Trk) (seq time : Int) : Option (Bool × Int) := if t.beyond.length ≤ 1000000000 ∧ t.points.length ≤ 1000000000 then some (allowsT t seq time) else none
def R_puAllows (r : Bool × Int) : AV := .tup [.bool r.1, aI r.2]
theorem con_puAllows {n : Nat} {t : Trk} {seq time : Int} {r : Bool × Int} (h : F_puAllows n t seq time = some r) : Con E0 true 17 [aTrk t, aI seq, aI time] (R_puAllows r) := by
  unfold F_puAllows at h
  split at h
  · rename_i hl; injection h with h; subst h; exact allows_con t seq time hl.1 hl.2
  · cases h
theorem con_rpuAllows {n : Nat} {t : Trk} {seq time : Int} {r : Bool × Int} (h : F_puAllows n t seq time = some r) : Con E0 true 18 [aTrk t, aI seq, aI time] (R_puAllows r) := by
  unfold F_puAllows at h
  split at h
  · rename_i hl
    injection h with h
    subst h
    rw [← allows_eq]
    exact Con.of3 (enters_of Try.func18 rfl rfl) fun S w x y z hx hy hz => by
      rw [hy.int_inv, hz.int_inv]
      exact (rallows_any t seq time S x w (rep_trk.1 hx) hl.1 hl.2).mono fun e w' ⟨h1, h2⟩ => ⟨_, h1, h2, rep_be _ _⟩
  · cases h
def F_puAdd (n : Nat) (t : Trk) (p : Pt) : Option (Trk × Int) := if t.beyond.length ≤ 1000000 ∧ t.points.length ≤ 1000000 then some (addT t p) else none
def R_puAdd (r : Trk × Int) : AV := .tup [aTrk r.1, aI r.2]
theorem con_puAdd {n : Nat} {t : Trk} {p : Pt} {r : Trk × Int} (h : F_puAdd n t p = some r) : Con E0 true 23 [aTrk t, aPt p] (R_puAdd r) := by
  unfold F_puAdd at h
  split at h
  · rename_i hl; injection h with h; subst h; exact add_con t p hl.1 hl.2
  · cases h
def F_rpuAdd (n : Nat) (t : Trk) (p : Pt) : Option (Trk × Int) := if t.points.length ≤ 1000000 then some (addR t p) else none
theorem con_rpuAdd {n : Nat} {t : Trk} {p : Pt} {r : Trk × Int} (h : F_rpuAdd n t p = some r) : Con E0 false 24 [aTrk t, aPt p] (R_puAdd r) := by
  unfold F_rpuAdd at h
  split at h
  · rename_i hl; injection h with h; subst h; exact radd_con t p hl
  · cases h
def F_puSettle (n : Nat) (t : Trk) : Option (Trk × Int) := if t.beyond.length ≤ 1000000000 ∧ t.points.length ≤ 1000000000 then some (settleT t) else none
theorem con_puSettle {n : Nat} {t : Trk} {r : Trk × Int} (h : F_puSettle n t = some r) : Con E0 true 49 [aTrk t] (R_puAdd r) := by
  unfold F_puSettle at h
  split at h
  · rename_i hl
    injection h with h
    subst h
    exact Con.of1 (enters_of Try.func49 rfl rfl) fun S w x hx => by
      refine (settle_any t S x w (rep_trk.1 hx) hl.1 hl.2).mono fun e w' ⟨A, c, A', c', h1, h2, h3, h4⟩ => ⟨_, h1, h4, ?_⟩
      have := rep_trk.2 (RetTE.trkV h2 h3)
      refine .tup _ rfl fun i hi => ?_
      have hi' : i < 2 := hi
      rcases i with _ | _ | i
      · exact this.mono (Nat.le_refl _) (fun b hb _ => ⟨rfl, Or.inr hb⟩)
      · exact .int _ _
      · omega
  · cases h
def F_trkSame (n : Nat) (t u : Trk) : Option Bool := if t.beyond.length ≤ 1000000000 ∧ t.points.length ≤ 1000000000 then some (decide (t = u)) else none
def R_trkSame (r : Bool) : AV := .bool r
theorem con_trkSame {n : Nat} {t u : Trk} {r : Bool} (h : F_trkSame n t u = some r) : Con E0 true 25 [aTrk t, aTrk u] (R_trkSame r) := by
  unfold F_trkSame at h
  split at h
  · rename_i hl; injection h with h; subst h; exact same_con t u hl.1 hl.2
  · cases h
end Go.Proofs.Ythhnhajldhnfmaa
