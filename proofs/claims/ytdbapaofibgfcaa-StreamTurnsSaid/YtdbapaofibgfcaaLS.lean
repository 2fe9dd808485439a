/- Contracts of the library's functions that are taken from the kit's shelf, in the form of the abstract walk. -/
import Derived.Test.YtdbapaofibgfcaaLibS
import Derived.Test.YtdbapaofibgfcaaLibD
import Derived.Test.YtdbapaofibgfcaaShelf
set_option linter.unusedVariables false
set_option linter.unusedSimpArgs false
namespace Go.Proofs.Ytdbapaofibgfcaa
open Go.RowKit

def F_strCmp (n : Nat) (a b : ByteArray) : Option Int := some (Lib.compareBytes a.data.toList b.data.toList)
def R_strCmp (r : Int) : AV := aI r
theorem strCmp_gen {E : Env} (hP : E.P = Try.prog) (he : Enters E 81) {n : Nat} {a b : ByteArray} {r : Int} (hF : F_strCmp n a b = some r) : Con E true 81 [.str a, .str b] (R_strCmp r) := by
  injection hF with hF
  subst hF
  refine ⟨he, fun S w vs ⟨hl, hr⟩ => ?_⟩
  have e := getD2 hl
  have h0 : Rep w S G0 (.str a) (vs.getD 0 undef) := hr 0 (by simp)
  have h1 : Rep w S G0 (.str b) (vs.getD 1 undef) := hr 1 (by simp)
  rw [h0.str_inv, h1.str_inv] at e
  rw [e, hP]
  refine (Try.strings_Compare a b w).mono ?_
  rintro e w' ⟨rfl, rfl⟩
  exact ⟨_, rfl, ⟨Below.refl _ _, fun _ => Nat.le_refl _⟩, .int _ _⟩
theorem con_strCmp {n : Nat} {a b : ByteArray} {r : Int} (hF : F_strCmp n a b = some r) : Con E0 true 81 [.str a, .str b] (R_strCmp r) := strCmp_gen rfl (enters_of Try.func81 rfl rfl) hF
theorem con_strCmp_d {n : Nat} {a b : ByteArray} {r : Int} (hF : F_strCmp n a b = some r) : Con E0d true 81 [.str a, .str b] (R_strCmp r) := strCmp_gen (E := E0d) rfl (enters_of Try.func81 rfl rfl) hF
end Go.Proofs.Ytdbapaofibgfcaa
