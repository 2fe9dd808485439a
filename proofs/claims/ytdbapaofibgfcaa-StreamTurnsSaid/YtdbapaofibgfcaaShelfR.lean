/- Contracts of the library, out of the shelf of the kit, at this program (written by the kit's lay-plain). -/
import Derived.Shelf.SlicesQ.Reverse
import Derived.Test.YtdbapaofibgfcaaProg
namespace Go.Proofs
open Go.Shelf
def Try.laysSlE35_f37_ren : Go.Shelf.Ren := ⟨fun | 35 => 37 | n => n, fun | 22 => 22 | 23 => 51 | 3 => 3 | 4 => 4 | 0 => 0 | n => n, fun | n => n⟩
theorem Try.laysSlE35_f37 : Go.Proofs.SlLaysE0.n35 Try.prog Try.laysSlE35_f37_ren := {
  mixed := by kernel_rfl
  f35 := ⟨Try.f37.name, by decide, Try.func37.trans (congrArg some (by kernel_rfl))⟩
  t0 := Try.underlying0
  a0 := Try.isAgg0
  z0 := Try.sizeOf0
  v0 := Try.zeroValue0
  t3 := Try.underlying3
  a3 := Try.isAgg3
  z3 := Try.sizeOf3
  v3 := Try.zeroValue3
  t4 := Try.underlying4
  a4 := Try.isAgg4
  z4 := Try.sizeOf4
  v4 := Try.zeroValue4
  t22 := Try.underlying22
  a22 := Try.isAgg22
  z22 := Try.sizeOf22
  v22 := Try.zeroValue22 }
end Go.Proofs
