/-
  No cell of these rows narrows 'for every input' (looked for: loops, veiled, ifaces, maps, wideKeys, modest, calm, conditions, laid).
  DERIVED. THE GIVEN ROWS OF THIS SEAT. 7 by the template 'for every input the law returns true; each argument reads behind the call as it read before'; 0 by the template 'total and deterministic' (their statements: YtimkhfaddnanhaaGreatTotals.lean).
  GIVEN WITH THE SEED: the statements are not yours to turn. If you find one false, say at which input.
  Laid BY PROGRAM, IN A SANDBOX (cutbox-rows.mjs): the forced cells as the released guide's own fill.sh prints them over the translation 1126e5bf581a767e… (all of the seat's roots in one cut). By AI agents, Wed Nov 11 2026. No macro, syntax, notation, axiom, sorry.
-/
import Derived.Test.YtimkhfaddnanhaaGreatChecked
import GoSem.Claim
import GoSem.ClaimJoined
import GoSem.ClaimMapViews
import Derived.JoinedTies
import Derived.KernelRfl
namespace Go.Proofs.YtimkhfaddnanhaaGreat
/- THE CELL 'sum', in the pinned program and in every row, IS THE sha256 OF THE DUMP (.gsa) THAT YtimkhfaddnanhaaGreatProg.lean LOADS. Nothing in Lean hashes anything: it is a label: what it is worth is what the hold of that sum in a sandbox is worth. -/
noncomputable def Tryz.pinned : Pinned := { name := "ytimkhfaddnanhaagreat", sum := "1126e5bf581a767ef14efea54f4ae33c09cd40cd3d92526777d4fc476d34b082", checked := Tryz.checked }
namespace Rows
def none {H : Type} : Left H := { results := [], args := [] }

/-- 'tidegatelaw37.ReorderAdds': WHATEVER THE INPUT: true; the input reads as it did. -/
def reorderAddsSpec : ChangeSpec := { name := "reorderAdds", fn := fun _ => fun
  | [d1, d2, d3] => { results := [.lit (.bool true)], args := [d1, d2, d3] }
  | _ => none }
def reorderAddsRow : OpenClaim := { program := "ytimkhfaddnanhaagreat", sum := "1126e5bf581a767ef14efea54f4ae33c09cd40cd3d92526777d4fc476d34b082", func := "tidegate/tidegatelaw37.ReorderAdds", spec := "reorderAdds", inPlace := ["slices.overlaps[int]", "slices.overlaps[tidegate/api.Point]"], unfollowed := true, recurses := true, plainKeys := false, apart := false }
def ReorderAddsSaid : Prop := reorderAddsRow.holds Tryz.pinned (OpenSpec.ofChange reorderAddsSpec)

/-- ITS FALSE NEIGHBOUR: 'it returns false'. Refute it at one input. -/
def reorderAddsWrong : ChangeSpec := { name := "reorderAdds", fn := fun _ => fun
  | [d1, d2, d3] => { results := [.lit (.bool false)], args := [d1, d2, d3] }
  | _ => none }
def ReorderAddsWrongFalsely : Prop := reorderAddsRow.holds Tryz.pinned (OpenSpec.ofChange reorderAddsWrong)

/-- 'tidegatelaw37.ReorderRuns': WHATEVER THE INPUT: true; the input reads as it did. -/
def reorderRunsSpec : ChangeSpec := { name := "reorderRuns", fn := fun _ => fun
  | [d1, d2] => { results := [.lit (.bool true)], args := [d1, d2] }
  | _ => none }
def reorderRunsRow : OpenClaim := { program := "ytimkhfaddnanhaagreat", sum := "1126e5bf581a767ef14efea54f4ae33c09cd40cd3d92526777d4fc476d34b082", func := "tidegate/tidegatelaw37.ReorderRuns", spec := "reorderRuns", inPlace := ["slices.overlaps[int]", "slices.overlaps[tidegate/api.Point]"], unfollowed := true, recurses := true, plainKeys := false, apart := false }
def ReorderRunsSaid : Prop := reorderRunsRow.holds Tryz.pinned (OpenSpec.ofChange reorderRunsSpec)

/-- ITS FALSE NEIGHBOUR: 'it returns false'. Refute it at one input. -/
def reorderRunsWrong : ChangeSpec := { name := "reorderRuns", fn := fun _ => fun
  | [d1, d2] => { results := [.lit (.bool false)], args := [d1, d2] }
  | _ => none }
def ReorderRunsWrongFalsely : Prop := reorderRunsRow.holds Tryz.pinned (OpenSpec.ofChange reorderRunsWrong)

/-- 'tidegatelaw37.ReorderSettles': WHATEVER THE INPUT: true; the input reads as it did. -/
def reorderSettlesSpec : ChangeSpec := { name := "reorderSettles", fn := fun _ => fun
  | [d1, d2, d3] => { results := [.lit (.bool true)], args := [d1, d2, d3] }
  | _ => none }
def reorderSettlesRow : OpenClaim := { program := "ytimkhfaddnanhaagreat", sum := "1126e5bf581a767ef14efea54f4ae33c09cd40cd3d92526777d4fc476d34b082", func := "tidegate/tidegatelaw37.ReorderSettles", spec := "reorderSettles", inPlace := ["slices.overlaps[int]", "slices.overlaps[tidegate/api.Point]"], unfollowed := true, recurses := true, plainKeys := false, apart := false }
def ReorderSettlesSaid : Prop := reorderSettlesRow.holds Tryz.pinned (OpenSpec.ofChange reorderSettlesSpec)

/-- ITS FALSE NEIGHBOUR: 'it returns false'. Refute it at one input. -/
def reorderSettlesWrong : ChangeSpec := { name := "reorderSettles", fn := fun _ => fun
  | [d1, d2, d3] => { results := [.lit (.bool false)], args := [d1, d2, d3] }
  | _ => none }
def ReorderSettlesWrongFalsely : Prop := reorderSettlesRow.holds Tryz.pinned (OpenSpec.ofChange reorderSettlesWrong)

/-- 'tidegatelaw37.ReorderEnds': WHATEVER THE INPUT: true; the input reads as it did. -/
def reorderEndsSpec : ChangeSpec := { name := "reorderEnds", fn := fun _ => fun
  | [d1, d2] => { results := [.lit (.bool true)], args := [d1, d2] }
  | _ => none }
def reorderEndsRow : OpenClaim := { program := "ytimkhfaddnanhaagreat", sum := "1126e5bf581a767ef14efea54f4ae33c09cd40cd3d92526777d4fc476d34b082", func := "tidegate/tidegatelaw37.ReorderEnds", spec := "reorderEnds", inPlace := ["slices.overlaps[int]", "slices.overlaps[tidegate/api.Point]"], unfollowed := true, recurses := true, plainKeys := false, apart := false }
def ReorderEndsSaid : Prop := reorderEndsRow.holds Tryz.pinned (OpenSpec.ofChange reorderEndsSpec)

/-- ITS FALSE NEIGHBOUR: 'it returns false'. Refute it at one input. -/
def reorderEndsWrong : ChangeSpec := { name := "reorderEnds", fn := fun _ => fun
  | [d1, d2] => { results := [.lit (.bool false)], args := [d1, d2] }
  | _ => none }
def ReorderEndsWrongFalsely : Prop := reorderEndsRow.holds Tryz.pinned (OpenSpec.ofChange reorderEndsWrong)

/-- 'tidegatelaw37.ReorderReleases': WHATEVER THE INPUT: true; the input reads as it did. -/
def reorderReleasesSpec : ChangeSpec := { name := "reorderReleases", fn := fun _ => fun
  | [d1, d2] => { results := [.lit (.bool true)], args := [d1, d2] }
  | _ => none }
def reorderReleasesRow : OpenClaim := { program := "ytimkhfaddnanhaagreat", sum := "1126e5bf581a767ef14efea54f4ae33c09cd40cd3d92526777d4fc476d34b082", func := "tidegate/tidegatelaw37.ReorderReleases", spec := "reorderReleases", inPlace := ["slices.overlaps[int]", "slices.overlaps[tidegate/api.Point]"], unfollowed := true, recurses := true, plainKeys := false, apart := false }
def ReorderReleasesSaid : Prop := reorderReleasesRow.holds Tryz.pinned (OpenSpec.ofChange reorderReleasesSpec)

/-- ITS FALSE NEIGHBOUR: 'it returns false'. Refute it at one input. -/
def reorderReleasesWrong : ChangeSpec := { name := "reorderReleases", fn := fun _ => fun
  | [d1, d2] => { results := [.lit (.bool false)], args := [d1, d2] }
  | _ => none }
def ReorderReleasesWrongFalsely : Prop := reorderReleasesRow.holds Tryz.pinned (OpenSpec.ofChange reorderReleasesWrong)

/-- 'tidegatelaw37.ReorderConserves': WHATEVER THE INPUT: true; the input reads as it did. -/
def reorderConservesSpec : ChangeSpec := { name := "reorderConserves", fn := fun _ => fun
  | [d1, d2] => { results := [.lit (.bool true)], args := [d1, d2] }
  | _ => none }
def reorderConservesRow : OpenClaim := { program := "ytimkhfaddnanhaagreat", sum := "1126e5bf581a767ef14efea54f4ae33c09cd40cd3d92526777d4fc476d34b082", func := "tidegate/tidegatelaw37.ReorderConserves", spec := "reorderConserves", inPlace := ["slices.overlaps[int]", "slices.overlaps[tidegate/api.Point]"], unfollowed := true, recurses := true, plainKeys := false, apart := false }
def ReorderConservesSaid : Prop := reorderConservesRow.holds Tryz.pinned (OpenSpec.ofChange reorderConservesSpec)

/-- ITS FALSE NEIGHBOUR: 'it returns false'. Refute it at one input. -/
def reorderConservesWrong : ChangeSpec := { name := "reorderConserves", fn := fun _ => fun
  | [d1, d2] => { results := [.lit (.bool false)], args := [d1, d2] }
  | _ => none }
def ReorderConservesWrongFalsely : Prop := reorderConservesRow.holds Tryz.pinned (OpenSpec.ofChange reorderConservesWrong)

/-- 'tidegatelaw37.ReorderSorts': WHATEVER THE INPUT: true; the input reads as it did. -/
def reorderSortsSpec : ChangeSpec := { name := "reorderSorts", fn := fun _ => fun
  | [d1, d2] => { results := [.lit (.bool true)], args := [d1, d2] }
  | _ => none }
def reorderSortsRow : OpenClaim := { program := "ytimkhfaddnanhaagreat", sum := "1126e5bf581a767ef14efea54f4ae33c09cd40cd3d92526777d4fc476d34b082", func := "tidegate/tidegatelaw37.ReorderSorts", spec := "reorderSorts", inPlace := ["slices.overlaps[int]", "slices.overlaps[tidegate/api.Point]"], unfollowed := true, recurses := true, plainKeys := false, apart := false }
def ReorderSortsSaid : Prop := reorderSortsRow.holds Tryz.pinned (OpenSpec.ofChange reorderSortsSpec)

/-- ITS FALSE NEIGHBOUR: 'it returns false'. Refute it at one input. -/
def reorderSortsWrong : ChangeSpec := { name := "reorderSorts", fn := fun _ => fun
  | [d1, d2] => { results := [.lit (.bool false)], args := [d1, d2] }
  | _ => none }
def ReorderSortsWrongFalsely : Prop := reorderSortsRow.holds Tryz.pinned (OpenSpec.ofChange reorderSortsWrong)

/- THE SECOND FORM. 'bulk': how many values and letters a reading holds, each counted each time it is reached (what is shared counts as often as it is met; a slice's spare places count too). A statement '..UptoSaid' is the law's where the arguments, and the package variables that the reading takes, are together of bulk at most 1048576: NARROWER than '..Said'. Prove '..Said' where nothing that the law and all that it calls make is longer than what came in: it says more and counts as full. Else prove '..UptoSaid'. A law counts once. -/
mutual
def uptoBulk {H : Type} : DataW H → Nat
  | .lit (.string bytes) => bytes.length + 1
  | .lit _ => 1
  | .nil => 1
  | .ptr d => uptoBulk d + 1
  | .slice elems spare => uptoBulkAll elems + uptoBulkAll spare + 1
  | .agg parts => uptoBulkAll parts + 1
  | .iface _ d => uptoBulk d + 1
  | .map entries => uptoBulkEntries entries + 1
  | .held _ => 1
def uptoBulkAll {H : Type} : List (DataW H) → Nat
  | [] => 0
  | d :: r => uptoBulk d + uptoBulkAll r
def uptoBulkEntries {H : Type} : List (Lit × DataW H) → Nat
  | [] => 0
  | x :: r => uptoBulkEntry x + uptoBulkEntries r
def uptoBulkEntry {H : Type} : Lit × DataW H → Nat
  | (.string bytes, d) => bytes.length + uptoBulk d + 1
  | (_, d) => uptoBulk d + 1
 end
def uptoSmall : (H : Type) → List (DataW H) → Bool := fun _ ds => decide (uptoBulkAll ds ≤ 1048576)
def OpenSpec.upto (s : _root_.Go.ChangeSpec) : _root_.Go.OpenSpec := { _root_.Go.OpenSpec.ofChange s with cond := some uptoSmall }

/-- 'tidegatelaw37.ReorderAdds', WHERE WHAT IT READS IS OF BULK AT MOST 1048576: true; the input reads as it did. -/
def reorderAddsUptoRow : OpenClaim := { program := "ytimkhfaddnanhaagreat", sum := "1126e5bf581a767ef14efea54f4ae33c09cd40cd3d92526777d4fc476d34b082", func := "tidegate/tidegatelaw37.ReorderAdds", spec := "reorderAdds", inPlace := ["slices.overlaps[int]", "slices.overlaps[tidegate/api.Point]"], unfollowed := true, recurses := true, plainKeys := false, apart := false, narrowed := true }
def ReorderAddsUptoSaid : Prop := reorderAddsUptoRow.holds Tryz.pinned (OpenSpec.upto reorderAddsSpec)

/-- 'tidegatelaw37.ReorderRuns', WHERE WHAT IT READS IS OF BULK AT MOST 1048576: true; the input reads as it did. -/
def reorderRunsUptoRow : OpenClaim := { program := "ytimkhfaddnanhaagreat", sum := "1126e5bf581a767ef14efea54f4ae33c09cd40cd3d92526777d4fc476d34b082", func := "tidegate/tidegatelaw37.ReorderRuns", spec := "reorderRuns", inPlace := ["slices.overlaps[int]", "slices.overlaps[tidegate/api.Point]"], unfollowed := true, recurses := true, plainKeys := false, apart := false, narrowed := true }
def ReorderRunsUptoSaid : Prop := reorderRunsUptoRow.holds Tryz.pinned (OpenSpec.upto reorderRunsSpec)

/-- 'tidegatelaw37.ReorderSettles', WHERE WHAT IT READS IS OF BULK AT MOST 1048576: true; the input reads as it did. -/
def reorderSettlesUptoRow : OpenClaim := { program := "ytimkhfaddnanhaagreat", sum := "1126e5bf581a767ef14efea54f4ae33c09cd40cd3d92526777d4fc476d34b082", func := "tidegate/tidegatelaw37.ReorderSettles", spec := "reorderSettles", inPlace := ["slices.overlaps[int]", "slices.overlaps[tidegate/api.Point]"], unfollowed := true, recurses := true, plainKeys := false, apart := false, narrowed := true }
def ReorderSettlesUptoSaid : Prop := reorderSettlesUptoRow.holds Tryz.pinned (OpenSpec.upto reorderSettlesSpec)

/-- 'tidegatelaw37.ReorderEnds', WHERE WHAT IT READS IS OF BULK AT MOST 1048576: true; the input reads as it did. -/
def reorderEndsUptoRow : OpenClaim := { program := "ytimkhfaddnanhaagreat", sum := "1126e5bf581a767ef14efea54f4ae33c09cd40cd3d92526777d4fc476d34b082", func := "tidegate/tidegatelaw37.ReorderEnds", spec := "reorderEnds", inPlace := ["slices.overlaps[int]", "slices.overlaps[tidegate/api.Point]"], unfollowed := true, recurses := true, plainKeys := false, apart := false, narrowed := true }
def ReorderEndsUptoSaid : Prop := reorderEndsUptoRow.holds Tryz.pinned (OpenSpec.upto reorderEndsSpec)

/-- 'tidegatelaw37.ReorderReleases', WHERE WHAT IT READS IS OF BULK AT MOST 1048576: true; the input reads as it did. -/
def reorderReleasesUptoRow : OpenClaim := { program := "ytimkhfaddnanhaagreat", sum := "1126e5bf581a767ef14efea54f4ae33c09cd40cd3d92526777d4fc476d34b082", func := "tidegate/tidegatelaw37.ReorderReleases", spec := "reorderReleases", inPlace := ["slices.overlaps[int]", "slices.overlaps[tidegate/api.Point]"], unfollowed := true, recurses := true, plainKeys := false, apart := false, narrowed := true }
def ReorderReleasesUptoSaid : Prop := reorderReleasesUptoRow.holds Tryz.pinned (OpenSpec.upto reorderReleasesSpec)

/-- 'tidegatelaw37.ReorderConserves', WHERE WHAT IT READS IS OF BULK AT MOST 1048576: true; the input reads as it did. -/
def reorderConservesUptoRow : OpenClaim := { program := "ytimkhfaddnanhaagreat", sum := "1126e5bf581a767ef14efea54f4ae33c09cd40cd3d92526777d4fc476d34b082", func := "tidegate/tidegatelaw37.ReorderConserves", spec := "reorderConserves", inPlace := ["slices.overlaps[int]", "slices.overlaps[tidegate/api.Point]"], unfollowed := true, recurses := true, plainKeys := false, apart := false, narrowed := true }
def ReorderConservesUptoSaid : Prop := reorderConservesUptoRow.holds Tryz.pinned (OpenSpec.upto reorderConservesSpec)

/-- 'tidegatelaw37.ReorderSorts', WHERE WHAT IT READS IS OF BULK AT MOST 1048576: true; the input reads as it did. -/
def reorderSortsUptoRow : OpenClaim := { program := "ytimkhfaddnanhaagreat", sum := "1126e5bf581a767ef14efea54f4ae33c09cd40cd3d92526777d4fc476d34b082", func := "tidegate/tidegatelaw37.ReorderSorts", spec := "reorderSorts", inPlace := ["slices.overlaps[int]", "slices.overlaps[tidegate/api.Point]"], unfollowed := true, recurses := true, plainKeys := false, apart := false, narrowed := true }
def ReorderSortsUptoSaid : Prop := reorderSortsUptoRow.holds Tryz.pinned (OpenSpec.upto reorderSortsSpec)

end Rows
end Go.Proofs.YtimkhfaddnanhaaGreat
