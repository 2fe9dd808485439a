/-
  No cell of these rows narrows 'for every input' (looked for: loops, veiled, ifaces, maps, wideKeys, modest, calm, conditions, laid).
  DERIVED. THE GIVEN ROWS OF THIS SEAT. 5 by the template 'for every input the law returns true; each argument reads behind the call as it read before'; 0 by the template 'total and deterministic' (their statements: YtcbdhigllelmcaaGreatTotals.lean).
  GIVEN WITH THE SEED: the statements are not yours to turn. If you find one false, say at which input.
  Laid BY PROGRAM, IN A SANDBOX (cutbox-rows.mjs): the forced cells as the released guide's own fill.sh prints them over the translation a72f940a9d375a5e… (all of the seat's roots in one cut). By AI agents, Wed Nov 11 2026. No macro, syntax, notation, axiom, sorry.
-/
import Derived.Test.YtcbdhigllelmcaaGreatChecked
import GoSem.Claim
import GoSem.ClaimJoined
import GoSem.ClaimMapViews
import Derived.JoinedTies
import Derived.KernelRfl
namespace Go.Proofs.YtcbdhigllelmcaaGreat
/- THE CELL 'sum', in the pinned program and in every row, IS THE sha256 OF THE DUMP (.gsa) THAT YtcbdhigllelmcaaGreatProg.lean LOADS. Nothing in Lean hashes anything: it is a label: what it is worth is what the hold of that sum in a sandbox is worth. -/
noncomputable def Tryz.pinned : Pinned := { name := "ytcbdhigllelmcaagreat", sum := "a72f940a9d375a5ec86b4638000703147cd37d9bde9f5c1ea0b80a9ca10750eb", checked := Tryz.checked }
namespace Rows
def none {H : Type} : Left H := { results := [], args := [] }

/-- 'tidegatelaw47.ReaderReplays': WHATEVER THE INPUT: true; the input reads as it did. -/
def readerReplaysSpec : ChangeSpec := { name := "readerReplays", fn := fun _ => fun
  | [d1, d2, d3] => { results := [.lit (.bool true)], args := [d1, d2, d3] }
  | _ => none }
def readerReplaysRow : OpenClaim := { program := "ytcbdhigllelmcaagreat", sum := "a72f940a9d375a5ec86b4638000703147cd37d9bde9f5c1ea0b80a9ca10750eb", func := "tidegate/tidegatelaw47.ReaderReplays", spec := "readerReplays", inPlace := ["slices.overlaps[int]", "slices.overlaps[tidegate/api.Point]"], unfollowed := true, recurses := true, apart := false }
def ReaderReplaysSaid : Prop := readerReplaysRow.holds Tryz.pinned (OpenSpec.ofChange readerReplaysSpec)

/-- ITS FALSE NEIGHBOUR: 'it returns false'. Refute it at one input. -/
def readerReplaysWrong : ChangeSpec := { name := "readerReplays", fn := fun _ => fun
  | [d1, d2, d3] => { results := [.lit (.bool false)], args := [d1, d2, d3] }
  | _ => none }
def ReaderReplaysWrongFalsely : Prop := readerReplaysRow.holds Tryz.pinned (OpenSpec.ofChange readerReplaysWrong)

/-- 'tidegatelaw47.ReaderRoutes': WHATEVER THE INPUT: true; the input reads as it did. -/
def readerRoutesSpec : ChangeSpec := { name := "readerRoutes", fn := fun _ => fun
  | [d1, d2, d3] => { results := [.lit (.bool true)], args := [d1, d2, d3] }
  | _ => none }
def readerRoutesRow : OpenClaim := { program := "ytcbdhigllelmcaagreat", sum := "a72f940a9d375a5ec86b4638000703147cd37d9bde9f5c1ea0b80a9ca10750eb", func := "tidegate/tidegatelaw47.ReaderRoutes", spec := "readerRoutes", inPlace := ["slices.overlaps[int]", "slices.overlaps[tidegate/api.Point]"], unfollowed := true, recurses := true, apart := false }
def ReaderRoutesSaid : Prop := readerRoutesRow.holds Tryz.pinned (OpenSpec.ofChange readerRoutesSpec)

/-- ITS FALSE NEIGHBOUR: 'it returns false'. Refute it at one input. -/
def readerRoutesWrong : ChangeSpec := { name := "readerRoutes", fn := fun _ => fun
  | [d1, d2, d3] => { results := [.lit (.bool false)], args := [d1, d2, d3] }
  | _ => none }
def ReaderRoutesWrongFalsely : Prop := readerRoutesRow.holds Tryz.pinned (OpenSpec.ofChange readerRoutesWrong)

/-- 'tidegatelaw47.ReaderPromises': WHATEVER THE INPUT: true; the input reads as it did. -/
def readerPromisesSpec : ChangeSpec := { name := "readerPromises", fn := fun _ => fun
  | [d1, d2] => { results := [.lit (.bool true)], args := [d1, d2] }
  | _ => none }
def readerPromisesRow : OpenClaim := { program := "ytcbdhigllelmcaagreat", sum := "a72f940a9d375a5ec86b4638000703147cd37d9bde9f5c1ea0b80a9ca10750eb", func := "tidegate/tidegatelaw47.ReaderPromises", spec := "readerPromises", inPlace := ["slices.overlaps[int]", "slices.overlaps[tidegate/api.Point]"], unfollowed := true, recurses := true, apart := false }
def ReaderPromisesSaid : Prop := readerPromisesRow.holds Tryz.pinned (OpenSpec.ofChange readerPromisesSpec)

/-- ITS FALSE NEIGHBOUR: 'it returns false'. Refute it at one input. -/
def readerPromisesWrong : ChangeSpec := { name := "readerPromises", fn := fun _ => fun
  | [d1, d2] => { results := [.lit (.bool false)], args := [d1, d2] }
  | _ => none }
def ReaderPromisesWrongFalsely : Prop := readerPromisesRow.holds Tryz.pinned (OpenSpec.ofChange readerPromisesWrong)

/-- 'tidegatelaw47.ReaderReads': WHATEVER THE INPUT: true; the input reads as it did. -/
def readerReadsSpec : ChangeSpec := { name := "readerReads", fn := fun _ => fun
  | [d1, d2, d3] => { results := [.lit (.bool true)], args := [d1, d2, d3] }
  | _ => none }
def readerReadsRow : OpenClaim := { program := "ytcbdhigllelmcaagreat", sum := "a72f940a9d375a5ec86b4638000703147cd37d9bde9f5c1ea0b80a9ca10750eb", func := "tidegate/tidegatelaw47.ReaderReads", spec := "readerReads", inPlace := ["slices.overlaps[int]", "slices.overlaps[tidegate/api.Point]"], unfollowed := true, recurses := true, apart := false }
def ReaderReadsSaid : Prop := readerReadsRow.holds Tryz.pinned (OpenSpec.ofChange readerReadsSpec)

/-- ITS FALSE NEIGHBOUR: 'it returns false'. Refute it at one input. -/
def readerReadsWrong : ChangeSpec := { name := "readerReads", fn := fun _ => fun
  | [d1, d2, d3] => { results := [.lit (.bool false)], args := [d1, d2, d3] }
  | _ => none }
def ReaderReadsWrongFalsely : Prop := readerReadsRow.holds Tryz.pinned (OpenSpec.ofChange readerReadsWrong)

/-- 'tidegatelaw47.ReaderDivides': WHATEVER THE INPUT: true; the input reads as it did. -/
def readerDividesSpec : ChangeSpec := { name := "readerDivides", fn := fun _ => fun
  | [d1, d2, d3] => { results := [.lit (.bool true)], args := [d1, d2, d3] }
  | _ => none }
def readerDividesRow : OpenClaim := { program := "ytcbdhigllelmcaagreat", sum := "a72f940a9d375a5ec86b4638000703147cd37d9bde9f5c1ea0b80a9ca10750eb", func := "tidegate/tidegatelaw47.ReaderDivides", spec := "readerDivides", inPlace := ["slices.overlaps[int]", "slices.overlaps[tidegate/api.Point]"], unfollowed := true, recurses := true, apart := false }
def ReaderDividesSaid : Prop := readerDividesRow.holds Tryz.pinned (OpenSpec.ofChange readerDividesSpec)

/-- ITS FALSE NEIGHBOUR: 'it returns false'. Refute it at one input. -/
def readerDividesWrong : ChangeSpec := { name := "readerDivides", fn := fun _ => fun
  | [d1, d2, d3] => { results := [.lit (.bool false)], args := [d1, d2, d3] }
  | _ => none }
def ReaderDividesWrongFalsely : Prop := readerDividesRow.holds Tryz.pinned (OpenSpec.ofChange readerDividesWrong)

/- THE SECOND FORM. 'bulk': how many values and letters a reading holds, each counted each time it is reached (what is shared counts as often as it is met; a slice's spare places count too). A statement '..UptoSaid' is the law's where the arguments, and the package variables that the reading takes, are together of bulk at most 1048576: NARROWER than '..Said'. Prove '..Said' where nothing that the law and all that it calls make is longer than what came in: it says more and counts as full. Else prove '..UptoSaid'. A law counts once. -/
mutual
def uptoBulk {H : Type} : DataW H → Nat
  | .lit (.string bytes) => bytes.length + 1
  | .lit _ => 1
  | .nil => 1
  | .ptr d => uptoBulk d + 1
  | .slice elems spare => uptoBulkAll elems + uptoBulkAll spare + 1
  | .agg parts => uptoBulkAll parts + 1
  | .iface _ d => uptoBulk d + 1
  | .map entries => uptoBulkEntries entries + 1
  | .held _ => 1
def uptoBulkAll {H : Type} : List (DataW H) → Nat
  | [] => 0
  | d :: r => uptoBulk d + uptoBulkAll r
def uptoBulkEntries {H : Type} : List (Lit × DataW H) → Nat
  | [] => 0
  | x :: r => uptoBulkEntry x + uptoBulkEntries r
def uptoBulkEntry {H : Type} : Lit × DataW H → Nat
  | (.string bytes, d) => bytes.length + uptoBulk d + 1
  | (_, d) => uptoBulk d + 1
 end
def uptoSmall : (H : Type) → List (DataW H) → Bool := fun _ ds => decide (uptoBulkAll ds ≤ 1048576)
def OpenSpec.upto (s : _root_.Go.ChangeSpec) : _root_.Go.OpenSpec := { _root_.Go.OpenSpec.ofChange s with cond := some uptoSmall }

/-- 'tidegatelaw47.ReaderReplays', WHERE WHAT IT READS IS OF BULK AT MOST 1048576: true; the input reads as it did. -/
def readerReplaysUptoRow : OpenClaim := { program := "ytcbdhigllelmcaagreat", sum := "a72f940a9d375a5ec86b4638000703147cd37d9bde9f5c1ea0b80a9ca10750eb", func := "tidegate/tidegatelaw47.ReaderReplays", spec := "readerReplays", inPlace := ["slices.overlaps[int]", "slices.overlaps[tidegate/api.Point]"], unfollowed := true, recurses := true, apart := false, narrowed := true }
def ReaderReplaysUptoSaid : Prop := readerReplaysUptoRow.holds Tryz.pinned (OpenSpec.upto readerReplaysSpec)

/-- 'tidegatelaw47.ReaderRoutes', WHERE WHAT IT READS IS OF BULK AT MOST 1048576: true; the input reads as it did. -/
def readerRoutesUptoRow : OpenClaim := { program := "ytcbdhigllelmcaagreat", sum := "a72f940a9d375a5ec86b4638000703147cd37d9bde9f5c1ea0b80a9ca10750eb", func := "tidegate/tidegatelaw47.ReaderRoutes", spec := "readerRoutes", inPlace := ["slices.overlaps[int]", "slices.overlaps[tidegate/api.Point]"], unfollowed := true, recurses := true, apart := false, narrowed := true }
def ReaderRoutesUptoSaid : Prop := readerRoutesUptoRow.holds Tryz.pinned (OpenSpec.upto readerRoutesSpec)

/-- 'tidegatelaw47.ReaderPromises', WHERE WHAT IT READS IS OF BULK AT MOST 1048576: true; the input reads as it did. -/
def readerPromisesUptoRow : OpenClaim := { program := "ytcbdhigllelmcaagreat", sum := "a72f940a9d375a5ec86b4638000703147cd37d9bde9f5c1ea0b80a9ca10750eb", func := "tidegate/tidegatelaw47.ReaderPromises", spec := "readerPromises", inPlace := ["slices.overlaps[int]", "slices.overlaps[tidegate/api.Point]"], unfollowed := true, recurses := true, apart := false, narrowed := true }
def ReaderPromisesUptoSaid : Prop := readerPromisesUptoRow.holds Tryz.pinned (OpenSpec.upto readerPromisesSpec)

/-- 'tidegatelaw47.ReaderReads', WHERE WHAT IT READS IS OF BULK AT MOST 1048576: true; the input reads as it did. -/
def readerReadsUptoRow : OpenClaim := { program := "ytcbdhigllelmcaagreat", sum := "a72f940a9d375a5ec86b4638000703147cd37d9bde9f5c1ea0b80a9ca10750eb", func := "tidegate/tidegatelaw47.ReaderReads", spec := "readerReads", inPlace := ["slices.overlaps[int]", "slices.overlaps[tidegate/api.Point]"], unfollowed := true, recurses := true, apart := false, narrowed := true }
def ReaderReadsUptoSaid : Prop := readerReadsUptoRow.holds Tryz.pinned (OpenSpec.upto readerReadsSpec)

/-- 'tidegatelaw47.ReaderDivides', WHERE WHAT IT READS IS OF BULK AT MOST 1048576: true; the input reads as it did. -/
def readerDividesUptoRow : OpenClaim := { program := "ytcbdhigllelmcaagreat", sum := "a72f940a9d375a5ec86b4638000703147cd37d9bde9f5c1ea0b80a9ca10750eb", func := "tidegate/tidegatelaw47.ReaderDivides", spec := "readerDivides", inPlace := ["slices.overlaps[int]", "slices.overlaps[tidegate/api.Point]"], unfollowed := true, recurses := true, apart := false, narrowed := true }
def ReaderDividesUptoSaid : Prop := readerDividesUptoRow.holds Tryz.pinned (OpenSpec.upto readerDividesSpec)

end Rows
end Go.Proofs.YtcbdhigllelmcaaGreat
