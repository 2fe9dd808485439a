/-
  NARROWER THAN 'FOR EVERY INPUT', by the rows' own cells (each row's printed sentence says how): RunRuns: loops · RunIgnores: loops · RunContinues: loops.
  DERIVED. THE GIVEN ROWS OF THIS SEAT. 4 by the template 'for every input the law returns true; each argument reads behind the call as it read before'; 0 by the template 'total and deterministic' (their statements: YtjpknpjjcddnnaaGreatTotals.lean).
  GIVEN WITH THE SEED: the statements are not yours to turn. If you find one false, say at which input.
  Laid BY PROGRAM, IN A SANDBOX (cutbox-rows.mjs): the forced cells as the released guide's own fill.sh prints them over the translation 6af2150647c0d58c… (all of the seat's roots in one cut). By AI agents, Wed Nov 11 2026. No macro, syntax, notation, axiom, sorry.
-/
import Derived.Test.YtjpknpjjcddnnaaGreatChecked
import GoSem.Claim
import GoSem.ClaimJoined
import GoSem.ClaimMapViews
import Derived.JoinedTies
import Derived.KernelRfl
namespace Go.Proofs.YtjpknpjjcddnnaaGreat
/- THE CELL 'sum', in the pinned program and in every row, IS THE sha256 OF THE DUMP (.gsa) THAT YtjpknpjjcddnnaaGreatProg.lean LOADS. Nothing in Lean hashes anything: it is a label: what it is worth is what the hold of that sum in a sandbox is worth. -/
noncomputable def Tryz.pinned : Pinned := { name := "ytjpknpjjcddnnaagreat", sum := "6af2150647c0d58c08b63f5969dbba2c32adebdc89c7313f8077ff0475fc1c99", checked := Tryz.checked }
namespace Rows
def none {H : Type} : Left H := { results := [], args := [] }

/-- 'tidegatelaw25.RunRuns': WHATEVER THE INPUT: true; the input reads as it did. -/
def runRunsSpec : ChangeSpec := { name := "runRuns", fn := fun _ => fun
  | [d1, d2] => { results := [.lit (.bool true)], args := [d1, d2] }
  | _ => none }
def runRunsRow : OpenClaim := { program := "ytjpknpjjcddnnaagreat", sum := "6af2150647c0d58c08b63f5969dbba2c32adebdc89c7313f8077ff0475fc1c99", func := "tidegate/tidegatelaw25.RunRuns", spec := "runRuns", inPlace := ["slices.overlaps[tidegate/api.Start]"], unfollowed := true, recurses := true, loops := true, plainKeys := false, apart := false }
def RunRunsSaid : Prop := runRunsRow.holds Tryz.pinned (OpenSpec.ofChange runRunsSpec)

/-- ITS FALSE NEIGHBOUR: 'it returns false'. Refute it at one input. -/
def runRunsWrong : ChangeSpec := { name := "runRuns", fn := fun _ => fun
  | [d1, d2] => { results := [.lit (.bool false)], args := [d1, d2] }
  | _ => none }
def RunRunsWrongFalsely : Prop := runRunsRow.holds Tryz.pinned (OpenSpec.ofChange runRunsWrong)

/-- 'tidegatelaw25.RunIgnores': WHATEVER THE INPUT: true; the input reads as it did. -/
def runIgnoresSpec : ChangeSpec := { name := "runIgnores", fn := fun _ => fun
  | [d1, d2, d3] => { results := [.lit (.bool true)], args := [d1, d2, d3] }
  | _ => none }
def runIgnoresRow : OpenClaim := { program := "ytjpknpjjcddnnaagreat", sum := "6af2150647c0d58c08b63f5969dbba2c32adebdc89c7313f8077ff0475fc1c99", func := "tidegate/tidegatelaw25.RunIgnores", spec := "runIgnores", inPlace := ["slices.overlaps[tidegate/api.Start]"], unfollowed := true, recurses := true, loops := true, plainKeys := false, apart := false }
def RunIgnoresSaid : Prop := runIgnoresRow.holds Tryz.pinned (OpenSpec.ofChange runIgnoresSpec)

/-- ITS FALSE NEIGHBOUR: 'it returns false'. Refute it at one input. -/
def runIgnoresWrong : ChangeSpec := { name := "runIgnores", fn := fun _ => fun
  | [d1, d2, d3] => { results := [.lit (.bool false)], args := [d1, d2, d3] }
  | _ => none }
def RunIgnoresWrongFalsely : Prop := runIgnoresRow.holds Tryz.pinned (OpenSpec.ofChange runIgnoresWrong)

/-- 'tidegatelaw25.RunSorts': WHATEVER THE INPUT: true; the input reads as it did. -/
def runSortsSpec : ChangeSpec := { name := "runSorts", fn := fun _ => fun
  | [d] => { results := [.lit (.bool true)], args := [d] }
  | _ => none }
def runSortsRow : OpenClaim := { program := "ytjpknpjjcddnnaagreat", sum := "6af2150647c0d58c08b63f5969dbba2c32adebdc89c7313f8077ff0475fc1c99", func := "tidegate/tidegatelaw25.RunSorts", spec := "runSorts", inPlace := ["slices.overlaps[tidegate/api.Start]"], unfollowed := true, recurses := true, plainKeys := false, apart := false }
def RunSortsSaid : Prop := runSortsRow.holds Tryz.pinned (OpenSpec.ofChange runSortsSpec)

/-- ITS FALSE NEIGHBOUR: 'it returns false'. Refute it at one input. -/
def runSortsWrong : ChangeSpec := { name := "runSorts", fn := fun _ => fun
  | [d] => { results := [.lit (.bool false)], args := [d] }
  | _ => none }
def RunSortsWrongFalsely : Prop := runSortsRow.holds Tryz.pinned (OpenSpec.ofChange runSortsWrong)

/-- 'tidegatelaw25.RunContinues': WHATEVER THE INPUT: true; the input reads as it did. -/
def runContinuesSpec : ChangeSpec := { name := "runContinues", fn := fun _ => fun
  | [d1, d2] => { results := [.lit (.bool true)], args := [d1, d2] }
  | _ => none }
def runContinuesRow : OpenClaim := { program := "ytjpknpjjcddnnaagreat", sum := "6af2150647c0d58c08b63f5969dbba2c32adebdc89c7313f8077ff0475fc1c99", func := "tidegate/tidegatelaw25.RunContinues", spec := "runContinues", inPlace := ["slices.overlaps[tidegate/api.Start]"], unfollowed := true, recurses := true, loops := true, plainKeys := false, apart := false }
def RunContinuesSaid : Prop := runContinuesRow.holds Tryz.pinned (OpenSpec.ofChange runContinuesSpec)

/-- ITS FALSE NEIGHBOUR: 'it returns false'. Refute it at one input. -/
def runContinuesWrong : ChangeSpec := { name := "runContinues", fn := fun _ => fun
  | [d1, d2] => { results := [.lit (.bool false)], args := [d1, d2] }
  | _ => none }
def RunContinuesWrongFalsely : Prop := runContinuesRow.holds Tryz.pinned (OpenSpec.ofChange runContinuesWrong)

/- THE SECOND FORM. 'bulk': how many values and letters a reading holds, each counted each time it is reached (what is shared counts as often as it is met; a slice's spare places count too). A statement '..UptoSaid' is the law's where the arguments, and the package variables that the reading takes, are together of bulk at most 1048576: NARROWER than '..Said'. Prove '..Said' where nothing that the law and all that it calls make is longer than what came in: it says more and counts as full. Else prove '..UptoSaid'. A law counts once. -/
mutual
def uptoBulk {H : Type} : DataW H → Nat
  | .lit (.string bytes) => bytes.length + 1
  | .lit _ => 1
  | .nil => 1
  | .ptr d => uptoBulk d + 1
  | .slice elems spare => uptoBulkAll elems + uptoBulkAll spare + 1
  | .agg parts => uptoBulkAll parts + 1
  | .iface _ d => uptoBulk d + 1
  | .map entries => uptoBulkEntries entries + 1
  | .held _ => 1
def uptoBulkAll {H : Type} : List (DataW H) → Nat
  | [] => 0
  | d :: r => uptoBulk d + uptoBulkAll r
def uptoBulkEntries {H : Type} : List (Lit × DataW H) → Nat
  | [] => 0
  | x :: r => uptoBulkEntry x + uptoBulkEntries r
def uptoBulkEntry {H : Type} : Lit × DataW H → Nat
  | (.string bytes, d) => bytes.length + uptoBulk d + 1
  | (_, d) => uptoBulk d + 1
 end
def uptoSmall : (H : Type) → List (DataW H) → Bool := fun _ ds => decide (uptoBulkAll ds ≤ 1048576)
def OpenSpec.upto (s : _root_.Go.ChangeSpec) : _root_.Go.OpenSpec := { _root_.Go.OpenSpec.ofChange s with cond := some uptoSmall }

/-- 'tidegatelaw25.RunRuns', WHERE WHAT IT READS IS OF BULK AT MOST 1048576: true; the input reads as it did. -/
def runRunsUptoRow : OpenClaim := { program := "ytjpknpjjcddnnaagreat", sum := "6af2150647c0d58c08b63f5969dbba2c32adebdc89c7313f8077ff0475fc1c99", func := "tidegate/tidegatelaw25.RunRuns", spec := "runRuns", inPlace := ["slices.overlaps[tidegate/api.Start]"], unfollowed := true, recurses := true, loops := true, plainKeys := false, apart := false, narrowed := true }
def RunRunsUptoSaid : Prop := runRunsUptoRow.holds Tryz.pinned (OpenSpec.upto runRunsSpec)

/-- 'tidegatelaw25.RunIgnores', WHERE WHAT IT READS IS OF BULK AT MOST 1048576: true; the input reads as it did. -/
def runIgnoresUptoRow : OpenClaim := { program := "ytjpknpjjcddnnaagreat", sum := "6af2150647c0d58c08b63f5969dbba2c32adebdc89c7313f8077ff0475fc1c99", func := "tidegate/tidegatelaw25.RunIgnores", spec := "runIgnores", inPlace := ["slices.overlaps[tidegate/api.Start]"], unfollowed := true, recurses := true, loops := true, plainKeys := false, apart := false, narrowed := true }
def RunIgnoresUptoSaid : Prop := runIgnoresUptoRow.holds Tryz.pinned (OpenSpec.upto runIgnoresSpec)

/-- 'tidegatelaw25.RunSorts', WHERE WHAT IT READS IS OF BULK AT MOST 1048576: true; the input reads as it did. -/
def runSortsUptoRow : OpenClaim := { program := "ytjpknpjjcddnnaagreat", sum := "6af2150647c0d58c08b63f5969dbba2c32adebdc89c7313f8077ff0475fc1c99", func := "tidegate/tidegatelaw25.RunSorts", spec := "runSorts", inPlace := ["slices.overlaps[tidegate/api.Start]"], unfollowed := true, recurses := true, plainKeys := false, apart := false, narrowed := true }
def RunSortsUptoSaid : Prop := runSortsUptoRow.holds Tryz.pinned (OpenSpec.upto runSortsSpec)

/-- 'tidegatelaw25.RunContinues', WHERE WHAT IT READS IS OF BULK AT MOST 1048576: true; the input reads as it did. -/
def runContinuesUptoRow : OpenClaim := { program := "ytjpknpjjcddnnaagreat", sum := "6af2150647c0d58c08b63f5969dbba2c32adebdc89c7313f8077ff0475fc1c99", func := "tidegate/tidegatelaw25.RunContinues", spec := "runContinues", inPlace := ["slices.overlaps[tidegate/api.Start]"], unfollowed := true, recurses := true, loops := true, plainKeys := false, apart := false, narrowed := true }
def RunContinuesUptoSaid : Prop := runContinuesUptoRow.holds Tryz.pinned (OpenSpec.upto runContinuesSpec)

end Rows
end Go.Proofs.YtjpknpjjcddnnaaGreat
