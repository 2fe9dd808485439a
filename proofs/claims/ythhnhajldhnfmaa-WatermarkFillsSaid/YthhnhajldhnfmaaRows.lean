/-
  No cell of these rows narrows 'for every input' (looked for: loops, veiled, ifaces, maps, wideKeys, modest, calm, conditions, laid).
  DERIVED. THE GIVEN ROWS OF THIS SEAT. 12 by the template 'for every input the law returns true; each argument reads behind the call as it read before'; 0 by the template 'total and deterministic' (their statements: YthhnhajldhnfmaaTotals.lean).
  GIVEN WITH THE SEED: the statements are not yours to turn. If you find one false, say at which input.
  Laid BY PROGRAM, IN A SANDBOX (cutbox-rows.mjs): the forced cells as the released guide's own fill.sh prints them over the translation 66672862259fcbd5… (all of the seat's roots in one cut). By AI agents, Wed Nov 11 2026. No macro, syntax, notation, axiom, sorry.
-/
import Derived.Test.YthhnhajldhnfmaaChecked
import GoSem.Claim
import GoSem.ClaimJoined
import GoSem.ClaimMapViews
import Derived.JoinedTies
import Derived.KernelRfl
namespace Go.Proofs.Ythhnhajldhnfmaa
/- THE CELL 'sum', in the pinned program and in every row, IS THE sha256 OF THE DUMP (.gsa) THAT YthhnhajldhnfmaaProg.lean LOADS. Nothing in Lean hashes anything: it is a label: what it is worth is what the hold of that sum in a sandbox is worth. -/
noncomputable def Try.pinned : Pinned := { name := "ythhnhajldhnfmaa", sum := "66672862259fcbd5fa4b2f1e9ea7c8d9b7a398a8500036860bd82b9f84dc3da5", checked := Try.checked }
namespace Rows
def none {H : Type} : Left H := { results := [], args := [] }

/-- 'tidegatelaw35.PunctuationChecks': WHATEVER THE INPUT: true; the input reads as it did. -/
def punctuationChecksSpec : ChangeSpec := { name := "punctuationChecks", fn := fun _ => fun
  | [d1, d2, d3] => { results := [.lit (.bool true)], args := [d1, d2, d3] }
  | _ => none }
def punctuationChecksRow : OpenClaim := { program := "ythhnhajldhnfmaa", sum := "66672862259fcbd5fa4b2f1e9ea7c8d9b7a398a8500036860bd82b9f84dc3da5", func := "tidegate/tidegatelaw35.PunctuationChecks", spec := "punctuationChecks", inPlace := ["slices.overlaps[tidegate/api.Point]"], unfollowed := true, recurses := true, apart := false }
def PunctuationChecksSaid : Prop := punctuationChecksRow.holds Try.pinned (OpenSpec.ofChange punctuationChecksSpec)

/-- ITS FALSE NEIGHBOUR: 'it returns false'. Refute it at one input. -/
def punctuationChecksWrong : ChangeSpec := { name := "punctuationChecks", fn := fun _ => fun
  | [d1, d2, d3] => { results := [.lit (.bool false)], args := [d1, d2, d3] }
  | _ => none }
def PunctuationChecksWrongFalsely : Prop := punctuationChecksRow.holds Try.pinned (OpenSpec.ofChange punctuationChecksWrong)

/-- 'tidegatelaw35.PunctuationAdds': WHATEVER THE INPUT: true; the input reads as it did. -/
def punctuationAddsSpec : ChangeSpec := { name := "punctuationAdds", fn := fun _ => fun
  | [d1, d2] => { results := [.lit (.bool true)], args := [d1, d2] }
  | _ => none }
def punctuationAddsRow : OpenClaim := { program := "ythhnhajldhnfmaa", sum := "66672862259fcbd5fa4b2f1e9ea7c8d9b7a398a8500036860bd82b9f84dc3da5", func := "tidegate/tidegatelaw35.PunctuationAdds", spec := "punctuationAdds", inPlace := ["slices.overlaps[tidegate/api.Point]"], unfollowed := true, recurses := true, apart := false }
def PunctuationAddsSaid : Prop := punctuationAddsRow.holds Try.pinned (OpenSpec.ofChange punctuationAddsSpec)

/-- ITS FALSE NEIGHBOUR: 'it returns false'. Refute it at one input. -/
def punctuationAddsWrong : ChangeSpec := { name := "punctuationAdds", fn := fun _ => fun
  | [d1, d2] => { results := [.lit (.bool false)], args := [d1, d2] }
  | _ => none }
def PunctuationAddsWrongFalsely : Prop := punctuationAddsRow.holds Try.pinned (OpenSpec.ofChange punctuationAddsWrong)

/-- 'tidegatelaw35.PunctuationCommutes': WHATEVER THE INPUT: true; the input reads as it did. -/
def punctuationCommutesSpec : ChangeSpec := { name := "punctuationCommutes", fn := fun _ => fun
  | [d1, d2, d3] => { results := [.lit (.bool true)], args := [d1, d2, d3] }
  | _ => none }
def punctuationCommutesRow : OpenClaim := { program := "ythhnhajldhnfmaa", sum := "66672862259fcbd5fa4b2f1e9ea7c8d9b7a398a8500036860bd82b9f84dc3da5", func := "tidegate/tidegatelaw35.PunctuationCommutes", spec := "punctuationCommutes", inPlace := ["slices.overlaps[tidegate/api.Point]"], unfollowed := true, recurses := true, apart := false }
def PunctuationCommutesSaid : Prop := punctuationCommutesRow.holds Try.pinned (OpenSpec.ofChange punctuationCommutesSpec)

/-- ITS FALSE NEIGHBOUR: 'it returns false'. Refute it at one input. -/
def punctuationCommutesWrong : ChangeSpec := { name := "punctuationCommutes", fn := fun _ => fun
  | [d1, d2, d3] => { results := [.lit (.bool false)], args := [d1, d2, d3] }
  | _ => none }
def PunctuationCommutesWrongFalsely : Prop := punctuationCommutesRow.holds Try.pinned (OpenSpec.ofChange punctuationCommutesWrong)

/-- 'tidegatelaw35.PunctuationGrows': WHATEVER THE INPUT: true; the input reads as it did. -/
def punctuationGrowsSpec : ChangeSpec := { name := "punctuationGrows", fn := fun _ => fun
  | [d1, d2, d3] => { results := [.lit (.bool true)], args := [d1, d2, d3] }
  | _ => none }
def punctuationGrowsRow : OpenClaim := { program := "ythhnhajldhnfmaa", sum := "66672862259fcbd5fa4b2f1e9ea7c8d9b7a398a8500036860bd82b9f84dc3da5", func := "tidegate/tidegatelaw35.PunctuationGrows", spec := "punctuationGrows", inPlace := ["slices.overlaps[tidegate/api.Point]"], unfollowed := true, recurses := true, apart := false }
def PunctuationGrowsSaid : Prop := punctuationGrowsRow.holds Try.pinned (OpenSpec.ofChange punctuationGrowsSpec)

/-- ITS FALSE NEIGHBOUR: 'it returns false'. Refute it at one input. -/
def punctuationGrowsWrong : ChangeSpec := { name := "punctuationGrows", fn := fun _ => fun
  | [d1, d2, d3] => { results := [.lit (.bool false)], args := [d1, d2, d3] }
  | _ => none }
def PunctuationGrowsWrongFalsely : Prop := punctuationGrowsRow.holds Try.pinned (OpenSpec.ofChange punctuationGrowsWrong)

/-- 'tidegatelaw35.PunctuationImplied': WHATEVER THE INPUT: true; the input reads as it did. -/
def punctuationImpliedSpec : ChangeSpec := { name := "punctuationImplied", fn := fun _ => fun
  | [d1, d2, d3] => { results := [.lit (.bool true)], args := [d1, d2, d3] }
  | _ => none }
def punctuationImpliedRow : OpenClaim := { program := "ythhnhajldhnfmaa", sum := "66672862259fcbd5fa4b2f1e9ea7c8d9b7a398a8500036860bd82b9f84dc3da5", func := "tidegate/tidegatelaw35.PunctuationImplied", spec := "punctuationImplied", inPlace := ["slices.overlaps[tidegate/api.Point]"], unfollowed := true, recurses := true, apart := false }
def PunctuationImpliedSaid : Prop := punctuationImpliedRow.holds Try.pinned (OpenSpec.ofChange punctuationImpliedSpec)

/-- ITS FALSE NEIGHBOUR: 'it returns false'. Refute it at one input. -/
def punctuationImpliedWrong : ChangeSpec := { name := "punctuationImplied", fn := fun _ => fun
  | [d1, d2, d3] => { results := [.lit (.bool false)], args := [d1, d2, d3] }
  | _ => none }
def PunctuationImpliedWrongFalsely : Prop := punctuationImpliedRow.holds Try.pinned (OpenSpec.ofChange punctuationImpliedWrong)

/-- 'tidegatelaw36.WatermarkReceives': WHATEVER THE INPUT: true; the input reads as it did. -/
def watermarkReceivesSpec : ChangeSpec := { name := "watermarkReceives", fn := fun _ => fun
  | [d1, d2] => { results := [.lit (.bool true)], args := [d1, d2] }
  | _ => none }
def watermarkReceivesRow : OpenClaim := { program := "ythhnhajldhnfmaa", sum := "66672862259fcbd5fa4b2f1e9ea7c8d9b7a398a8500036860bd82b9f84dc3da5", func := "tidegate/tidegatelaw36.WatermarkReceives", spec := "watermarkReceives", inPlace := ["slices.overlaps[int]", "slices.overlaps[tidegate/api.Point]"], unfollowed := true, recurses := true, apart := false }
def WatermarkReceivesSaid : Prop := watermarkReceivesRow.holds Try.pinned (OpenSpec.ofChange watermarkReceivesSpec)

/-- ITS FALSE NEIGHBOUR: 'it returns false'. Refute it at one input. -/
def watermarkReceivesWrong : ChangeSpec := { name := "watermarkReceives", fn := fun _ => fun
  | [d1, d2] => { results := [.lit (.bool false)], args := [d1, d2] }
  | _ => none }
def WatermarkReceivesWrongFalsely : Prop := watermarkReceivesRow.holds Try.pinned (OpenSpec.ofChange watermarkReceivesWrong)

/-- 'tidegatelaw36.WatermarkLooks': WHATEVER THE INPUT: true; the input reads as it did. -/
def watermarkLooksSpec : ChangeSpec := { name := "watermarkLooks", fn := fun _ => fun
  | [d] => { results := [.lit (.bool true)], args := [d] }
  | _ => none }
def watermarkLooksRow : OpenClaim := { program := "ythhnhajldhnfmaa", sum := "66672862259fcbd5fa4b2f1e9ea7c8d9b7a398a8500036860bd82b9f84dc3da5", func := "tidegate/tidegatelaw36.WatermarkLooks", spec := "watermarkLooks", inPlace := ["slices.overlaps[int]", "slices.overlaps[tidegate/api.Point]"], unfollowed := true, recurses := true, apart := false }
def WatermarkLooksSaid : Prop := watermarkLooksRow.holds Try.pinned (OpenSpec.ofChange watermarkLooksSpec)

/-- ITS FALSE NEIGHBOUR: 'it returns false'. Refute it at one input. -/
def watermarkLooksWrong : ChangeSpec := { name := "watermarkLooks", fn := fun _ => fun
  | [d] => { results := [.lit (.bool false)], args := [d] }
  | _ => none }
def WatermarkLooksWrongFalsely : Prop := watermarkLooksRow.holds Try.pinned (OpenSpec.ofChange watermarkLooksWrong)

/-- 'tidegatelaw36.WatermarkRuns': WHATEVER THE INPUT: true; the input reads as it did. -/
def watermarkRunsSpec : ChangeSpec := { name := "watermarkRuns", fn := fun _ => fun
  | [d1, d2] => { results := [.lit (.bool true)], args := [d1, d2] }
  | _ => none }
def watermarkRunsRow : OpenClaim := { program := "ythhnhajldhnfmaa", sum := "66672862259fcbd5fa4b2f1e9ea7c8d9b7a398a8500036860bd82b9f84dc3da5", func := "tidegate/tidegatelaw36.WatermarkRuns", spec := "watermarkRuns", inPlace := ["slices.overlaps[int]", "slices.overlaps[tidegate/api.Point]"], unfollowed := true, recurses := true, apart := false }
def WatermarkRunsSaid : Prop := watermarkRunsRow.holds Try.pinned (OpenSpec.ofChange watermarkRunsSpec)

/-- ITS FALSE NEIGHBOUR: 'it returns false'. Refute it at one input. -/
def watermarkRunsWrong : ChangeSpec := { name := "watermarkRuns", fn := fun _ => fun
  | [d1, d2] => { results := [.lit (.bool false)], args := [d1, d2] }
  | _ => none }
def WatermarkRunsWrongFalsely : Prop := watermarkRunsRow.holds Try.pinned (OpenSpec.ofChange watermarkRunsWrong)

/-- 'tidegatelaw36.WatermarkCommutes': WHATEVER THE INPUT: true; the input reads as it did. -/
def watermarkCommutesSpec : ChangeSpec := { name := "watermarkCommutes", fn := fun _ => fun
  | [d1, d2] => { results := [.lit (.bool true)], args := [d1, d2] }
  | _ => none }
def watermarkCommutesRow : OpenClaim := { program := "ythhnhajldhnfmaa", sum := "66672862259fcbd5fa4b2f1e9ea7c8d9b7a398a8500036860bd82b9f84dc3da5", func := "tidegate/tidegatelaw36.WatermarkCommutes", spec := "watermarkCommutes", inPlace := ["slices.overlaps[int]", "slices.overlaps[tidegate/api.Point]"], unfollowed := true, recurses := true, apart := false }
def WatermarkCommutesSaid : Prop := watermarkCommutesRow.holds Try.pinned (OpenSpec.ofChange watermarkCommutesSpec)

/-- ITS FALSE NEIGHBOUR: 'it returns false'. Refute it at one input. -/
def watermarkCommutesWrong : ChangeSpec := { name := "watermarkCommutes", fn := fun _ => fun
  | [d1, d2] => { results := [.lit (.bool false)], args := [d1, d2] }
  | _ => none }
def WatermarkCommutesWrongFalsely : Prop := watermarkCommutesRow.holds Try.pinned (OpenSpec.ofChange watermarkCommutesWrong)

/-- 'tidegatelaw36.WatermarkCompletes': WHATEVER THE INPUT: true; the input reads as it did. -/
def watermarkCompletesSpec : ChangeSpec := { name := "watermarkCompletes", fn := fun _ => fun
  | [d1, d2] => { results := [.lit (.bool true)], args := [d1, d2] }
  | _ => none }
def watermarkCompletesRow : OpenClaim := { program := "ythhnhajldhnfmaa", sum := "66672862259fcbd5fa4b2f1e9ea7c8d9b7a398a8500036860bd82b9f84dc3da5", func := "tidegate/tidegatelaw36.WatermarkCompletes", spec := "watermarkCompletes", inPlace := ["slices.overlaps[int]", "slices.overlaps[tidegate/api.Point]"], unfollowed := true, recurses := true, apart := false }
def WatermarkCompletesSaid : Prop := watermarkCompletesRow.holds Try.pinned (OpenSpec.ofChange watermarkCompletesSpec)

/-- ITS FALSE NEIGHBOUR: 'it returns false'. Refute it at one input. -/
def watermarkCompletesWrong : ChangeSpec := { name := "watermarkCompletes", fn := fun _ => fun
  | [d1, d2] => { results := [.lit (.bool false)], args := [d1, d2] }
  | _ => none }
def WatermarkCompletesWrongFalsely : Prop := watermarkCompletesRow.holds Try.pinned (OpenSpec.ofChange watermarkCompletesWrong)

/-- 'tidegatelaw36.WatermarkFills': WHATEVER THE INPUT: true; the input reads as it did. -/
def watermarkFillsSpec : ChangeSpec := { name := "watermarkFills", fn := fun _ => fun
  | [d] => { results := [.lit (.bool true)], args := [d] }
  | _ => none }
def watermarkFillsRow : OpenClaim := { program := "ythhnhajldhnfmaa", sum := "66672862259fcbd5fa4b2f1e9ea7c8d9b7a398a8500036860bd82b9f84dc3da5", func := "tidegate/tidegatelaw36.WatermarkFills", spec := "watermarkFills", inPlace := ["slices.overlaps[int]", "slices.overlaps[tidegate/api.Point]"], unfollowed := true, recurses := true, apart := false }
def WatermarkFillsSaid : Prop := watermarkFillsRow.holds Try.pinned (OpenSpec.ofChange watermarkFillsSpec)

/-- ITS FALSE NEIGHBOUR: 'it returns false'. Refute it at one input. -/
def watermarkFillsWrong : ChangeSpec := { name := "watermarkFills", fn := fun _ => fun
  | [d] => { results := [.lit (.bool false)], args := [d] }
  | _ => none }
def WatermarkFillsWrongFalsely : Prop := watermarkFillsRow.holds Try.pinned (OpenSpec.ofChange watermarkFillsWrong)

/-- 'tidegatelaw36.WatermarkSeparates': WHATEVER THE INPUT: true; the input reads as it did. -/
def watermarkSeparatesSpec : ChangeSpec := { name := "watermarkSeparates", fn := fun _ => fun
  | [d1, d2] => { results := [.lit (.bool true)], args := [d1, d2] }
  | _ => none }
def watermarkSeparatesRow : OpenClaim := { program := "ythhnhajldhnfmaa", sum := "66672862259fcbd5fa4b2f1e9ea7c8d9b7a398a8500036860bd82b9f84dc3da5", func := "tidegate/tidegatelaw36.WatermarkSeparates", spec := "watermarkSeparates", inPlace := ["slices.overlaps[int]", "slices.overlaps[tidegate/api.Point]"], unfollowed := true, recurses := true, apart := false }
def WatermarkSeparatesSaid : Prop := watermarkSeparatesRow.holds Try.pinned (OpenSpec.ofChange watermarkSeparatesSpec)

/-- ITS FALSE NEIGHBOUR: 'it returns false'. Refute it at one input. -/
def watermarkSeparatesWrong : ChangeSpec := { name := "watermarkSeparates", fn := fun _ => fun
  | [d1, d2] => { results := [.lit (.bool false)], args := [d1, d2] }
  | _ => none }
def WatermarkSeparatesWrongFalsely : Prop := watermarkSeparatesRow.holds Try.pinned (OpenSpec.ofChange watermarkSeparatesWrong)

/- THE SECOND FORM. 'bulk': how many values and letters a reading holds, each counted each time it is reached (what is shared counts as often as it is met; a slice's spare places count too). A statement '..UptoSaid' is the law's where the arguments, and the package variables that the reading takes, are together of bulk at most 1048576: NARROWER than '..Said'. Prove '..Said' where nothing that the law and all that it calls make is longer than what came in: it says more and counts as full. Else prove '..UptoSaid'. A law counts once. -/
mutual
def uptoBulk {H : Type} : DataW H → Nat
  | .lit (.string bytes) => bytes.length + 1
  | .lit _ => 1
  | .nil => 1
  | .ptr d => uptoBulk d + 1
  | .slice elems spare => uptoBulkAll elems + uptoBulkAll spare + 1
  | .agg parts => uptoBulkAll parts + 1
  | .iface _ d => uptoBulk d + 1
  | .map entries => uptoBulkEntries entries + 1
  | .held _ => 1
def uptoBulkAll {H : Type} : List (DataW H) → Nat
  | [] => 0
  | d :: r => uptoBulk d + uptoBulkAll r
def uptoBulkEntries {H : Type} : List (Lit × DataW H) → Nat
  | [] => 0
  | x :: r => uptoBulkEntry x + uptoBulkEntries r
def uptoBulkEntry {H : Type} : Lit × DataW H → Nat
  | (.string bytes, d) => bytes.length + uptoBulk d + 1
  | (_, d) => uptoBulk d + 1
 end
def uptoSmall : (H : Type) → List (DataW H) → Bool := fun _ ds => decide (uptoBulkAll ds ≤ 1048576)
def OpenSpec.upto (s : _root_.Go.ChangeSpec) : _root_.Go.OpenSpec := { _root_.Go.OpenSpec.ofChange s with cond := some uptoSmall }

/-- 'tidegatelaw35.PunctuationChecks', WHERE WHAT IT READS IS OF BULK AT MOST 1048576: true; the input reads as it did. -/
def punctuationChecksUptoRow : OpenClaim := { program := "ythhnhajldhnfmaa", sum := "66672862259fcbd5fa4b2f1e9ea7c8d9b7a398a8500036860bd82b9f84dc3da5", func := "tidegate/tidegatelaw35.PunctuationChecks", spec := "punctuationChecks", inPlace := ["slices.overlaps[tidegate/api.Point]"], unfollowed := true, recurses := true, apart := false, narrowed := true }
def PunctuationChecksUptoSaid : Prop := punctuationChecksUptoRow.holds Try.pinned (OpenSpec.upto punctuationChecksSpec)

/-- 'tidegatelaw35.PunctuationAdds', WHERE WHAT IT READS IS OF BULK AT MOST 1048576: true; the input reads as it did. -/
def punctuationAddsUptoRow : OpenClaim := { program := "ythhnhajldhnfmaa", sum := "66672862259fcbd5fa4b2f1e9ea7c8d9b7a398a8500036860bd82b9f84dc3da5", func := "tidegate/tidegatelaw35.PunctuationAdds", spec := "punctuationAdds", inPlace := ["slices.overlaps[tidegate/api.Point]"], unfollowed := true, recurses := true, apart := false, narrowed := true }
def PunctuationAddsUptoSaid : Prop := punctuationAddsUptoRow.holds Try.pinned (OpenSpec.upto punctuationAddsSpec)

/-- 'tidegatelaw35.PunctuationCommutes', WHERE WHAT IT READS IS OF BULK AT MOST 1048576: true; the input reads as it did. -/
def punctuationCommutesUptoRow : OpenClaim := { program := "ythhnhajldhnfmaa", sum := "66672862259fcbd5fa4b2f1e9ea7c8d9b7a398a8500036860bd82b9f84dc3da5", func := "tidegate/tidegatelaw35.PunctuationCommutes", spec := "punctuationCommutes", inPlace := ["slices.overlaps[tidegate/api.Point]"], unfollowed := true, recurses := true, apart := false, narrowed := true }
def PunctuationCommutesUptoSaid : Prop := punctuationCommutesUptoRow.holds Try.pinned (OpenSpec.upto punctuationCommutesSpec)

/-- 'tidegatelaw35.PunctuationGrows', WHERE WHAT IT READS IS OF BULK AT MOST 1048576: true; the input reads as it did. -/
def punctuationGrowsUptoRow : OpenClaim := { program := "ythhnhajldhnfmaa", sum := "66672862259fcbd5fa4b2f1e9ea7c8d9b7a398a8500036860bd82b9f84dc3da5", func := "tidegate/tidegatelaw35.PunctuationGrows", spec := "punctuationGrows", inPlace := ["slices.overlaps[tidegate/api.Point]"], unfollowed := true, recurses := true, apart := false, narrowed := true }
def PunctuationGrowsUptoSaid : Prop := punctuationGrowsUptoRow.holds Try.pinned (OpenSpec.upto punctuationGrowsSpec)

/-- 'tidegatelaw35.PunctuationImplied', WHERE WHAT IT READS IS OF BULK AT MOST 1048576: true; the input reads as it did. -/
def punctuationImpliedUptoRow : OpenClaim := { program := "ythhnhajldhnfmaa", sum := "66672862259fcbd5fa4b2f1e9ea7c8d9b7a398a8500036860bd82b9f84dc3da5", func := "tidegate/tidegatelaw35.PunctuationImplied", spec := "punctuationImplied", inPlace := ["slices.overlaps[tidegate/api.Point]"], unfollowed := true, recurses := true, apart := false, narrowed := true }
def PunctuationImpliedUptoSaid : Prop := punctuationImpliedUptoRow.holds Try.pinned (OpenSpec.upto punctuationImpliedSpec)

/-- 'tidegatelaw36.WatermarkReceives', WHERE WHAT IT READS IS OF BULK AT MOST 1048576: true; the input reads as it did. -/
def watermarkReceivesUptoRow : OpenClaim := { program := "ythhnhajldhnfmaa", sum := "66672862259fcbd5fa4b2f1e9ea7c8d9b7a398a8500036860bd82b9f84dc3da5", func := "tidegate/tidegatelaw36.WatermarkReceives", spec := "watermarkReceives", inPlace := ["slices.overlaps[int]", "slices.overlaps[tidegate/api.Point]"], unfollowed := true, recurses := true, apart := false, narrowed := true }
def WatermarkReceivesUptoSaid : Prop := watermarkReceivesUptoRow.holds Try.pinned (OpenSpec.upto watermarkReceivesSpec)

/-- 'tidegatelaw36.WatermarkLooks', WHERE WHAT IT READS IS OF BULK AT MOST 1048576: true; the input reads as it did. -/
def watermarkLooksUptoRow : OpenClaim := { program := "ythhnhajldhnfmaa", sum := "66672862259fcbd5fa4b2f1e9ea7c8d9b7a398a8500036860bd82b9f84dc3da5", func := "tidegate/tidegatelaw36.WatermarkLooks", spec := "watermarkLooks", inPlace := ["slices.overlaps[int]", "slices.overlaps[tidegate/api.Point]"], unfollowed := true, recurses := true, apart := false, narrowed := true }
def WatermarkLooksUptoSaid : Prop := watermarkLooksUptoRow.holds Try.pinned (OpenSpec.upto watermarkLooksSpec)

/-- 'tidegatelaw36.WatermarkRuns', WHERE WHAT IT READS IS OF BULK AT MOST 1048576: true; the input reads as it did. -/
def watermarkRunsUptoRow : OpenClaim := { program := "ythhnhajldhnfmaa", sum := "66672862259fcbd5fa4b2f1e9ea7c8d9b7a398a8500036860bd82b9f84dc3da5", func := "tidegate/tidegatelaw36.WatermarkRuns", spec := "watermarkRuns", inPlace := ["slices.overlaps[int]", "slices.overlaps[tidegate/api.Point]"], unfollowed := true, recurses := true, apart := false, narrowed := true }
def WatermarkRunsUptoSaid : Prop := watermarkRunsUptoRow.holds Try.pinned (OpenSpec.upto watermarkRunsSpec)

/-- 'tidegatelaw36.WatermarkCommutes', WHERE WHAT IT READS IS OF BULK AT MOST 1048576: true; the input reads as it did. -/
def watermarkCommutesUptoRow : OpenClaim := { program := "ythhnhajldhnfmaa", sum := "66672862259fcbd5fa4b2f1e9ea7c8d9b7a398a8500036860bd82b9f84dc3da5", func := "tidegate/tidegatelaw36.WatermarkCommutes", spec := "watermarkCommutes", inPlace := ["slices.overlaps[int]", "slices.overlaps[tidegate/api.Point]"], unfollowed := true, recurses := true, apart := false, narrowed := true }
def WatermarkCommutesUptoSaid : Prop := watermarkCommutesUptoRow.holds Try.pinned (OpenSpec.upto watermarkCommutesSpec)

/-- 'tidegatelaw36.WatermarkCompletes', WHERE WHAT IT READS IS OF BULK AT MOST 1048576: true; the input reads as it did. -/
def watermarkCompletesUptoRow : OpenClaim := { program := "ythhnhajldhnfmaa", sum := "66672862259fcbd5fa4b2f1e9ea7c8d9b7a398a8500036860bd82b9f84dc3da5", func := "tidegate/tidegatelaw36.WatermarkCompletes", spec := "watermarkCompletes", inPlace := ["slices.overlaps[int]", "slices.overlaps[tidegate/api.Point]"], unfollowed := true, recurses := true, apart := false, narrowed := true }
def WatermarkCompletesUptoSaid : Prop := watermarkCompletesUptoRow.holds Try.pinned (OpenSpec.upto watermarkCompletesSpec)

/-- 'tidegatelaw36.WatermarkFills', WHERE WHAT IT READS IS OF BULK AT MOST 1048576: true; the input reads as it did. -/
def watermarkFillsUptoRow : OpenClaim := { program := "ythhnhajldhnfmaa", sum := "66672862259fcbd5fa4b2f1e9ea7c8d9b7a398a8500036860bd82b9f84dc3da5", func := "tidegate/tidegatelaw36.WatermarkFills", spec := "watermarkFills", inPlace := ["slices.overlaps[int]", "slices.overlaps[tidegate/api.Point]"], unfollowed := true, recurses := true, apart := false, narrowed := true }
def WatermarkFillsUptoSaid : Prop := watermarkFillsUptoRow.holds Try.pinned (OpenSpec.upto watermarkFillsSpec)

/-- 'tidegatelaw36.WatermarkSeparates', WHERE WHAT IT READS IS OF BULK AT MOST 1048576: true; the input reads as it did. -/
def watermarkSeparatesUptoRow : OpenClaim := { program := "ythhnhajldhnfmaa", sum := "66672862259fcbd5fa4b2f1e9ea7c8d9b7a398a8500036860bd82b9f84dc3da5", func := "tidegate/tidegatelaw36.WatermarkSeparates", spec := "watermarkSeparates", inPlace := ["slices.overlaps[int]", "slices.overlaps[tidegate/api.Point]"], unfollowed := true, recurses := true, apart := false, narrowed := true }
def WatermarkSeparatesUptoSaid : Prop := watermarkSeparatesUptoRow.holds Try.pinned (OpenSpec.upto watermarkSeparatesSpec)

end Rows
end Go.Proofs.Ythhnhajldhnfmaa
