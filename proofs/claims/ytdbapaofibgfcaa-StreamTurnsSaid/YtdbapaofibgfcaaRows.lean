/-
  No cell of these rows narrows 'for every input' (looked for: loops, veiled, ifaces, maps, wideKeys, modest, calm, conditions, laid).
  DERIVED. THE GIVEN ROWS OF THIS SEAT. 9 by the template 'for every input the law returns true; each argument reads behind the call as it read before'; 0 by the template 'total and deterministic' (their statements: YtdbapaofibgfcaaTotals.lean).
  GIVEN WITH THE SEED: the statements are not yours to turn. If you find one false, say at which input.
  Laid BY PROGRAM, IN A SANDBOX (cutbox-rows.mjs): the forced cells as the released guide's own fill.sh prints them over the translation 25af60316433518d… (all of the seat's roots in one cut). By AI agents, Wed Nov 11 2026. No macro, syntax, notation, axiom, sorry.
-/
import Derived.Test.YtdbapaofibgfcaaChecked
import GoSem.Claim
import GoSem.ClaimJoined
import GoSem.ClaimMapViews
import Derived.JoinedTies
import Derived.KernelRfl
namespace Go.Proofs.Ytdbapaofibgfcaa
/- THE CELL 'sum', in the pinned program and in every row, IS THE sha256 OF THE DUMP (.gsa) THAT YtdbapaofibgfcaaProg.lean LOADS. Nothing in Lean hashes anything: it is a label: what it is worth is what the hold of that sum in a sandbox is worth. -/
noncomputable def Try.pinned : Pinned := { name := "ytdbapaofibgfcaa", sum := "25af60316433518ddff252a5ba9e9b00c7d32460e2ab794427899573fb91d957", checked := Try.checked }
namespace Rows
def none {H : Type} : Left H := { results := [], args := [] }

/-- 'tidegatelaw05.StreamChecks': WHATEVER THE INPUT: true; the input reads as it did. -/
def streamChecksSpec : ChangeSpec := { name := "streamChecks", fn := fun _ => fun
  | [d] => { results := [.lit (.bool true)], args := [d] }
  | _ => none }
def streamChecksRow : OpenClaim := { program := "ytdbapaofibgfcaa", sum := "25af60316433518ddff252a5ba9e9b00c7d32460e2ab794427899573fb91d957", func := "tidegate/tidegatelaw05.StreamChecks", spec := "streamChecks", unfollowed := true, recurses := true, plainKeys := false, apart := false }
def StreamChecksSaid : Prop := streamChecksRow.holds Try.pinned (OpenSpec.ofChange streamChecksSpec)

/-- ITS FALSE NEIGHBOUR: 'it returns false'. Refute it at one input. -/
def streamChecksWrong : ChangeSpec := { name := "streamChecks", fn := fun _ => fun
  | [d] => { results := [.lit (.bool false)], args := [d] }
  | _ => none }
def StreamChecksWrongFalsely : Prop := streamChecksRow.holds Try.pinned (OpenSpec.ofChange streamChecksWrong)

/-- 'tidegatelaw05.StreamFinds': WHATEVER THE INPUT: true; the input reads as it did. -/
def streamFindsSpec : ChangeSpec := { name := "streamFinds", fn := fun _ => fun
  | [d1, d2] => { results := [.lit (.bool true)], args := [d1, d2] }
  | _ => none }
def streamFindsRow : OpenClaim := { program := "ytdbapaofibgfcaa", sum := "25af60316433518ddff252a5ba9e9b00c7d32460e2ab794427899573fb91d957", func := "tidegate/tidegatelaw05.StreamFinds", spec := "streamFinds", unfollowed := true, recurses := true, plainKeys := false, apart := false }
def StreamFindsSaid : Prop := streamFindsRow.holds Try.pinned (OpenSpec.ofChange streamFindsSpec)

/-- ITS FALSE NEIGHBOUR: 'it returns false'. Refute it at one input. -/
def streamFindsWrong : ChangeSpec := { name := "streamFinds", fn := fun _ => fun
  | [d1, d2] => { results := [.lit (.bool false)], args := [d1, d2] }
  | _ => none }
def StreamFindsWrongFalsely : Prop := streamFindsRow.holds Try.pinned (OpenSpec.ofChange streamFindsWrong)

/-- 'tidegatelaw05.StreamSlices': WHATEVER THE INPUT: true; the input reads as it did. -/
def streamSlicesSpec : ChangeSpec := { name := "streamSlices", fn := fun _ => fun
  | [d1, d2, d3] => { results := [.lit (.bool true)], args := [d1, d2, d3] }
  | _ => none }
def streamSlicesRow : OpenClaim := { program := "ytdbapaofibgfcaa", sum := "25af60316433518ddff252a5ba9e9b00c7d32460e2ab794427899573fb91d957", func := "tidegate/tidegatelaw05.StreamSlices", spec := "streamSlices", unfollowed := true, recurses := true, plainKeys := false, apart := false }
def StreamSlicesSaid : Prop := streamSlicesRow.holds Try.pinned (OpenSpec.ofChange streamSlicesSpec)

/-- ITS FALSE NEIGHBOUR: 'it returns false'. Refute it at one input. -/
def streamSlicesWrong : ChangeSpec := { name := "streamSlices", fn := fun _ => fun
  | [d1, d2, d3] => { results := [.lit (.bool false)], args := [d1, d2, d3] }
  | _ => none }
def StreamSlicesWrongFalsely : Prop := streamSlicesRow.holds Try.pinned (OpenSpec.ofChange streamSlicesWrong)

/-- 'tidegatelaw05.StreamUnites': WHATEVER THE INPUT: true; the input reads as it did. -/
def streamUnitesSpec : ChangeSpec := { name := "streamUnites", fn := fun _ => fun
  | [d1, d2, d3] => { results := [.lit (.bool true)], args := [d1, d2, d3] }
  | _ => none }
def streamUnitesRow : OpenClaim := { program := "ytdbapaofibgfcaa", sum := "25af60316433518ddff252a5ba9e9b00c7d32460e2ab794427899573fb91d957", func := "tidegate/tidegatelaw05.StreamUnites", spec := "streamUnites", unfollowed := true, recurses := true, plainKeys := false, apart := false }
def StreamUnitesSaid : Prop := streamUnitesRow.holds Try.pinned (OpenSpec.ofChange streamUnitesSpec)

/-- ITS FALSE NEIGHBOUR: 'it returns false'. Refute it at one input. -/
def streamUnitesWrong : ChangeSpec := { name := "streamUnites", fn := fun _ => fun
  | [d1, d2, d3] => { results := [.lit (.bool false)], args := [d1, d2, d3] }
  | _ => none }
def StreamUnitesWrongFalsely : Prop := streamUnitesRow.holds Try.pinned (OpenSpec.ofChange streamUnitesWrong)

/-- 'tidegatelaw05.StreamDisorders': WHATEVER THE INPUT: true; the input reads as it did. -/
def streamDisordersSpec : ChangeSpec := { name := "streamDisorders", fn := fun _ => fun
  | [d1, d2] => { results := [.lit (.bool true)], args := [d1, d2] }
  | _ => none }
def streamDisordersRow : OpenClaim := { program := "ytdbapaofibgfcaa", sum := "25af60316433518ddff252a5ba9e9b00c7d32460e2ab794427899573fb91d957", func := "tidegate/tidegatelaw05.StreamDisorders", spec := "streamDisorders", unfollowed := true, recurses := true, plainKeys := false, apart := false }
def StreamDisordersSaid : Prop := streamDisordersRow.holds Try.pinned (OpenSpec.ofChange streamDisordersSpec)

/-- ITS FALSE NEIGHBOUR: 'it returns false'. Refute it at one input. -/
def streamDisordersWrong : ChangeSpec := { name := "streamDisorders", fn := fun _ => fun
  | [d1, d2] => { results := [.lit (.bool false)], args := [d1, d2] }
  | _ => none }
def StreamDisordersWrongFalsely : Prop := streamDisordersRow.holds Try.pinned (OpenSpec.ofChange streamDisordersWrong)

/-- 'tidegatelaw05.StreamMerges': WHATEVER THE INPUT: true; the input reads as it did. -/
def streamMergesSpec : ChangeSpec := { name := "streamMerges", fn := fun _ => fun
  | [d1, d2, d3] => { results := [.lit (.bool true)], args := [d1, d2, d3] }
  | _ => none }
def streamMergesRow : OpenClaim := { program := "ytdbapaofibgfcaa", sum := "25af60316433518ddff252a5ba9e9b00c7d32460e2ab794427899573fb91d957", func := "tidegate/tidegatelaw05.StreamMerges", spec := "streamMerges", unfollowed := true, recurses := true, plainKeys := false, apart := false }
def StreamMergesSaid : Prop := streamMergesRow.holds Try.pinned (OpenSpec.ofChange streamMergesSpec)

/-- ITS FALSE NEIGHBOUR: 'it returns false'. Refute it at one input. -/
def streamMergesWrong : ChangeSpec := { name := "streamMerges", fn := fun _ => fun
  | [d1, d2, d3] => { results := [.lit (.bool false)], args := [d1, d2, d3] }
  | _ => none }
def StreamMergesWrongFalsely : Prop := streamMergesRow.holds Try.pinned (OpenSpec.ofChange streamMergesWrong)

/-- 'tidegatelaw05.StreamTurns': WHATEVER THE INPUT: true; the input reads as it did. -/
def streamTurnsSpec : ChangeSpec := { name := "streamTurns", fn := fun _ => fun
  | [d1, d2] => { results := [.lit (.bool true)], args := [d1, d2] }
  | _ => none }
def streamTurnsRow : OpenClaim := { program := "ytdbapaofibgfcaa", sum := "25af60316433518ddff252a5ba9e9b00c7d32460e2ab794427899573fb91d957", func := "tidegate/tidegatelaw05.StreamTurns", spec := "streamTurns", unfollowed := true, recurses := true, plainKeys := false, apart := false }
def StreamTurnsSaid : Prop := streamTurnsRow.holds Try.pinned (OpenSpec.ofChange streamTurnsSpec)

/-- ITS FALSE NEIGHBOUR: 'it returns false'. Refute it at one input. -/
def streamTurnsWrong : ChangeSpec := { name := "streamTurns", fn := fun _ => fun
  | [d1, d2] => { results := [.lit (.bool false)], args := [d1, d2] }
  | _ => none }
def StreamTurnsWrongFalsely : Prop := streamTurnsRow.holds Try.pinned (OpenSpec.ofChange streamTurnsWrong)

/-- 'tidegatelaw05.StreamSplits': WHATEVER THE INPUT: true; the input reads as it did. -/
def streamSplitsSpec : ChangeSpec := { name := "streamSplits", fn := fun _ => fun
  | [d1, d2] => { results := [.lit (.bool true)], args := [d1, d2] }
  | _ => none }
def streamSplitsRow : OpenClaim := { program := "ytdbapaofibgfcaa", sum := "25af60316433518ddff252a5ba9e9b00c7d32460e2ab794427899573fb91d957", func := "tidegate/tidegatelaw05.StreamSplits", spec := "streamSplits", inPlace := ["internal/bytealg.abigen_runtime_cmpstring"], unfollowed := true, recurses := true, plainKeys := false, apart := false }
def StreamSplitsSaid : Prop := streamSplitsRow.holds Try.pinned (OpenSpec.ofChange streamSplitsSpec)

/-- ITS FALSE NEIGHBOUR: 'it returns false'. Refute it at one input. -/
def streamSplitsWrong : ChangeSpec := { name := "streamSplits", fn := fun _ => fun
  | [d1, d2] => { results := [.lit (.bool false)], args := [d1, d2] }
  | _ => none }
def StreamSplitsWrongFalsely : Prop := streamSplitsRow.holds Try.pinned (OpenSpec.ofChange streamSplitsWrong)

/-- 'tidegatelaw05.StreamDivides': WHATEVER THE INPUT: true; the input reads as it did. -/
def streamDividesSpec : ChangeSpec := { name := "streamDivides", fn := fun _ => fun
  | [d1, d2, d3] => { results := [.lit (.bool true)], args := [d1, d2, d3] }
  | _ => none }
def streamDividesRow : OpenClaim := { program := "ytdbapaofibgfcaa", sum := "25af60316433518ddff252a5ba9e9b00c7d32460e2ab794427899573fb91d957", func := "tidegate/tidegatelaw05.StreamDivides", spec := "streamDivides", inPlace := ["internal/bytealg.abigen_runtime_cmpstring"], unfollowed := true, recurses := true, plainKeys := false, apart := false }
def StreamDividesSaid : Prop := streamDividesRow.holds Try.pinned (OpenSpec.ofChange streamDividesSpec)

/-- ITS FALSE NEIGHBOUR: 'it returns false'. Refute it at one input. -/
def streamDividesWrong : ChangeSpec := { name := "streamDivides", fn := fun _ => fun
  | [d1, d2, d3] => { results := [.lit (.bool false)], args := [d1, d2, d3] }
  | _ => none }
def StreamDividesWrongFalsely : Prop := streamDividesRow.holds Try.pinned (OpenSpec.ofChange streamDividesWrong)

/- THE SECOND FORM. 'bulk': how many values and letters a reading holds, each counted each time it is reached (what is shared counts as often as it is met; a slice's spare places count too). A statement '..UptoSaid' is the law's where the arguments, and the package variables that the reading takes, are together of bulk at most 1048576: NARROWER than '..Said'. Prove '..Said' where nothing that the law and all that it calls make is longer than what came in: it says more and counts as full. Else prove '..UptoSaid'. A law counts once. -/
mutual
def uptoBulk {H : Type} : DataW H → Nat
  | .lit (.string bytes) => bytes.length + 1
  | .lit _ => 1
  | .nil => 1
  | .ptr d => uptoBulk d + 1
  | .slice elems spare => uptoBulkAll elems + uptoBulkAll spare + 1
  | .agg parts => uptoBulkAll parts + 1
  | .iface _ d => uptoBulk d + 1
  | .map entries => uptoBulkEntries entries + 1
  | .held _ => 1
def uptoBulkAll {H : Type} : List (DataW H) → Nat
  | [] => 0
  | d :: r => uptoBulk d + uptoBulkAll r
def uptoBulkEntries {H : Type} : List (Lit × DataW H) → Nat
  | [] => 0
  | x :: r => uptoBulkEntry x + uptoBulkEntries r
def uptoBulkEntry {H : Type} : Lit × DataW H → Nat
  | (.string bytes, d) => bytes.length + uptoBulk d + 1
  | (_, d) => uptoBulk d + 1
 end
def uptoSmall : (H : Type) → List (DataW H) → Bool := fun _ ds => decide (uptoBulkAll ds ≤ 1048576)
def OpenSpec.upto (s : _root_.Go.ChangeSpec) : _root_.Go.OpenSpec := { _root_.Go.OpenSpec.ofChange s with cond := some uptoSmall }

/-- 'tidegatelaw05.StreamChecks', WHERE WHAT IT READS IS OF BULK AT MOST 1048576: true; the input reads as it did. -/
def streamChecksUptoRow : OpenClaim := { program := "ytdbapaofibgfcaa", sum := "25af60316433518ddff252a5ba9e9b00c7d32460e2ab794427899573fb91d957", func := "tidegate/tidegatelaw05.StreamChecks", spec := "streamChecks", unfollowed := true, recurses := true, plainKeys := false, apart := false, narrowed := true }
def StreamChecksUptoSaid : Prop := streamChecksUptoRow.holds Try.pinned (OpenSpec.upto streamChecksSpec)

/-- 'tidegatelaw05.StreamFinds', WHERE WHAT IT READS IS OF BULK AT MOST 1048576: true; the input reads as it did. -/
def streamFindsUptoRow : OpenClaim := { program := "ytdbapaofibgfcaa", sum := "25af60316433518ddff252a5ba9e9b00c7d32460e2ab794427899573fb91d957", func := "tidegate/tidegatelaw05.StreamFinds", spec := "streamFinds", unfollowed := true, recurses := true, plainKeys := false, apart := false, narrowed := true }
def StreamFindsUptoSaid : Prop := streamFindsUptoRow.holds Try.pinned (OpenSpec.upto streamFindsSpec)

/-- 'tidegatelaw05.StreamSlices', WHERE WHAT IT READS IS OF BULK AT MOST 1048576: true; the input reads as it did. -/
def streamSlicesUptoRow : OpenClaim := { program := "ytdbapaofibgfcaa", sum := "25af60316433518ddff252a5ba9e9b00c7d32460e2ab794427899573fb91d957", func := "tidegate/tidegatelaw05.StreamSlices", spec := "streamSlices", unfollowed := true, recurses := true, plainKeys := false, apart := false, narrowed := true }
def StreamSlicesUptoSaid : Prop := streamSlicesUptoRow.holds Try.pinned (OpenSpec.upto streamSlicesSpec)

/-- 'tidegatelaw05.StreamUnites', WHERE WHAT IT READS IS OF BULK AT MOST 1048576: true; the input reads as it did. -/
def streamUnitesUptoRow : OpenClaim := { program := "ytdbapaofibgfcaa", sum := "25af60316433518ddff252a5ba9e9b00c7d32460e2ab794427899573fb91d957", func := "tidegate/tidegatelaw05.StreamUnites", spec := "streamUnites", unfollowed := true, recurses := true, plainKeys := false, apart := false, narrowed := true }
def StreamUnitesUptoSaid : Prop := streamUnitesUptoRow.holds Try.pinned (OpenSpec.upto streamUnitesSpec)

/-- 'tidegatelaw05.StreamDisorders', WHERE WHAT IT READS IS OF BULK AT MOST 1048576: true; the input reads as it did. -/
def streamDisordersUptoRow : OpenClaim := { program := "ytdbapaofibgfcaa", sum := "25af60316433518ddff252a5ba9e9b00c7d32460e2ab794427899573fb91d957", func := "tidegate/tidegatelaw05.StreamDisorders", spec := "streamDisorders", unfollowed := true, recurses := true, plainKeys := false, apart := false, narrowed := true }
def StreamDisordersUptoSaid : Prop := streamDisordersUptoRow.holds Try.pinned (OpenSpec.upto streamDisordersSpec)

/-- 'tidegatelaw05.StreamMerges', WHERE WHAT IT READS IS OF BULK AT MOST 1048576: true; the input reads as it did. -/
def streamMergesUptoRow : OpenClaim := { program := "ytdbapaofibgfcaa", sum := "25af60316433518ddff252a5ba9e9b00c7d32460e2ab794427899573fb91d957", func := "tidegate/tidegatelaw05.StreamMerges", spec := "streamMerges", unfollowed := true, recurses := true, plainKeys := false, apart := false, narrowed := true }
def StreamMergesUptoSaid : Prop := streamMergesUptoRow.holds Try.pinned (OpenSpec.upto streamMergesSpec)

/-- 'tidegatelaw05.StreamTurns', WHERE WHAT IT READS IS OF BULK AT MOST 1048576: true; the input reads as it did. -/
def streamTurnsUptoRow : OpenClaim := { program := "ytdbapaofibgfcaa", sum := "25af60316433518ddff252a5ba9e9b00c7d32460e2ab794427899573fb91d957", func := "tidegate/tidegatelaw05.StreamTurns", spec := "streamTurns", unfollowed := true, recurses := true, plainKeys := false, apart := false, narrowed := true }
def StreamTurnsUptoSaid : Prop := streamTurnsUptoRow.holds Try.pinned (OpenSpec.upto streamTurnsSpec)

/-- 'tidegatelaw05.StreamSplits', WHERE WHAT IT READS IS OF BULK AT MOST 1048576: true; the input reads as it did. -/
def streamSplitsUptoRow : OpenClaim := { program := "ytdbapaofibgfcaa", sum := "25af60316433518ddff252a5ba9e9b00c7d32460e2ab794427899573fb91d957", func := "tidegate/tidegatelaw05.StreamSplits", spec := "streamSplits", inPlace := ["internal/bytealg.abigen_runtime_cmpstring"], unfollowed := true, recurses := true, plainKeys := false, apart := false, narrowed := true }
def StreamSplitsUptoSaid : Prop := streamSplitsUptoRow.holds Try.pinned (OpenSpec.upto streamSplitsSpec)

/-- 'tidegatelaw05.StreamDivides', WHERE WHAT IT READS IS OF BULK AT MOST 1048576: true; the input reads as it did. -/
def streamDividesUptoRow : OpenClaim := { program := "ytdbapaofibgfcaa", sum := "25af60316433518ddff252a5ba9e9b00c7d32460e2ab794427899573fb91d957", func := "tidegate/tidegatelaw05.StreamDivides", spec := "streamDivides", inPlace := ["internal/bytealg.abigen_runtime_cmpstring"], unfollowed := true, recurses := true, plainKeys := false, apart := false, narrowed := true }
def StreamDividesUptoSaid : Prop := streamDividesUptoRow.holds Try.pinned (OpenSpec.upto streamDividesSpec)

end Rows
end Go.Proofs.Ytdbapaofibgfcaa
