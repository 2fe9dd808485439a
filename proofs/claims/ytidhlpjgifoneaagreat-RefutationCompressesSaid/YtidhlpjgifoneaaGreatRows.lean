/-
  NARROWER THAN 'FOR EVERY INPUT', by the rows' own cells (each row's printed sentence says how): RefutationBuilds: loops · RefutationVerifies: loops · RefutationConcludes: loops · RefutationDecides: loops · RefutationProves: loops · RefutationBegins: loops · RefutationCompresses: loops · RefutationShrinks: loops.
  DERIVED. THE GIVEN ROWS OF THIS SEAT. 8 by the template 'for every input the law returns true; each argument reads behind the call as it read before'; 0 by the template 'total and deterministic' (their statements: YtidhlpjgifoneaaGreatTotals.lean).
  GIVEN WITH THE SEED: the statements are not yours to turn. If you find one false, say at which input.
  Laid BY PROGRAM, IN A SANDBOX (cutbox-rows.mjs): the forced cells as the released guide's own fill.sh prints them over the translation 44939165aed40674… (all of the seat's roots in one cut). By AI agents, Wed Nov 11 2026. No macro, syntax, notation, axiom, sorry.
-/
import Derived.Test.YtidhlpjgifoneaaGreatChecked
import GoSem.Claim
import GoSem.ClaimJoined
import GoSem.ClaimMapViews
import Derived.JoinedTies
import Derived.KernelRfl
namespace Go.Proofs.YtidhlpjgifoneaaGreat
/- THE CELL 'sum', in the pinned program and in every row, IS THE sha256 OF THE DUMP (.gsa) THAT YtidhlpjgifoneaaGreatProg.lean LOADS. Nothing in Lean hashes anything: it is a label: what it is worth is what the hold of that sum in a sandbox is worth. -/
noncomputable def Tryz.pinned : Pinned := { name := "ytidhlpjgifoneaagreat", sum := "44939165aed40674c33f2fa7a47ed1cd6ebe5d798f9dc3432d4a41473e4139fb", checked := Tryz.checked }
namespace Rows
def none {H : Type} : Left H := { results := [], args := [] }

/-- 'tidegatelaw57.RefutationBuilds': WHATEVER THE INPUT: true; the input reads as it did. -/
def refutationBuildsSpec : ChangeSpec := { name := "refutationBuilds", fn := fun _ => fun
  | [d1, d2] => { results := [.lit (.bool true)], args := [d1, d2] }
  | _ => none }
def refutationBuildsRow : OpenClaim := { program := "ytidhlpjgifoneaagreat", sum := "44939165aed40674c33f2fa7a47ed1cd6ebe5d798f9dc3432d4a41473e4139fb", func := "tidegate/tidegatelaw57.RefutationBuilds", spec := "refutationBuilds", inPlace := ["slices.overlaps[tidegate/api.Start]"], unfollowed := true, recurses := true, loops := true, plainKeys := false, apart := false }
def RefutationBuildsSaid : Prop := refutationBuildsRow.holds Tryz.pinned (OpenSpec.ofChange refutationBuildsSpec)

/-- ITS FALSE NEIGHBOUR: 'it returns false'. Refute it at one input. -/
def refutationBuildsWrong : ChangeSpec := { name := "refutationBuilds", fn := fun _ => fun
  | [d1, d2] => { results := [.lit (.bool false)], args := [d1, d2] }
  | _ => none }
def RefutationBuildsWrongFalsely : Prop := refutationBuildsRow.holds Tryz.pinned (OpenSpec.ofChange refutationBuildsWrong)

/-- 'tidegatelaw57.RefutationVerifies': WHATEVER THE INPUT: true; the input reads as it did. -/
def refutationVerifiesSpec : ChangeSpec := { name := "refutationVerifies", fn := fun _ => fun
  | [d1, d2, d3] => { results := [.lit (.bool true)], args := [d1, d2, d3] }
  | _ => none }
def refutationVerifiesRow : OpenClaim := { program := "ytidhlpjgifoneaagreat", sum := "44939165aed40674c33f2fa7a47ed1cd6ebe5d798f9dc3432d4a41473e4139fb", func := "tidegate/tidegatelaw57.RefutationVerifies", spec := "refutationVerifies", inPlace := ["slices.overlaps[tidegate/api.Start]"], unfollowed := true, recurses := true, loops := true, plainKeys := false, apart := false }
def RefutationVerifiesSaid : Prop := refutationVerifiesRow.holds Tryz.pinned (OpenSpec.ofChange refutationVerifiesSpec)

/-- ITS FALSE NEIGHBOUR: 'it returns false'. Refute it at one input. -/
def refutationVerifiesWrong : ChangeSpec := { name := "refutationVerifies", fn := fun _ => fun
  | [d1, d2, d3] => { results := [.lit (.bool false)], args := [d1, d2, d3] }
  | _ => none }
def RefutationVerifiesWrongFalsely : Prop := refutationVerifiesRow.holds Tryz.pinned (OpenSpec.ofChange refutationVerifiesWrong)

/-- 'tidegatelaw57.RefutationConcludes': WHATEVER THE INPUT: true; the input reads as it did. -/
def refutationConcludesSpec : ChangeSpec := { name := "refutationConcludes", fn := fun _ => fun
  | [d1, d2] => { results := [.lit (.bool true)], args := [d1, d2] }
  | _ => none }
def refutationConcludesRow : OpenClaim := { program := "ytidhlpjgifoneaagreat", sum := "44939165aed40674c33f2fa7a47ed1cd6ebe5d798f9dc3432d4a41473e4139fb", func := "tidegate/tidegatelaw57.RefutationConcludes", spec := "refutationConcludes", inPlace := ["slices.overlaps[tidegate/api.Start]"], unfollowed := true, recurses := true, loops := true, plainKeys := false, apart := false }
def RefutationConcludesSaid : Prop := refutationConcludesRow.holds Tryz.pinned (OpenSpec.ofChange refutationConcludesSpec)

/-- ITS FALSE NEIGHBOUR: 'it returns false'. Refute it at one input. -/
def refutationConcludesWrong : ChangeSpec := { name := "refutationConcludes", fn := fun _ => fun
  | [d1, d2] => { results := [.lit (.bool false)], args := [d1, d2] }
  | _ => none }
def RefutationConcludesWrongFalsely : Prop := refutationConcludesRow.holds Tryz.pinned (OpenSpec.ofChange refutationConcludesWrong)

/-- 'tidegatelaw57.RefutationDecides': WHATEVER THE INPUT: true; the input reads as it did. -/
def refutationDecidesSpec : ChangeSpec := { name := "refutationDecides", fn := fun _ => fun
  | [d1, d2] => { results := [.lit (.bool true)], args := [d1, d2] }
  | _ => none }
def refutationDecidesRow : OpenClaim := { program := "ytidhlpjgifoneaagreat", sum := "44939165aed40674c33f2fa7a47ed1cd6ebe5d798f9dc3432d4a41473e4139fb", func := "tidegate/tidegatelaw57.RefutationDecides", spec := "refutationDecides", inPlace := ["slices.overlaps[tidegate/api.Start]"], unfollowed := true, recurses := true, loops := true, plainKeys := false, apart := false }
def RefutationDecidesSaid : Prop := refutationDecidesRow.holds Tryz.pinned (OpenSpec.ofChange refutationDecidesSpec)

/-- ITS FALSE NEIGHBOUR: 'it returns false'. Refute it at one input. -/
def refutationDecidesWrong : ChangeSpec := { name := "refutationDecides", fn := fun _ => fun
  | [d1, d2] => { results := [.lit (.bool false)], args := [d1, d2] }
  | _ => none }
def RefutationDecidesWrongFalsely : Prop := refutationDecidesRow.holds Tryz.pinned (OpenSpec.ofChange refutationDecidesWrong)

/-- 'tidegatelaw57.RefutationProves': WHATEVER THE INPUT: true; the input reads as it did. -/
def refutationProvesSpec : ChangeSpec := { name := "refutationProves", fn := fun _ => fun
  | [d1, d2, d3] => { results := [.lit (.bool true)], args := [d1, d2, d3] }
  | _ => none }
def refutationProvesRow : OpenClaim := { program := "ytidhlpjgifoneaagreat", sum := "44939165aed40674c33f2fa7a47ed1cd6ebe5d798f9dc3432d4a41473e4139fb", func := "tidegate/tidegatelaw57.RefutationProves", spec := "refutationProves", inPlace := ["slices.overlaps[tidegate/api.Start]"], unfollowed := true, recurses := true, loops := true, plainKeys := false, apart := false }
def RefutationProvesSaid : Prop := refutationProvesRow.holds Tryz.pinned (OpenSpec.ofChange refutationProvesSpec)

/-- ITS FALSE NEIGHBOUR: 'it returns false'. Refute it at one input. -/
def refutationProvesWrong : ChangeSpec := { name := "refutationProves", fn := fun _ => fun
  | [d1, d2, d3] => { results := [.lit (.bool false)], args := [d1, d2, d3] }
  | _ => none }
def RefutationProvesWrongFalsely : Prop := refutationProvesRow.holds Tryz.pinned (OpenSpec.ofChange refutationProvesWrong)

/-- 'tidegatelaw57.RefutationBegins': WHATEVER THE INPUT: true; the input reads as it did. -/
def refutationBeginsSpec : ChangeSpec := { name := "refutationBegins", fn := fun _ => fun
  | [d1, d2, d3] => { results := [.lit (.bool true)], args := [d1, d2, d3] }
  | _ => none }
def refutationBeginsRow : OpenClaim := { program := "ytidhlpjgifoneaagreat", sum := "44939165aed40674c33f2fa7a47ed1cd6ebe5d798f9dc3432d4a41473e4139fb", func := "tidegate/tidegatelaw57.RefutationBegins", spec := "refutationBegins", inPlace := ["slices.overlaps[tidegate/api.Start]"], unfollowed := true, recurses := true, loops := true, plainKeys := false, apart := false }
def RefutationBeginsSaid : Prop := refutationBeginsRow.holds Tryz.pinned (OpenSpec.ofChange refutationBeginsSpec)

/-- ITS FALSE NEIGHBOUR: 'it returns false'. Refute it at one input. -/
def refutationBeginsWrong : ChangeSpec := { name := "refutationBegins", fn := fun _ => fun
  | [d1, d2, d3] => { results := [.lit (.bool false)], args := [d1, d2, d3] }
  | _ => none }
def RefutationBeginsWrongFalsely : Prop := refutationBeginsRow.holds Tryz.pinned (OpenSpec.ofChange refutationBeginsWrong)

/-- 'tidegatelaw57.RefutationCompresses': WHATEVER THE INPUT: true; the input reads as it did. -/
def refutationCompressesSpec : ChangeSpec := { name := "refutationCompresses", fn := fun _ => fun
  | [d1, d2, d3] => { results := [.lit (.bool true)], args := [d1, d2, d3] }
  | _ => none }
def refutationCompressesRow : OpenClaim := { program := "ytidhlpjgifoneaagreat", sum := "44939165aed40674c33f2fa7a47ed1cd6ebe5d798f9dc3432d4a41473e4139fb", func := "tidegate/tidegatelaw57.RefutationCompresses", spec := "refutationCompresses", inPlace := ["slices.overlaps[tidegate/api.Start]"], unfollowed := true, recurses := true, loops := true, plainKeys := false, apart := false }
def RefutationCompressesSaid : Prop := refutationCompressesRow.holds Tryz.pinned (OpenSpec.ofChange refutationCompressesSpec)

/-- ITS FALSE NEIGHBOUR: 'it returns false'. Refute it at one input. -/
def refutationCompressesWrong : ChangeSpec := { name := "refutationCompresses", fn := fun _ => fun
  | [d1, d2, d3] => { results := [.lit (.bool false)], args := [d1, d2, d3] }
  | _ => none }
def RefutationCompressesWrongFalsely : Prop := refutationCompressesRow.holds Tryz.pinned (OpenSpec.ofChange refutationCompressesWrong)

/-- 'tidegatelaw57.RefutationShrinks': WHATEVER THE INPUT: true; the input reads as it did. -/
def refutationShrinksSpec : ChangeSpec := { name := "refutationShrinks", fn := fun _ => fun
  | [d1, d2] => { results := [.lit (.bool true)], args := [d1, d2] }
  | _ => none }
def refutationShrinksRow : OpenClaim := { program := "ytidhlpjgifoneaagreat", sum := "44939165aed40674c33f2fa7a47ed1cd6ebe5d798f9dc3432d4a41473e4139fb", func := "tidegate/tidegatelaw57.RefutationShrinks", spec := "refutationShrinks", inPlace := ["slices.overlaps[tidegate/api.Start]"], unfollowed := true, recurses := true, loops := true, plainKeys := false, apart := false }
def RefutationShrinksSaid : Prop := refutationShrinksRow.holds Tryz.pinned (OpenSpec.ofChange refutationShrinksSpec)

/-- ITS FALSE NEIGHBOUR: 'it returns false'. Refute it at one input. -/
def refutationShrinksWrong : ChangeSpec := { name := "refutationShrinks", fn := fun _ => fun
  | [d1, d2] => { results := [.lit (.bool false)], args := [d1, d2] }
  | _ => none }
def RefutationShrinksWrongFalsely : Prop := refutationShrinksRow.holds Tryz.pinned (OpenSpec.ofChange refutationShrinksWrong)

/- THE SECOND FORM. 'bulk': how many values and letters a reading holds, each counted each time it is reached (what is shared counts as often as it is met; a slice's spare places count too). A statement '..UptoSaid' is the law's where the arguments, and the package variables that the reading takes, are together of bulk at most 1048576: NARROWER than '..Said'. Prove '..Said' where nothing that the law and all that it calls make is longer than what came in: it says more and counts as full. Else prove '..UptoSaid'. A law counts once. -/
mutual
def uptoBulk {H : Type} : DataW H → Nat
  | .lit (.string bytes) => bytes.length + 1
  | .lit _ => 1
  | .nil => 1
  | .ptr d => uptoBulk d + 1
  | .slice elems spare => uptoBulkAll elems + uptoBulkAll spare + 1
  | .agg parts => uptoBulkAll parts + 1
  | .iface _ d => uptoBulk d + 1
  | .map entries => uptoBulkEntries entries + 1
  | .held _ => 1
def uptoBulkAll {H : Type} : List (DataW H) → Nat
  | [] => 0
  | d :: r => uptoBulk d + uptoBulkAll r
def uptoBulkEntries {H : Type} : List (Lit × DataW H) → Nat
  | [] => 0
  | x :: r => uptoBulkEntry x + uptoBulkEntries r
def uptoBulkEntry {H : Type} : Lit × DataW H → Nat
  | (.string bytes, d) => bytes.length + uptoBulk d + 1
  | (_, d) => uptoBulk d + 1
 end
def uptoSmall : (H : Type) → List (DataW H) → Bool := fun _ ds => decide (uptoBulkAll ds ≤ 1048576)
def OpenSpec.upto (s : _root_.Go.ChangeSpec) : _root_.Go.OpenSpec := { _root_.Go.OpenSpec.ofChange s with cond := some uptoSmall }

/-- 'tidegatelaw57.RefutationBuilds', WHERE WHAT IT READS IS OF BULK AT MOST 1048576: true; the input reads as it did. -/
def refutationBuildsUptoRow : OpenClaim := { program := "ytidhlpjgifoneaagreat", sum := "44939165aed40674c33f2fa7a47ed1cd6ebe5d798f9dc3432d4a41473e4139fb", func := "tidegate/tidegatelaw57.RefutationBuilds", spec := "refutationBuilds", inPlace := ["slices.overlaps[tidegate/api.Start]"], unfollowed := true, recurses := true, loops := true, plainKeys := false, apart := false, narrowed := true }
def RefutationBuildsUptoSaid : Prop := refutationBuildsUptoRow.holds Tryz.pinned (OpenSpec.upto refutationBuildsSpec)

/-- 'tidegatelaw57.RefutationVerifies', WHERE WHAT IT READS IS OF BULK AT MOST 1048576: true; the input reads as it did. -/
def refutationVerifiesUptoRow : OpenClaim := { program := "ytidhlpjgifoneaagreat", sum := "44939165aed40674c33f2fa7a47ed1cd6ebe5d798f9dc3432d4a41473e4139fb", func := "tidegate/tidegatelaw57.RefutationVerifies", spec := "refutationVerifies", inPlace := ["slices.overlaps[tidegate/api.Start]"], unfollowed := true, recurses := true, loops := true, plainKeys := false, apart := false, narrowed := true }
def RefutationVerifiesUptoSaid : Prop := refutationVerifiesUptoRow.holds Tryz.pinned (OpenSpec.upto refutationVerifiesSpec)

/-- 'tidegatelaw57.RefutationConcludes', WHERE WHAT IT READS IS OF BULK AT MOST 1048576: true; the input reads as it did. -/
def refutationConcludesUptoRow : OpenClaim := { program := "ytidhlpjgifoneaagreat", sum := "44939165aed40674c33f2fa7a47ed1cd6ebe5d798f9dc3432d4a41473e4139fb", func := "tidegate/tidegatelaw57.RefutationConcludes", spec := "refutationConcludes", inPlace := ["slices.overlaps[tidegate/api.Start]"], unfollowed := true, recurses := true, loops := true, plainKeys := false, apart := false, narrowed := true }
def RefutationConcludesUptoSaid : Prop := refutationConcludesUptoRow.holds Tryz.pinned (OpenSpec.upto refutationConcludesSpec)

/-- 'tidegatelaw57.RefutationDecides', WHERE WHAT IT READS IS OF BULK AT MOST 1048576: true; the input reads as it did. -/
def refutationDecidesUptoRow : OpenClaim := { program := "ytidhlpjgifoneaagreat", sum := "44939165aed40674c33f2fa7a47ed1cd6ebe5d798f9dc3432d4a41473e4139fb", func := "tidegate/tidegatelaw57.RefutationDecides", spec := "refutationDecides", inPlace := ["slices.overlaps[tidegate/api.Start]"], unfollowed := true, recurses := true, loops := true, plainKeys := false, apart := false, narrowed := true }
def RefutationDecidesUptoSaid : Prop := refutationDecidesUptoRow.holds Tryz.pinned (OpenSpec.upto refutationDecidesSpec)

/-- 'tidegatelaw57.RefutationProves', WHERE WHAT IT READS IS OF BULK AT MOST 1048576: true; the input reads as it did. -/
def refutationProvesUptoRow : OpenClaim := { program := "ytidhlpjgifoneaagreat", sum := "44939165aed40674c33f2fa7a47ed1cd6ebe5d798f9dc3432d4a41473e4139fb", func := "tidegate/tidegatelaw57.RefutationProves", spec := "refutationProves", inPlace := ["slices.overlaps[tidegate/api.Start]"], unfollowed := true, recurses := true, loops := true, plainKeys := false, apart := false, narrowed := true }
def RefutationProvesUptoSaid : Prop := refutationProvesUptoRow.holds Tryz.pinned (OpenSpec.upto refutationProvesSpec)

/-- 'tidegatelaw57.RefutationBegins', WHERE WHAT IT READS IS OF BULK AT MOST 1048576: true; the input reads as it did. -/
def refutationBeginsUptoRow : OpenClaim := { program := "ytidhlpjgifoneaagreat", sum := "44939165aed40674c33f2fa7a47ed1cd6ebe5d798f9dc3432d4a41473e4139fb", func := "tidegate/tidegatelaw57.RefutationBegins", spec := "refutationBegins", inPlace := ["slices.overlaps[tidegate/api.Start]"], unfollowed := true, recurses := true, loops := true, plainKeys := false, apart := false, narrowed := true }
def RefutationBeginsUptoSaid : Prop := refutationBeginsUptoRow.holds Tryz.pinned (OpenSpec.upto refutationBeginsSpec)

/-- 'tidegatelaw57.RefutationCompresses', WHERE WHAT IT READS IS OF BULK AT MOST 1048576: true; the input reads as it did. -/
def refutationCompressesUptoRow : OpenClaim := { program := "ytidhlpjgifoneaagreat", sum := "44939165aed40674c33f2fa7a47ed1cd6ebe5d798f9dc3432d4a41473e4139fb", func := "tidegate/tidegatelaw57.RefutationCompresses", spec := "refutationCompresses", inPlace := ["slices.overlaps[tidegate/api.Start]"], unfollowed := true, recurses := true, loops := true, plainKeys := false, apart := false, narrowed := true }
def RefutationCompressesUptoSaid : Prop := refutationCompressesUptoRow.holds Tryz.pinned (OpenSpec.upto refutationCompressesSpec)

/-- 'tidegatelaw57.RefutationShrinks', WHERE WHAT IT READS IS OF BULK AT MOST 1048576: true; the input reads as it did. -/
def refutationShrinksUptoRow : OpenClaim := { program := "ytidhlpjgifoneaagreat", sum := "44939165aed40674c33f2fa7a47ed1cd6ebe5d798f9dc3432d4a41473e4139fb", func := "tidegate/tidegatelaw57.RefutationShrinks", spec := "refutationShrinks", inPlace := ["slices.overlaps[tidegate/api.Start]"], unfollowed := true, recurses := true, loops := true, plainKeys := false, apart := false, narrowed := true }
def RefutationShrinksUptoSaid : Prop := refutationShrinksUptoRow.holds Tryz.pinned (OpenSpec.upto refutationShrinksSpec)

end Rows
end Go.Proofs.YtidhlpjgifoneaaGreat
