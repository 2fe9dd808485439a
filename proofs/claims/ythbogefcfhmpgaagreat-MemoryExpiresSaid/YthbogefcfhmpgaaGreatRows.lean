/-
  NARROWER THAN 'FOR EVERY INPUT', by the rows' own cells (each row's printed sentence says how): TopBoundsHold: loops · TopVerdictsExclude: loops · MemoryAges: loops · MemoryDecides: loops · MemoryExcludes: loops · MemoryExpires: loops.
  DERIVED. THE GIVEN ROWS OF THIS SEAT. 6 by the template 'for every input the law returns true; each argument reads behind the call as it read before'; 0 by the template 'total and deterministic' (their statements: YthbogefcfhmpgaaGreatTotals.lean).
  GIVEN WITH THE SEED: the statements are not yours to turn. If you find one false, say at which input.
  Laid BY PROGRAM, IN A SANDBOX (cutbox-rows.mjs): the forced cells as the released guide's own fill.sh prints them over the translation 097f58585dd1ea0d… (all of the seat's roots in one cut). By AI agents, Wed Nov 11 2026. No macro, syntax, notation, axiom, sorry.
-/
import Derived.Test.YthbogefcfhmpgaaGreatChecked
import GoSem.Claim
import GoSem.ClaimJoined
import GoSem.ClaimMapViews
import Derived.JoinedTies
import Derived.KernelRfl
namespace Go.Proofs.YthbogefcfhmpgaaGreat
/- THE CELL 'sum', in the pinned program and in every row, IS THE sha256 OF THE DUMP (.gsa) THAT YthbogefcfhmpgaaGreatProg.lean LOADS. Nothing in Lean hashes anything: it is a label: what it is worth is what the hold of that sum in a sandbox is worth. -/
noncomputable def Tryz.pinned : Pinned := { name := "ythbogefcfhmpgaagreat", sum := "097f58585dd1ea0d207d0c38a52c6347fd1f18462afecbcb29e2ab9ac7bd2a04", checked := Tryz.checked }
namespace Rows
def none {H : Type} : Left H := { results := [], args := [] }

/-- 'tidegatetop.TopBoundsHold': WHATEVER THE INPUT: true; the input reads as it did. -/
def topBoundsHoldSpec : ChangeSpec := { name := "topBoundsHold", fn := fun _ => fun
  | [d1, d2] => { results := [.lit (.bool true)], args := [d1, d2] }
  | _ => none }
def topBoundsHoldRow : OpenClaim := { program := "ythbogefcfhmpgaagreat", sum := "097f58585dd1ea0d207d0c38a52c6347fd1f18462afecbcb29e2ab9ac7bd2a04", func := "tidegate/tidegatetop.TopBoundsHold", spec := "topBoundsHold", inPlace := ["slices.overlaps[tidegate/api.Start]"], unfollowed := true, recurses := true, loops := true, plainKeys := false, apart := false }
def TopBoundsHoldSaid : Prop := topBoundsHoldRow.holds Tryz.pinned (OpenSpec.ofChange topBoundsHoldSpec)

/-- ITS FALSE NEIGHBOUR: 'it returns false'. Refute it at one input. -/
def topBoundsHoldWrong : ChangeSpec := { name := "topBoundsHold", fn := fun _ => fun
  | [d1, d2] => { results := [.lit (.bool false)], args := [d1, d2] }
  | _ => none }
def TopBoundsHoldWrongFalsely : Prop := topBoundsHoldRow.holds Tryz.pinned (OpenSpec.ofChange topBoundsHoldWrong)

/-- 'tidegatetop.TopVerdictsExclude': WHATEVER THE INPUT: true; the input reads as it did. -/
def topVerdictsExcludeSpec : ChangeSpec := { name := "topVerdictsExclude", fn := fun _ => fun
  | [d1, d2, d3] => { results := [.lit (.bool true)], args := [d1, d2, d3] }
  | _ => none }
def topVerdictsExcludeRow : OpenClaim := { program := "ythbogefcfhmpgaagreat", sum := "097f58585dd1ea0d207d0c38a52c6347fd1f18462afecbcb29e2ab9ac7bd2a04", func := "tidegate/tidegatetop.TopVerdictsExclude", spec := "topVerdictsExclude", inPlace := ["slices.overlaps[tidegate/api.Start]"], unfollowed := true, recurses := true, loops := true, plainKeys := false, apart := false }
def TopVerdictsExcludeSaid : Prop := topVerdictsExcludeRow.holds Tryz.pinned (OpenSpec.ofChange topVerdictsExcludeSpec)

/-- ITS FALSE NEIGHBOUR: 'it returns false'. Refute it at one input. -/
def topVerdictsExcludeWrong : ChangeSpec := { name := "topVerdictsExclude", fn := fun _ => fun
  | [d1, d2, d3] => { results := [.lit (.bool false)], args := [d1, d2, d3] }
  | _ => none }
def TopVerdictsExcludeWrongFalsely : Prop := topVerdictsExcludeRow.holds Tryz.pinned (OpenSpec.ofChange topVerdictsExcludeWrong)

/-- 'tidegatelaw56.MemoryAges': WHATEVER THE INPUT: true; the input reads as it did. -/
def memoryAgesSpec : ChangeSpec := { name := "memoryAges", fn := fun _ => fun
  | [d] => { results := [.lit (.bool true)], args := [d] }
  | _ => none }
def memoryAgesRow : OpenClaim := { program := "ythbogefcfhmpgaagreat", sum := "097f58585dd1ea0d207d0c38a52c6347fd1f18462afecbcb29e2ab9ac7bd2a04", func := "tidegate/tidegatelaw56.MemoryAges", spec := "memoryAges", unfollowed := true, recurses := true, loops := true, plainKeys := false, apart := false }
def MemoryAgesSaid : Prop := memoryAgesRow.holds Tryz.pinned (OpenSpec.ofChange memoryAgesSpec)

/-- ITS FALSE NEIGHBOUR: 'it returns false'. Refute it at one input. -/
def memoryAgesWrong : ChangeSpec := { name := "memoryAges", fn := fun _ => fun
  | [d] => { results := [.lit (.bool false)], args := [d] }
  | _ => none }
def MemoryAgesWrongFalsely : Prop := memoryAgesRow.holds Tryz.pinned (OpenSpec.ofChange memoryAgesWrong)

/-- 'tidegatelaw56.MemoryDecides': WHATEVER THE INPUT: true; the input reads as it did. -/
def memoryDecidesSpec : ChangeSpec := { name := "memoryDecides", fn := fun _ => fun
  | [d] => { results := [.lit (.bool true)], args := [d] }
  | _ => none }
def memoryDecidesRow : OpenClaim := { program := "ythbogefcfhmpgaagreat", sum := "097f58585dd1ea0d207d0c38a52c6347fd1f18462afecbcb29e2ab9ac7bd2a04", func := "tidegate/tidegatelaw56.MemoryDecides", spec := "memoryDecides", unfollowed := true, recurses := true, loops := true, plainKeys := false, apart := false }
def MemoryDecidesSaid : Prop := memoryDecidesRow.holds Tryz.pinned (OpenSpec.ofChange memoryDecidesSpec)

/-- ITS FALSE NEIGHBOUR: 'it returns false'. Refute it at one input. -/
def memoryDecidesWrong : ChangeSpec := { name := "memoryDecides", fn := fun _ => fun
  | [d] => { results := [.lit (.bool false)], args := [d] }
  | _ => none }
def MemoryDecidesWrongFalsely : Prop := memoryDecidesRow.holds Tryz.pinned (OpenSpec.ofChange memoryDecidesWrong)

/-- 'tidegatelaw56.MemoryExcludes': WHATEVER THE INPUT: true; the input reads as it did. -/
def memoryExcludesSpec : ChangeSpec := { name := "memoryExcludes", fn := fun _ => fun
  | [d1, d2] => { results := [.lit (.bool true)], args := [d1, d2] }
  | _ => none }
def memoryExcludesRow : OpenClaim := { program := "ythbogefcfhmpgaagreat", sum := "097f58585dd1ea0d207d0c38a52c6347fd1f18462afecbcb29e2ab9ac7bd2a04", func := "tidegate/tidegatelaw56.MemoryExcludes", spec := "memoryExcludes", unfollowed := true, recurses := true, loops := true, plainKeys := false, apart := false }
def MemoryExcludesSaid : Prop := memoryExcludesRow.holds Tryz.pinned (OpenSpec.ofChange memoryExcludesSpec)

/-- ITS FALSE NEIGHBOUR: 'it returns false'. Refute it at one input. -/
def memoryExcludesWrong : ChangeSpec := { name := "memoryExcludes", fn := fun _ => fun
  | [d1, d2] => { results := [.lit (.bool false)], args := [d1, d2] }
  | _ => none }
def MemoryExcludesWrongFalsely : Prop := memoryExcludesRow.holds Tryz.pinned (OpenSpec.ofChange memoryExcludesWrong)

/-- 'tidegatelaw56.MemoryExpires': WHATEVER THE INPUT: true; the input reads as it did. -/
def memoryExpiresSpec : ChangeSpec := { name := "memoryExpires", fn := fun _ => fun
  | [d1, d2, d3] => { results := [.lit (.bool true)], args := [d1, d2, d3] }
  | _ => none }
def memoryExpiresRow : OpenClaim := { program := "ythbogefcfhmpgaagreat", sum := "097f58585dd1ea0d207d0c38a52c6347fd1f18462afecbcb29e2ab9ac7bd2a04", func := "tidegate/tidegatelaw56.MemoryExpires", spec := "memoryExpires", inPlace := ["slices.overlaps[tidegate/api.Start]"], unfollowed := true, recurses := true, loops := true, plainKeys := false, apart := false }
def MemoryExpiresSaid : Prop := memoryExpiresRow.holds Tryz.pinned (OpenSpec.ofChange memoryExpiresSpec)

/-- ITS FALSE NEIGHBOUR: 'it returns false'. Refute it at one input. -/
def memoryExpiresWrong : ChangeSpec := { name := "memoryExpires", fn := fun _ => fun
  | [d1, d2, d3] => { results := [.lit (.bool false)], args := [d1, d2, d3] }
  | _ => none }
def MemoryExpiresWrongFalsely : Prop := memoryExpiresRow.holds Tryz.pinned (OpenSpec.ofChange memoryExpiresWrong)

/- THE SECOND FORM. 'bulk': how many values and letters a reading holds, each counted each time it is reached (what is shared counts as often as it is met; a slice's spare places count too). A statement '..UptoSaid' is the law's where the arguments, and the package variables that the reading takes, are together of bulk at most 1048576: NARROWER than '..Said'. Prove '..Said' where nothing that the law and all that it calls make is longer than what came in: it says more and counts as full. Else prove '..UptoSaid'. A law counts once. -/
mutual
def uptoBulk {H : Type} : DataW H → Nat
  | .lit (.string bytes) => bytes.length + 1
  | .lit _ => 1
  | .nil => 1
  | .ptr d => uptoBulk d + 1
  | .slice elems spare => uptoBulkAll elems + uptoBulkAll spare + 1
  | .agg parts => uptoBulkAll parts + 1
  | .iface _ d => uptoBulk d + 1
  | .map entries => uptoBulkEntries entries + 1
  | .held _ => 1
def uptoBulkAll {H : Type} : List (DataW H) → Nat
  | [] => 0
  | d :: r => uptoBulk d + uptoBulkAll r
def uptoBulkEntries {H : Type} : List (Lit × DataW H) → Nat
  | [] => 0
  | x :: r => uptoBulkEntry x + uptoBulkEntries r
def uptoBulkEntry {H : Type} : Lit × DataW H → Nat
  | (.string bytes, d) => bytes.length + uptoBulk d + 1
  | (_, d) => uptoBulk d + 1
 end
def uptoSmall : (H : Type) → List (DataW H) → Bool := fun _ ds => decide (uptoBulkAll ds ≤ 1048576)
def OpenSpec.upto (s : _root_.Go.ChangeSpec) : _root_.Go.OpenSpec := { _root_.Go.OpenSpec.ofChange s with cond := some uptoSmall }

/-- 'tidegatetop.TopBoundsHold', WHERE WHAT IT READS IS OF BULK AT MOST 1048576: true; the input reads as it did. -/
def topBoundsHoldUptoRow : OpenClaim := { program := "ythbogefcfhmpgaagreat", sum := "097f58585dd1ea0d207d0c38a52c6347fd1f18462afecbcb29e2ab9ac7bd2a04", func := "tidegate/tidegatetop.TopBoundsHold", spec := "topBoundsHold", inPlace := ["slices.overlaps[tidegate/api.Start]"], unfollowed := true, recurses := true, loops := true, plainKeys := false, apart := false, narrowed := true }
def TopBoundsHoldUptoSaid : Prop := topBoundsHoldUptoRow.holds Tryz.pinned (OpenSpec.upto topBoundsHoldSpec)

/-- 'tidegatetop.TopVerdictsExclude', WHERE WHAT IT READS IS OF BULK AT MOST 1048576: true; the input reads as it did. -/
def topVerdictsExcludeUptoRow : OpenClaim := { program := "ythbogefcfhmpgaagreat", sum := "097f58585dd1ea0d207d0c38a52c6347fd1f18462afecbcb29e2ab9ac7bd2a04", func := "tidegate/tidegatetop.TopVerdictsExclude", spec := "topVerdictsExclude", inPlace := ["slices.overlaps[tidegate/api.Start]"], unfollowed := true, recurses := true, loops := true, plainKeys := false, apart := false, narrowed := true }
def TopVerdictsExcludeUptoSaid : Prop := topVerdictsExcludeUptoRow.holds Tryz.pinned (OpenSpec.upto topVerdictsExcludeSpec)

/-- 'tidegatelaw56.MemoryAges', WHERE WHAT IT READS IS OF BULK AT MOST 1048576: true; the input reads as it did. -/
def memoryAgesUptoRow : OpenClaim := { program := "ythbogefcfhmpgaagreat", sum := "097f58585dd1ea0d207d0c38a52c6347fd1f18462afecbcb29e2ab9ac7bd2a04", func := "tidegate/tidegatelaw56.MemoryAges", spec := "memoryAges", unfollowed := true, recurses := true, loops := true, plainKeys := false, apart := false, narrowed := true }
def MemoryAgesUptoSaid : Prop := memoryAgesUptoRow.holds Tryz.pinned (OpenSpec.upto memoryAgesSpec)

/-- 'tidegatelaw56.MemoryDecides', WHERE WHAT IT READS IS OF BULK AT MOST 1048576: true; the input reads as it did. -/
def memoryDecidesUptoRow : OpenClaim := { program := "ythbogefcfhmpgaagreat", sum := "097f58585dd1ea0d207d0c38a52c6347fd1f18462afecbcb29e2ab9ac7bd2a04", func := "tidegate/tidegatelaw56.MemoryDecides", spec := "memoryDecides", unfollowed := true, recurses := true, loops := true, plainKeys := false, apart := false, narrowed := true }
def MemoryDecidesUptoSaid : Prop := memoryDecidesUptoRow.holds Tryz.pinned (OpenSpec.upto memoryDecidesSpec)

/-- 'tidegatelaw56.MemoryExcludes', WHERE WHAT IT READS IS OF BULK AT MOST 1048576: true; the input reads as it did. -/
def memoryExcludesUptoRow : OpenClaim := { program := "ythbogefcfhmpgaagreat", sum := "097f58585dd1ea0d207d0c38a52c6347fd1f18462afecbcb29e2ab9ac7bd2a04", func := "tidegate/tidegatelaw56.MemoryExcludes", spec := "memoryExcludes", unfollowed := true, recurses := true, loops := true, plainKeys := false, apart := false, narrowed := true }
def MemoryExcludesUptoSaid : Prop := memoryExcludesUptoRow.holds Tryz.pinned (OpenSpec.upto memoryExcludesSpec)

/-- 'tidegatelaw56.MemoryExpires', WHERE WHAT IT READS IS OF BULK AT MOST 1048576: true; the input reads as it did. -/
def memoryExpiresUptoRow : OpenClaim := { program := "ythbogefcfhmpgaagreat", sum := "097f58585dd1ea0d207d0c38a52c6347fd1f18462afecbcb29e2ab9ac7bd2a04", func := "tidegate/tidegatelaw56.MemoryExpires", spec := "memoryExpires", inPlace := ["slices.overlaps[tidegate/api.Start]"], unfollowed := true, recurses := true, loops := true, plainKeys := false, apart := false, narrowed := true }
def MemoryExpiresUptoSaid : Prop := memoryExpiresUptoRow.holds Tryz.pinned (OpenSpec.upto memoryExpiresSpec)

end Rows
end Go.Proofs.YthbogefcfhmpgaaGreat
