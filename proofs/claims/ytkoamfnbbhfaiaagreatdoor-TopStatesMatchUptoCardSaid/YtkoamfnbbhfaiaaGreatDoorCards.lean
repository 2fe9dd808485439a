/-
  DERIVED. GIVEN WITH THE SEED: THE CARDS: each row of YtkoamfnbbhfaiaaGreatDoorRows.lean that lists a variable, with what it lists TIED to the program's text (the seventh form; the later family's looks); each row that meets fmt, with fmt's text TOLD by the authors' own Lean function (tested against real Go, not proved from fmt's source: count such statements apart). THE CARD IS WHAT COUNTS. Prove the row's statement (the work); the ties are given (YtkoamfnbbhfaiaaGreatDoorTie.lean); close each card by the builder's one call (the guide's Derived/Test/ToyasCard.lean, 'card_holds'). Laid BY PROGRAM, IN A SANDBOX (cutbox-door.mjs). By AI agents, Wed Nov 11 2026. No macro, syntax, notation, axiom, sorry.
-/
import Derived.Test.YtkoamfnbbhfaiaaGreatDoorRows
import GoSem.ClaimSeven
namespace Go.Proofs.YtkoamfnbbhfaiaaGreatDoor
namespace Rows

/-- THE TIED CARD OF 'tidegatetop.TopStatesMatch'. -/
def topStatesMatchCard : Claim7 := { stood := { row := topStatesMatchRow, standIns := [], harness := (true, "ba6306a3e4f915db748fc8e0f434dee1fb6a926bd818e92d56d8eae59b0f6396"), looks := false }, kinds := [], alts := [], laidByText := true, laidKinds := [.data, .data, .data, .data], laidTests := true, laidLooks := .later }
def TopStatesMatchCardSaid : Prop := Claim7.holds Tryz.pinned (.plain (OpenSpec.ofChange topStatesMatchSpec)) topStatesMatchCard

/-- THE SECOND FORM's CARD OF 'tidegatetop.TopStatesMatch'. -/
def topStatesMatchUptoCard : Claim7 := { stood := { row := topStatesMatchUptoRow, standIns := [], harness := (true, "ba6306a3e4f915db748fc8e0f434dee1fb6a926bd818e92d56d8eae59b0f6396"), looks := false }, kinds := [], alts := [], laidByText := true, laidKinds := [.data, .data, .data, .data], laidTests := true, laidLooks := .later }
def TopStatesMatchUptoCardSaid : Prop := Claim7.holds Tryz.pinned (.plain (OpenSpec.upto topStatesMatchSpec)) topStatesMatchUptoCard
end Rows
end Go.Proofs.YtkoamfnbbhfaiaaGreatDoor
