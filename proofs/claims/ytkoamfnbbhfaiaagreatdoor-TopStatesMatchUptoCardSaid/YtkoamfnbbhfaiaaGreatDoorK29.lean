/- TopStatesMatch. -/
import Derived.Test.YtkoamfnbbhfaiaaGreatDoorRows
import Derived.ProofKit
import Derived.Carry
import Derived.JoinedCond
set_option linter.unusedVariables false
namespace Go.Proofs.YtkoamfnbbhfaiaaGreatDoor
open Go.ChangeShapes Go.WideShapes Go.ChangeAt Go.RowKit
set_option maxRecDepth 100000 in
theorem z8i:Tryz.prog.inPlace 3=Rows.topStatesMatchUptoRow.inPlace:=by kernel_rfl
set_option maxRecDepth 100000 in
theorem z79:Tryz.prog.unfollowed 3=Rows.topStatesMatchUptoRow.unfollowed:=by kernel_rfl
set_option maxRecDepth 100000 in
theorem z7y:Tryz.prog.recurses 3=Rows.topStatesMatchUptoRow.recurses:=by kernel_rfl
set_option maxRecDepth 100000 in
theorem z7j:Tryz.prog.varsNamed 3=Rows.topStatesMatchUptoRow.named:=by kernel_rfl
end Go.Proofs.YtkoamfnbbhfaiaaGreatDoor
