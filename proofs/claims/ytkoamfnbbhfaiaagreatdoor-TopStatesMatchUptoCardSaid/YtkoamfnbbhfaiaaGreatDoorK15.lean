/- Closed runs. -/
import Derived.Test.YtkoamfnbbhfaiaaGreatDoorK14

namespace Go.Proofs.YtkoamfnbbhfaiaaGreatDoor
open Go.RowKit
def NR.isT:NR->Bool |.ok (.bool true) [] [] _=>true |_=>false
theorem NR.isT_ok {r:NR}(h:r.isT=true):∃ k,r=.ok (.bool true) [] [] k:=by
 unfold NR.isT at h;split at h
 ·exact ⟨_,rfl⟩
 ·cases h
set_option maxRecDepth 1000000 in
theorem zig:(Mo Xc (evX Xc 10000) 4 [] [] (fun _=>none) 0).isT=true:=by kernel_rfl
theorem za5:Bh Ec 4/\ConX Ec (Hu Ec.P 4) [] [] (.bool true) []:=by
 obtain ⟨k,h⟩:=NR.isT_ok zig
 exact zor (X:=Xc) ⟨rfl,rfl,rfl⟩ h
end Go.Proofs.YtkoamfnbbhfaiaaGreatDoor
