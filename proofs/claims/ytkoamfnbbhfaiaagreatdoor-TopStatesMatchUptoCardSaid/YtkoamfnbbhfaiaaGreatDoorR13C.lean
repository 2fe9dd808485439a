/- TopStatesMatch, where what it reads is of bulk at most 1048576: the row, the card. -/
import Derived.Test.YtkoamfnbbhfaiaaGreatDoorK28
import Derived.Test.YtkoamfnbbhfaiaaGreatDoorK29
import Derived.Test.YtkoamfnbbhfaiaaGreatDoorCards
import Derived.Test.YtkoamfnbbhfaiaaGreatDoorTie
set_option linter.unusedVariables false
set_option linter.unusedSimpArgs false
namespace Go.Proofs.YtkoamfnbbhfaiaaGreatDoor
open Go.ChangeShapes Go.WideShapes Go.ChangeAt Go.RowKit
set_option maxRecDepth 100000 in
theorem z8u:joinedFacts Tryz.pinned.checked.prog 3 Tryz.f3 (Rows.OpenSpec.upto Rows.topStatesMatchSpec).bare Rows.topStatesMatchUptoRow=true:=by
 have h1:Tryz.pinned.checked.prog.inPlace 3=Rows.topStatesMatchUptoRow.inPlace:=z8i
 have h2:Tryz.pinned.checked.prog.unfollowed 3=Rows.topStatesMatchUptoRow.unfollowed:=z79
 have h3:Tryz.pinned.checked.prog.recurses 3=Rows.topStatesMatchUptoRow.recurses:=z7y
 have h4:Tryz.pinned.checked.prog.varsNamed 3=Rows.topStatesMatchUptoRow.named:=z7j
 unfold joinedFacts
 rw [h1,h2,h3,h4]
 first|kernel_rfl|(show _=true;kernel_rfl)|(refine Eq.trans ?_ rfl;kernel_rfl)|decide +kernel
set_option maxRecDepth 100000 in
theorem zd3:Rows.TopStatesMatchUptoSaid :=
 OpenClaim.holds_of_cond 3 Tryz.f3 rfl rfl rfl rfl rfl rfl rfl ⟨rfl,rfl,rfl,rfl,rfl⟩ rfl rfl rfl rfl rfl (by kernel_rfl) Tryz.func3 z8u
  (of_decide_eq_true (by kernel_rfl)) (by unfold Func.isWrapper;first|(rw [if_pos (by decide +kernel)];kernel_rfl)|(rw [if_neg (by decide +kernel)];exact ⟨rfl,rfl⟩))
  (fun os started H enc _ F=>by rw [OpenClaim.pre_eq_preRow];exact states13_lifted os started H enc F)
theorem zaj (f : FuncId)(fn : Func)(hf : Tryz.pinned.checked.prog.funcNamed "tidegate/tidegatetop.TopStatesMatch" = some f)(hfn : Tryz.pinned.checked.prog.funcs[f]? = some fn) :
  false=Tryz.pinned.checked.prog.looks []/\∀ (j:Nat) t,fn.params[j]? = some t->Tryz.pinned.checked.prog.wantsStandIn t=false:=by
 obtain rfl : f = 3 := Option.some.inj ((show Tryz.prog.funcNamed "tidegate/tidegatetop.TopStatesMatch" = some 3 by kernel_rfl).symm.trans hf) |>.symm
 obtain rfl:fn=Tryz.f3:=(Option.some.inj (Tryz.func3.symm.trans hfn)).symm
 refine ⟨by kernel_rfl,fun j t ht=>?_⟩
 rw [Tryz.params3] at ht
 match j,ht with
 |0,ht=>obtain rfl:25=t:=Option.some.inj ht;exact (show Tryz.prog.wantsStandIn 25=false by kernel_rfl)
 |1,ht=>obtain rfl:26=t:=Option.some.inj ht;exact (show Tryz.prog.wantsStandIn 26=false by kernel_rfl)
 |j+2,ht=>exact absurd ht (by simp)
theorem states13_card:Rows.TopStatesMatchUptoCardSaid :=
 Claim7.holds_tied_plain_at .later [] _ _ _ _ zd3 (fun _ h=>by cases h) (by kernel_rfl) (fun _ h=>by cases h) topStatesMatchUpto_row_tie rfl ⟨rfl,rfl⟩ (by kernel_rfl) rfl zaj (by kernel_rfl)
end Go.Proofs.YtkoamfnbbhfaiaaGreatDoor
