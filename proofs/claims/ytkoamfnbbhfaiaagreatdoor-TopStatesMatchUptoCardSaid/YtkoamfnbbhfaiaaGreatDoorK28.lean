/- TopStatesMatch. -/
import Derived.Test.YtkoamfnbbhfaiaaGreatDoorK17
import Derived.Test.YtkoamfnbbhfaiaaGreatDoorK27
set_option linter.unusedVariables false
set_option linter.unusedSimpArgs false
namespace Go.Proofs.YtkoamfnbbhfaiaaGreatDoor
open Go.ChangeShapes Go.WideShapes Go.ChangeAt Go.RowKit
theorem zfg (a:Ao)(b:WfA a)(l:List A7):ConL Ec true 3 [C1 a,.sl 5 (l.map A6)] (.bool true):=z0g (znq a b l)
abbrev Yd:Array Value:=#[.agg #[.int .i64 0,.int .i64 0,.slice none 0 0,.slice none 0 0],.slice none 0 0]
set_option maxRecDepth 100000 in
theorem zsl (a:Os):laidMet Tryz.prog Rows.topStatesMatchUptoRow.laid ((Zv a).forCall (fun _ _=>0) ⟨#[],Yd,[]⟩).memory :=
 laidMet_of_run' 8 (by kernel_rfl) (by kernel_rfl)
set_option maxRecDepth 100000 in
theorem zuq (a:Os){H:Type}(enc:TypeId×Value->H):∃ places,DataW.whole enc Tryz.prog ((Zv a).forCall (fun _ _=>0) ⟨#[],Yd,[]⟩).memory Tryz.f3.params.toList Rows.topStatesMatchSpec.vars false Yd.toList 8=some ([.agg [.lit (.int .i64 0),.lit (.int .i64 0),.nil,.nil],.nil],[],places) :=
 ⟨[],by kernel_rfl⟩
set_option maxRecDepth 100000 in
theorem states13_lifted (b:Os)(started:b.Started)(H:Type)(enc:TypeId×Value->H)(F:Stop.Interp) :
  ReturnsInHanded {} Tryz.checked b 3 .any ((Rows.OpenSpec.upto Rows.topStatesMatchSpec).preRow enc Tryz.prog Tryz.f3 Rows.topStatesMatchUptoRow.domain false Rows.topStatesMatchUptoRow.laid) (((Rows.OpenSpec.upto Rows.topStatesMatchSpec).at F).post enc Tryz.prog Tryz.f3 false true false false):=by
 obtain ⟨places,l⟩:=zuq b enc;exact zk8 F (fr:=true) b started Tryz.func3 (by kernel_rfl)
  (witness_row_at (enc:=enc) (C:=Tryz.checked) false (Zv b) Yd rfl (by kernel_rfl) (by kernel_rfl) (by kernel_rfl)
    (OpenSpec.preRow_of_cond 8 l (by kernel_rfl) (fun k m=>by cases m;kernel_rfl) (by kernel_rfl) (zsl b)))
  rfl (by kernel_rfl) (by kernel_rfl)
  (fun ds h=>match ds,h with|[_,_],_=>rfl)
  (fun W base args ds p a h c=>by
    rw [Tryz.params3] at h a;obtain ⟨e,d,s,r,q,o,rfl,rfl,rfl,n,h1⟩:=trodAll_two h;obtain ⟨j,g,w0⟩:=zwy (a 0 25 e rfl rfl) n (by simp only [Rows.uptoBulkAll] at c;omega);obtain ⟨i,f⟩:=zo3 (a 1 26 d rfl rfl) h1;exact ⟨_,zte g f,zfg j w0 i⟩)
end Go.Proofs.YtkoamfnbbhfaiaaGreatDoor
