/- The row of TopBoundsHold, where what it reads is of bulk at most 1048576. -/
import Derived.Test.YthbogefcfhmpgaaGreatK12
set_option linter.unusedVariables false
set_option linter.unusedSimpArgs false
namespace Go.Proofs.YthbogefcfhmpgaaGreat
open Go.ChangeShapes Go.WideShapes Go.ChangeAt Go.RowKit
set_option maxRecDepth 100000 in
theorem holds58_lifted (os:Os)(started:os.Started)(H:Type)(enc:TypeId×Value->H)(F:Stop.Interp) :
  ReturnsInHanded {} Tryz.checked os 3 .any ((Rows.OpenSpec.upto Rows.topBoundsHoldSpec).pre6 enc Tryz.prog Tryz.f3 Rows.topBoundsHoldUptoRow.domain false) (((Rows.OpenSpec.upto Rows.topBoundsHoldSpec).at F).post enc Tryz.prog Tryz.f3 false true false false) :=
 zk0 F (fr:=true) os started Tryz.func3 (by kernel_rfl)
  (OpenSpec.witness (enc:=enc) (C:=Tryz.checked) (s:=Rows.OpenSpec.upto Rows.topBoundsHoldSpec) (k:=Rows.uptoSmall) rfl false ⟨#[],#[.agg #[.slice none 0 0,.int .i64 0,.int .i64 0,.slice none 0 0,.slice none 0 0,.int .i64 0],.slice none 0 0],[]⟩ 8 (by kernel_rfl) (by kernel_rfl) (by kernel_rfl)
    (x:=([.agg [.nil,.agg [.lit (.int .i64 0),.lit (.int .i64 0),.nil,.nil],.lit (.int .i64 0)],.nil],[],[])) (by kernel_rfl) rfl (by kernel_rfl))
  rfl (by kernel_rfl) (by kernel_rfl)
  (fun ds h=>match ds,h with|[_,_],_=>rfl)
  (fun W base args ds p hval h hbk=>by
    rw [Tryz.params3] at h hval
    obtain ⟨v0,v1,d0,d1,p0,p1,rfl,rfl,rfl,h0,h1⟩:=trodAll_two h
    obtain ⟨m0,r0,w0,t0⟩:=y7a (hval 0 28 v0 rfl rfl) h0 (by simp only [Rows.uptoBulkAll] at hbk;omega)
    obtain ⟨m1,r1⟩:=zo0 (hval 1 29 v1 rfl rfl) h1
    exact ⟨_,y76 r0 r1,zwj m0 w0 t0 m1⟩)
set_option maxRecDepth 100000 in
theorem zk4:Tryz.prog.inPlace 3=Rows.topBoundsHoldUptoRow.inPlace:=by kernel_rfl
set_option maxRecDepth 100000 in
theorem zfr:Tryz.prog.unfollowed 3=Rows.topBoundsHoldUptoRow.unfollowed:=by kernel_rfl
set_option maxRecDepth 100000 in
theorem zhv:Tryz.prog.recurses 3=Rows.topBoundsHoldUptoRow.recurses:=by kernel_rfl
set_option maxRecDepth 100000 in
theorem zgq:Tryz.prog.varsNamed 3=Rows.topBoundsHoldUptoRow.named:=by kernel_rfl
set_option maxRecDepth 100000 in
theorem zlm:joinedFacts Tryz.pinned.checked.prog 3 Tryz.f3 (Rows.OpenSpec.upto Rows.topBoundsHoldSpec).bare Rows.topBoundsHoldUptoRow=true:=by
 have h1:Tryz.pinned.checked.prog.inPlace 3=Rows.topBoundsHoldUptoRow.inPlace:=zk4
 have h2:Tryz.pinned.checked.prog.unfollowed 3=Rows.topBoundsHoldUptoRow.unfollowed:=zfr
 have h3:Tryz.pinned.checked.prog.recurses 3=Rows.topBoundsHoldUptoRow.recurses:=zhv
 have h4:Tryz.pinned.checked.prog.varsNamed 3=Rows.topBoundsHoldUptoRow.named:=zgq
 unfold joinedFacts
 rw [h1,h2,h3,h4]
 first|kernel_rfl|(show _=true;kernel_rfl)|(refine Eq.trans ?_ rfl;kernel_rfl)|decide +kernel
theorem holds58_holds:Rows.TopBoundsHoldUptoSaid :=
 OpenClaim.holds_of_cond 3 Tryz.f3 rfl rfl rfl rfl rfl rfl rfl ⟨rfl,rfl,rfl,rfl,rfl⟩ rfl rfl rfl rfl rfl (by kernel_rfl) Tryz.func3 zlm
  (of_decide_eq_true (by kernel_rfl)) (by unfold Func.isWrapper;first|(rw [if_pos (by decide +kernel)];kernel_rfl)|(rw [if_neg (by decide +kernel)];exact ⟨rfl,rfl⟩))
  (fun os started H enc _ F=>holds58_lifted os started H enc F)
end Go.Proofs.YthbogefcfhmpgaaGreat
