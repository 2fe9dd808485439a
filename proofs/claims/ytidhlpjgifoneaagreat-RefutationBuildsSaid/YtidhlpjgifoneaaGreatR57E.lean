/- The row of RefutationBuilds, where what it reads is of bulk at most 1048576. -/
import Derived.Test.YtidhlpjgifoneaaGreatK36
set_option linter.unusedVariables false
set_option linter.unusedSimpArgs false
namespace Go.Proofs.YtidhlpjgifoneaaGreat
open Go.ChangeShapes Go.WideShapes Go.ChangeAt Go.RowKit
set_option maxRecDepth 100000 in
theorem builds57_lifted (os:Os)(started:os.Started)(H:Type)(enc:TypeId×Value->H)(F:Stop.Interp) :
  ReturnsInHanded {} Tryz.checked os 3 .any ((Rows.OpenSpec.upto Rows.refutationBuildsSpec).pre6 enc Tryz.prog Tryz.f3 Rows.refutationBuildsUptoRow.domain false) (((Rows.OpenSpec.upto Rows.refutationBuildsSpec).at F).post enc Tryz.prog Tryz.f3 false true false false) :=
 yby F (fr:=true) os started Tryz.func3 (by kernel_rfl)
  (OpenSpec.witness (enc:=enc) (C:=Tryz.checked) (s:=Rows.OpenSpec.upto Rows.refutationBuildsSpec) (k:=Rows.uptoSmall) rfl false ⟨#[],#[.agg #[.int .i64 0,.int .i64 0,.slice none 0 0,.slice none 0 0],.slice none 0 0],[]⟩ 8 (by kernel_rfl) (by kernel_rfl) (by kernel_rfl)
    (x:=([.agg [.lit (.int .i64 0),.lit (.int .i64 0),.nil,.nil],.nil],[],[])) (by kernel_rfl) rfl (by kernel_rfl))
  rfl (by kernel_rfl) (by kernel_rfl)
  (fun ds h=>match ds,h with|[_,_],_=>rfl)
  (fun W base args ds p hval h hbk=>by
    rw [Tryz.params3] at h hval
    obtain ⟨v0,v1,d0,d1,p0,p1,rfl,rfl,rfl,h0,h1⟩:=trodAll_two h
    obtain ⟨m0,r0,w0⟩:=ypl (hval 0 25 v0 rfl rfl) h0 (by simp only [Rows.uptoBulkAll] at hbk;omega)
    obtain ⟨m1,r1⟩:=ygq (hval 1 26 v1 rfl rfl) h1
    exact ⟨_,yma r0 r1,ya2 m0 w0 m1⟩)
set_option maxRecDepth 100000 in
theorem zy8:Tryz.prog.inPlace 3=Rows.refutationBuildsUptoRow.inPlace:=by kernel_rfl
set_option maxRecDepth 100000 in
theorem zuz:Tryz.prog.unfollowed 3=Rows.refutationBuildsUptoRow.unfollowed:=by kernel_rfl
set_option maxRecDepth 100000 in
theorem zx2:Tryz.prog.recurses 3=Rows.refutationBuildsUptoRow.recurses:=by kernel_rfl
set_option maxRecDepth 100000 in
theorem zw2:Tryz.prog.varsNamed 3=Rows.refutationBuildsUptoRow.named:=by kernel_rfl
set_option maxRecDepth 100000 in
theorem y0v:joinedFacts Tryz.pinned.checked.prog 3 Tryz.f3 (Rows.OpenSpec.upto Rows.refutationBuildsSpec).bare Rows.refutationBuildsUptoRow=true:=by
 have h1:Tryz.pinned.checked.prog.inPlace 3=Rows.refutationBuildsUptoRow.inPlace:=zy8
 have h2:Tryz.pinned.checked.prog.unfollowed 3=Rows.refutationBuildsUptoRow.unfollowed:=zuz
 have h3:Tryz.pinned.checked.prog.recurses 3=Rows.refutationBuildsUptoRow.recurses:=zx2
 have h4:Tryz.pinned.checked.prog.varsNamed 3=Rows.refutationBuildsUptoRow.named:=zw2
 unfold joinedFacts
 rw [h1,h2,h3,h4]
 first|kernel_rfl|(show _=true;kernel_rfl)|(refine Eq.trans ?_ rfl;kernel_rfl)|decide +kernel
theorem builds57_holds:Rows.RefutationBuildsUptoSaid :=
 OpenClaim.holds_of_cond 3 Tryz.f3 rfl rfl rfl rfl rfl rfl rfl ⟨rfl,rfl,rfl,rfl,rfl⟩ rfl rfl rfl rfl rfl (by kernel_rfl) Tryz.func3 y0v
  (of_decide_eq_true (by kernel_rfl)) (by unfold Func.isWrapper;first|(rw [if_pos (by decide +kernel)];kernel_rfl)|(rw [if_neg (by decide +kernel)];exact ⟨rfl,rfl⟩))
  (fun os started H enc _ F=>builds57_lifted os started H enc F)
end Go.Proofs.YtidhlpjgifoneaaGreat
