/- The row of RefutationDecides, where what it reads is of bulk at most 1048576. -/
import Derived.Test.YtidhlpjgifoneaaGreatK36
set_option linter.unusedVariables false
set_option linter.unusedSimpArgs false
namespace Go.Proofs.YtidhlpjgifoneaaGreat
open Go.ChangeShapes Go.WideShapes Go.ChangeAt Go.RowKit
set_option maxRecDepth 100000 in
theorem decides57_lifted (os:Os)(started:os.Started)(H:Type)(enc:TypeId×Value->H)(F:Stop.Interp) :
  ReturnsInHanded {} Tryz.checked os 6 .any ((Rows.OpenSpec.upto Rows.refutationDecidesSpec).pre6 enc Tryz.prog Tryz.f6 Rows.refutationDecidesUptoRow.domain false) (((Rows.OpenSpec.upto Rows.refutationDecidesSpec).at F).post enc Tryz.prog Tryz.f6 false true false false) :=
 zsj F (fr:=true) os started Tryz.func6 (by kernel_rfl)
  (OpenSpec.witness (enc:=enc) (C:=Tryz.checked) (s:=Rows.OpenSpec.upto Rows.refutationDecidesSpec) (k:=Rows.uptoSmall) rfl false ⟨#[],#[.agg #[.int .i64 0,.int .i64 0,.slice none 0 0,.slice none 0 0],.slice none 0 0],[]⟩ 8 (by kernel_rfl) (by kernel_rfl) (by kernel_rfl)
    (x:=([.agg [.lit (.int .i64 0),.lit (.int .i64 0),.nil,.nil],.nil],[],[])) (by kernel_rfl) rfl (by kernel_rfl))
  rfl (by kernel_rfl) (by kernel_rfl)
  (fun ds h=>match ds,h with|[_,_],_=>rfl)
  (fun W base args ds p hval h hbk=>by
    rw [Tryz.params6] at h hval
    obtain ⟨v0,v1,d0,d1,p0,p1,rfl,rfl,rfl,h0,h1⟩:=trodAll_two h
    obtain ⟨m0,r0,w0⟩:=yal (hval 0 25 v0 rfl rfl) h0 (by simp only [Rows.uptoBulkAll] at hbk;omega)
    obtain ⟨m1,r1⟩:=zv1 (hval 1 26 v1 rfl rfl) h1
    exact ⟨_,y3u r0 r1,y2k m0 w0 m1⟩)
set_option maxRecDepth 100000 in
theorem zup:Tryz.prog.inPlace 6=Rows.refutationDecidesUptoRow.inPlace:=by kernel_rfl
set_option maxRecDepth 100000 in
theorem zrn:Tryz.prog.unfollowed 6=Rows.refutationDecidesUptoRow.unfollowed:=by kernel_rfl
set_option maxRecDepth 100000 in
theorem ztr:Tryz.prog.recurses 6=Rows.refutationDecidesUptoRow.recurses:=by kernel_rfl
set_option maxRecDepth 100000 in
theorem zsp:Tryz.prog.varsNamed 6=Rows.refutationDecidesUptoRow.named:=by kernel_rfl
set_option maxRecDepth 100000 in
theorem zvw:joinedFacts Tryz.pinned.checked.prog 6 Tryz.f6 (Rows.OpenSpec.upto Rows.refutationDecidesSpec).bare Rows.refutationDecidesUptoRow=true:=by
 have h1:Tryz.pinned.checked.prog.inPlace 6=Rows.refutationDecidesUptoRow.inPlace:=zup
 have h2:Tryz.pinned.checked.prog.unfollowed 6=Rows.refutationDecidesUptoRow.unfollowed:=zrn
 have h3:Tryz.pinned.checked.prog.recurses 6=Rows.refutationDecidesUptoRow.recurses:=ztr
 have h4:Tryz.pinned.checked.prog.varsNamed 6=Rows.refutationDecidesUptoRow.named:=zsp
 unfold joinedFacts
 rw [h1,h2,h3,h4]
 first|kernel_rfl|(show _=true;kernel_rfl)|(refine Eq.trans ?_ rfl;kernel_rfl)|decide +kernel
theorem decides57_holds:Rows.RefutationDecidesUptoSaid :=
 OpenClaim.holds_of_cond 6 Tryz.f6 rfl rfl rfl rfl rfl rfl rfl ⟨rfl,rfl,rfl,rfl,rfl⟩ rfl rfl rfl rfl rfl (by kernel_rfl) Tryz.func6 zvw
  (of_decide_eq_true (by kernel_rfl)) (by unfold Func.isWrapper;first|(rw [if_pos (by decide +kernel)];kernel_rfl)|(rw [if_neg (by decide +kernel)];exact ⟨rfl,rfl⟩))
  (fun os started H enc _ F=>decides57_lifted os started H enc F)
end Go.Proofs.YtidhlpjgifoneaaGreat
