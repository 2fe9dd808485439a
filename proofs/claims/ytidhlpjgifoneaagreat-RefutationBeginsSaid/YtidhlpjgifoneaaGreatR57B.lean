/- The row of RefutationBegins, where what it reads is of bulk at most 1048576. -/
import Derived.Test.YtidhlpjgifoneaaGreatK35
set_option linter.unusedVariables false
set_option linter.unusedSimpArgs false
namespace Go.Proofs.YtidhlpjgifoneaaGreat
open Go.ChangeShapes Go.WideShapes Go.ChangeAt Go.RowKit
set_option maxRecDepth 100000 in
theorem begins57_lifted (os:Os)(started:os.Started)(H:Type)(enc:TypeId×Value->H)(F:Stop.Interp) :
  ReturnsInHanded {} Tryz.checked os 8 .any ((Rows.OpenSpec.upto Rows.refutationBeginsSpec).pre6 enc Tryz.prog Tryz.f8 Rows.refutationBeginsUptoRow.domain false) (((Rows.OpenSpec.upto Rows.refutationBeginsSpec).at F).post enc Tryz.prog Tryz.f8 false true false false) :=
 ya4 F (fr:=true) os started Tryz.func8 (by kernel_rfl)
  (OpenSpec.witness (enc:=enc) (C:=Tryz.checked) (s:=Rows.OpenSpec.upto Rows.refutationBeginsSpec) (k:=Rows.uptoSmall) rfl false ⟨#[],#[.agg #[.int .i64 0,.int .i64 0,.slice none 0 0,.slice none 0 0],.slice none 0 0,.int .u8 0],[]⟩ 8 (by kernel_rfl) (by kernel_rfl) (by kernel_rfl)
    (x:=([.agg [.lit (.int .i64 0),.lit (.int .i64 0),.nil,.nil],.nil,.lit (.int .u8 0)],[],[])) (by kernel_rfl) rfl (by kernel_rfl))
  rfl (by kernel_rfl) (by kernel_rfl)
  (fun ds h=>match ds,h with|[_,_,_],_=>rfl)
  (fun W base args ds p hval h hbk=>by
    rw [Tryz.params8] at h hval
    obtain ⟨v0,v1,v2,d0,d1,d2,p0,p1,p2,rfl,rfl,rfl,h0,h1,h2⟩:=trodAll_three h
    obtain ⟨m0,r0,w0⟩:=yov (hval 0 25 v0 rfl rfl) h0 (by simp only [Rows.uptoBulkAll] at hbk;omega)
    obtain ⟨m1,r1⟩:=yf3 (hval 1 26 v1 rfl rfl) h1
    obtain ⟨n2,b2,rfl⟩:=yme (hval 2 5 v2 rfl rfl) h2
    exact ⟨_,yf0 r0 r1 (Rep.int _ _),y8d m0 w0 m1 n2 b2⟩)
set_option maxRecDepth 100000 in
theorem zw8:Tryz.prog.inPlace 8=Rows.refutationBeginsUptoRow.inPlace:=by kernel_rfl
set_option maxRecDepth 100000 in
theorem zsy:Tryz.prog.unfollowed 8=Rows.refutationBeginsUptoRow.unfollowed:=by kernel_rfl
set_option maxRecDepth 100000 in
theorem zux:Tryz.prog.recurses 8=Rows.refutationBeginsUptoRow.recurses:=by kernel_rfl
set_option maxRecDepth 100000 in
theorem zu0:Tryz.prog.varsNamed 8=Rows.refutationBeginsUptoRow.named:=by kernel_rfl
set_option maxRecDepth 100000 in
theorem zz2:joinedFacts Tryz.pinned.checked.prog 8 Tryz.f8 (Rows.OpenSpec.upto Rows.refutationBeginsSpec).bare Rows.refutationBeginsUptoRow=true:=by
 have h1:Tryz.pinned.checked.prog.inPlace 8=Rows.refutationBeginsUptoRow.inPlace:=zw8
 have h2:Tryz.pinned.checked.prog.unfollowed 8=Rows.refutationBeginsUptoRow.unfollowed:=zsy
 have h3:Tryz.pinned.checked.prog.recurses 8=Rows.refutationBeginsUptoRow.recurses:=zux
 have h4:Tryz.pinned.checked.prog.varsNamed 8=Rows.refutationBeginsUptoRow.named:=zu0
 unfold joinedFacts
 rw [h1,h2,h3,h4]
 first|kernel_rfl|(show _=true;kernel_rfl)|(refine Eq.trans ?_ rfl;kernel_rfl)|decide +kernel
theorem begins57_holds:Rows.RefutationBeginsUptoSaid :=
 OpenClaim.holds_of_cond 8 Tryz.f8 rfl rfl rfl rfl rfl rfl rfl ⟨rfl,rfl,rfl,rfl,rfl⟩ rfl rfl rfl rfl rfl (by kernel_rfl) Tryz.func8 zz2
  (of_decide_eq_true (by kernel_rfl)) (by unfold Func.isWrapper;first|(rw [if_pos (by decide +kernel)];kernel_rfl)|(rw [if_neg (by decide +kernel)];exact ⟨rfl,rfl⟩))
  (fun os started H enc _ F=>begins57_lifted os started H enc F)
end Go.Proofs.YtidhlpjgifoneaaGreat
