/- The row of RefutationProves, where what it reads is of bulk at most 1048576. -/
import Derived.Test.YtidhlpjgifoneaaGreatK36
set_option linter.unusedVariables false
set_option linter.unusedSimpArgs false
namespace Go.Proofs.YtidhlpjgifoneaaGreat
open Go.ChangeShapes Go.WideShapes Go.ChangeAt Go.RowKit
set_option maxRecDepth 100000 in
theorem proves57_lifted (os:Os)(started:os.Started)(H:Type)(enc:TypeId×Value->H)(F:Stop.Interp) :
  ReturnsInHanded {} Tryz.checked os 7 .any ((Rows.OpenSpec.upto Rows.refutationProvesSpec).pre6 enc Tryz.prog Tryz.f7 Rows.refutationProvesUptoRow.domain false) (((Rows.OpenSpec.upto Rows.refutationProvesSpec).at F).post enc Tryz.prog Tryz.f7 false true false false) :=
 y9n F (fr:=true) os started Tryz.func7 (by kernel_rfl)
  (OpenSpec.witness (enc:=enc) (C:=Tryz.checked) (s:=Rows.OpenSpec.upto Rows.refutationProvesSpec) (k:=Rows.uptoSmall) rfl false ⟨#[],#[.agg #[.int .i64 0,.int .i64 0,.slice none 0 0,.slice none 0 0],.slice none 0 0,.agg #[.slice none 0 0]],[]⟩ 8 (by kernel_rfl) (by kernel_rfl) (by kernel_rfl)
    (x:=([.agg [.lit (.int .i64 0),.lit (.int .i64 0),.nil,.nil],.nil,.agg [.nil]],[],[])) (by kernel_rfl) rfl (by kernel_rfl))
  rfl (by kernel_rfl) (by kernel_rfl)
  (fun ds h=>match ds,h with|[_,_,_],_=>rfl)
  (fun W base args ds p hval h hbk=>by
    rw [Tryz.params7] at h hval
    obtain ⟨v0,v1,v2,d0,d1,d2,p0,p1,p2,rfl,rfl,rfl,h0,h1,h2⟩:=trodAll_three h
    obtain ⟨m0,r0,w0⟩:=ypm (hval 0 25 v0 rfl rfl) h0 (by simp only [Rows.uptoBulkAll] at hbk;omega)
    obtain ⟨m1,r1⟩:=yeu (hval 1 26 v1 rfl rfl) h1
    obtain ⟨m2,r2⟩:=zwh (hval 2 31 v2 rfl rfl) h2
    exact ⟨_,yem r0 r1 r2,y4j m0 w0 m1 m2⟩)
set_option maxRecDepth 100000 in
theorem zqt:Tryz.prog.inPlace 7=Rows.refutationProvesUptoRow.inPlace:=by kernel_rfl
set_option maxRecDepth 100000 in
theorem znv:Tryz.prog.unfollowed 7=Rows.refutationProvesUptoRow.unfollowed:=by kernel_rfl
set_option maxRecDepth 100000 in
theorem zpk:Tryz.prog.recurses 7=Rows.refutationProvesUptoRow.recurses:=by kernel_rfl
set_option maxRecDepth 100000 in
theorem zol:Tryz.prog.varsNamed 7=Rows.refutationProvesUptoRow.named:=by kernel_rfl
set_option maxRecDepth 100000 in
theorem zsi:joinedFacts Tryz.pinned.checked.prog 7 Tryz.f7 (Rows.OpenSpec.upto Rows.refutationProvesSpec).bare Rows.refutationProvesUptoRow=true:=by
 have h1:Tryz.pinned.checked.prog.inPlace 7=Rows.refutationProvesUptoRow.inPlace:=zqt
 have h2:Tryz.pinned.checked.prog.unfollowed 7=Rows.refutationProvesUptoRow.unfollowed:=znv
 have h3:Tryz.pinned.checked.prog.recurses 7=Rows.refutationProvesUptoRow.recurses:=zpk
 have h4:Tryz.pinned.checked.prog.varsNamed 7=Rows.refutationProvesUptoRow.named:=zol
 unfold joinedFacts
 rw [h1,h2,h3,h4]
 first|kernel_rfl|(show _=true;kernel_rfl)|(refine Eq.trans ?_ rfl;kernel_rfl)|decide +kernel
theorem proves57_holds:Rows.RefutationProvesUptoSaid :=
 OpenClaim.holds_of_cond 7 Tryz.f7 rfl rfl rfl rfl rfl rfl rfl ⟨rfl,rfl,rfl,rfl,rfl⟩ rfl rfl rfl rfl rfl (by kernel_rfl) Tryz.func7 zsi
  (of_decide_eq_true (by kernel_rfl)) (by unfold Func.isWrapper;first|(rw [if_pos (by decide +kernel)];kernel_rfl)|(rw [if_neg (by decide +kernel)];exact ⟨rfl,rfl⟩))
  (fun os started H enc _ F=>proves57_lifted os started H enc F)
end Go.Proofs.YtidhlpjgifoneaaGreat
