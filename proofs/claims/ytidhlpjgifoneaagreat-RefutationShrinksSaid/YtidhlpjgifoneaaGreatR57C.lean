/- The row of RefutationShrinks, where what it reads is of bulk at most 1048576. -/
import Derived.Test.YtidhlpjgifoneaaGreatK36
set_option linter.unusedVariables false
set_option linter.unusedSimpArgs false
namespace Go.Proofs.YtidhlpjgifoneaaGreat
open Go.ChangeShapes Go.WideShapes Go.ChangeAt Go.RowKit
set_option maxRecDepth 100000 in
theorem shrinks57_lifted (os:Os)(started:os.Started)(H:Type)(enc:TypeId×Value->H)(F:Stop.Interp) :
  ReturnsInHanded {} Tryz.checked os 10 .any ((Rows.OpenSpec.upto Rows.refutationShrinksSpec).pre6 enc Tryz.prog Tryz.f10 Rows.refutationShrinksUptoRow.domain false) (((Rows.OpenSpec.upto Rows.refutationShrinksSpec).at F).post enc Tryz.prog Tryz.f10 false true false false) :=
 yas F (fr:=true) os started Tryz.func10 (by kernel_rfl)
  (OpenSpec.witness (enc:=enc) (C:=Tryz.checked) (s:=Rows.OpenSpec.upto Rows.refutationShrinksSpec) (k:=Rows.uptoSmall) rfl false ⟨#[],#[.agg #[.int .i64 0,.int .i64 0,.slice none 0 0,.slice none 0 0],.slice none 0 0],[]⟩ 8 (by kernel_rfl) (by kernel_rfl) (by kernel_rfl)
    (x:=([.agg [.lit (.int .i64 0),.lit (.int .i64 0),.nil,.nil],.nil],[],[])) (by kernel_rfl) rfl (by kernel_rfl))
  rfl (by kernel_rfl) (by kernel_rfl)
  (fun ds h=>match ds,h with|[_,_],_=>rfl)
  (fun W base args ds p hval h hbk=>by
    rw [Tryz.params10] at h hval
    obtain ⟨v0,v1,d0,d1,p0,p1,rfl,rfl,rfl,h0,h1⟩:=trodAll_two h
    obtain ⟨m0,r0,w0⟩:=ypm (hval 0 25 v0 rfl rfl) h0 (by simp only [Rows.uptoBulkAll] at hbk;omega)
    obtain ⟨m1,r1⟩:=yft (hval 1 26 v1 rfl rfl) h1
    exact ⟨_,ym3 r0 r1,y30 m0 w0 m1⟩)
set_option maxRecDepth 100000 in
theorem zuw:Tryz.prog.inPlace 10=Rows.refutationShrinksUptoRow.inPlace:=by kernel_rfl
set_option maxRecDepth 100000 in
theorem zs3:Tryz.prog.unfollowed 10=Rows.refutationShrinksUptoRow.unfollowed:=by kernel_rfl
set_option maxRecDepth 100000 in
theorem ztq:Tryz.prog.recurses 10=Rows.refutationShrinksUptoRow.recurses:=by kernel_rfl
set_option maxRecDepth 100000 in
theorem zt0:Tryz.prog.varsNamed 10=Rows.refutationShrinksUptoRow.named:=by kernel_rfl
set_option maxRecDepth 100000 in
theorem zwi:joinedFacts Tryz.pinned.checked.prog 10 Tryz.f10 (Rows.OpenSpec.upto Rows.refutationShrinksSpec).bare Rows.refutationShrinksUptoRow=true:=by
 have h1:Tryz.pinned.checked.prog.inPlace 10=Rows.refutationShrinksUptoRow.inPlace:=zuw
 have h2:Tryz.pinned.checked.prog.unfollowed 10=Rows.refutationShrinksUptoRow.unfollowed:=zs3
 have h3:Tryz.pinned.checked.prog.recurses 10=Rows.refutationShrinksUptoRow.recurses:=ztq
 have h4:Tryz.pinned.checked.prog.varsNamed 10=Rows.refutationShrinksUptoRow.named:=zt0
 unfold joinedFacts
 rw [h1,h2,h3,h4]
 first|kernel_rfl|(show _=true;kernel_rfl)|(refine Eq.trans ?_ rfl;kernel_rfl)|decide +kernel
theorem shrinks57_holds:Rows.RefutationShrinksUptoSaid :=
 OpenClaim.holds_of_cond 10 Tryz.f10 rfl rfl rfl rfl rfl rfl rfl ⟨rfl,rfl,rfl,rfl,rfl⟩ rfl rfl rfl rfl rfl (by kernel_rfl) Tryz.func10 zwi
  (of_decide_eq_true (by kernel_rfl)) (by unfold Func.isWrapper;first|(rw [if_pos (by decide +kernel)];kernel_rfl)|(rw [if_neg (by decide +kernel)];exact ⟨rfl,rfl⟩))
  (fun os started H enc _ F=>shrinks57_lifted os started H enc F)
end Go.Proofs.YtidhlpjgifoneaaGreat
