/- The row of RefutationConcludes, where what it reads is of bulk at most 1048576. -/
import Derived.Test.YtidhlpjgifoneaaGreatK38
import Derived.Test.YtidhlpjgifoneaaGreatK39
set_option linter.unusedVariables false
set_option linter.unusedSimpArgs false
namespace Go.Proofs.YtidhlpjgifoneaaGreat
open Go.ChangeShapes Go.WideShapes Go.ChangeAt Go.RowKit
set_option maxRecDepth 100000 in
theorem concludes57_lifted (os:Os)(started:os.Started)(H:Type)(enc:TypeId×Value->H)(F:Stop.Interp) :
  ReturnsInHanded {} Tryz.checked os 5 .any ((Rows.OpenSpec.upto Rows.refutationConcludesSpec).pre6 enc Tryz.prog Tryz.f5 Rows.refutationConcludesUptoRow.domain false) (((Rows.OpenSpec.upto Rows.refutationConcludesSpec).at F).post enc Tryz.prog Tryz.f5 false true false false) :=
 zop F (fr:=true) os started Tryz.func5 (by kernel_rfl)
  (OpenSpec.witness (enc:=enc) (C:=Tryz.checked) (s:=Rows.OpenSpec.upto Rows.refutationConcludesSpec) (k:=Rows.uptoSmall) rfl false ⟨#[],#[.agg #[.int .i64 0,.int .i64 0,.slice none 0 0,.slice none 0 0],.slice none 0 0],[]⟩ 8 (by kernel_rfl) (by kernel_rfl) (by kernel_rfl)
    (x:=([.agg [.lit (.int .i64 0),.lit (.int .i64 0),.nil,.nil],.nil],[],[])) (by kernel_rfl) rfl (by kernel_rfl))
  rfl (by kernel_rfl) (by kernel_rfl)
  (fun ds h=>match ds,h with|[_,_],_=>rfl)
  (fun W base args ds p hval h hbk=>by
    rw [Tryz.params5] at h hval
    obtain ⟨v0,v1,d0,d1,p0,p1,rfl,rfl,rfl,h0,h1⟩:=trodAll_two h
    obtain ⟨m0,r0,w0⟩:=y37 (hval 0 25 v0 rfl rfl) h0 (by simp only [Rows.uptoBulkAll] at hbk;omega)
    obtain ⟨m1,r1⟩:=zt3 (hval 1 26 v1 rfl rfl) h1
    exact ⟨_,zzp r0 r1,zdt m0 w0 m1⟩)
set_option maxRecDepth 100000 in
theorem za8:Tryz.prog.inPlace 5=Rows.refutationConcludesUptoRow.inPlace:=by kernel_rfl
set_option maxRecDepth 100000 in
theorem z7q:Tryz.prog.unfollowed 5=Rows.refutationConcludesUptoRow.unfollowed:=by kernel_rfl
set_option maxRecDepth 100000 in
theorem z9h:Tryz.prog.recurses 5=Rows.refutationConcludesUptoRow.recurses:=by kernel_rfl
set_option maxRecDepth 100000 in
theorem z8d:Tryz.prog.varsNamed 5=Rows.refutationConcludesUptoRow.named:=by kernel_rfl
set_option maxRecDepth 100000 in
theorem zav:joinedFacts Tryz.pinned.checked.prog 5 Tryz.f5 (Rows.OpenSpec.upto Rows.refutationConcludesSpec).bare Rows.refutationConcludesUptoRow=true:=by
 have h1:Tryz.pinned.checked.prog.inPlace 5=Rows.refutationConcludesUptoRow.inPlace:=za8
 have h2:Tryz.pinned.checked.prog.unfollowed 5=Rows.refutationConcludesUptoRow.unfollowed:=z7q
 have h3:Tryz.pinned.checked.prog.recurses 5=Rows.refutationConcludesUptoRow.recurses:=z9h
 have h4:Tryz.pinned.checked.prog.varsNamed 5=Rows.refutationConcludesUptoRow.named:=z8d
 unfold joinedFacts
 rw [h1,h2,h3,h4]
 first|kernel_rfl|(show _=true;kernel_rfl)|(refine Eq.trans ?_ rfl;kernel_rfl)|decide +kernel
theorem concludes57_holds:Rows.RefutationConcludesUptoSaid :=
 OpenClaim.holds_of_cond 5 Tryz.f5 rfl rfl rfl rfl rfl rfl rfl ⟨rfl,rfl,rfl,rfl,rfl⟩ rfl rfl rfl rfl rfl (by kernel_rfl) Tryz.func5 zav
  (of_decide_eq_true (by kernel_rfl)) (by unfold Func.isWrapper;first|(rw [if_pos (by decide +kernel)];kernel_rfl)|(rw [if_neg (by decide +kernel)];exact ⟨rfl,rfl⟩))
  (fun os started H enc _ F=>concludes57_lifted os started H enc F)
end Go.Proofs.YtidhlpjgifoneaaGreat
