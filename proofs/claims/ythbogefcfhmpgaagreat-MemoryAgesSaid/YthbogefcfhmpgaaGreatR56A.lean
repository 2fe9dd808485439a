/- The row of MemoryAges, where what it reads is of bulk at most 1048576. -/
import Derived.Test.YthbogefcfhmpgaaGreatK25
set_option linter.unusedVariables false
set_option linter.unusedSimpArgs false
namespace Go.Proofs.YthbogefcfhmpgaaGreat
open Go.ChangeShapes Go.WideShapes Go.ChangeAt Go.RowKit
set_option maxRecDepth 100000 in
theorem ages56_lifted (os:Os)(started:os.Started)(H:Type)(enc:TypeId×Value->H)(F:Stop.Interp) :
  ReturnsInHanded {} Tryz.checked os 5 .any ((Rows.OpenSpec.upto Rows.memoryAgesSpec).pre6 enc Tryz.prog Tryz.f5 Rows.memoryAgesUptoRow.domain false) (((Rows.OpenSpec.upto Rows.memoryAgesSpec).at F).post enc Tryz.prog Tryz.f5 false true false false) :=
 Wi F (fr:=true) os started Tryz.func5 (by kernel_rfl)
  (OpenSpec.witness (enc:=enc) (C:=Tryz.checked) (s:=Rows.OpenSpec.upto Rows.memoryAgesSpec) (k:=Rows.uptoSmall) rfl false ⟨#[],#[.agg #[.int .i64 0,.int .i64 0,.slice none 0 0,.slice none 0 0]],[]⟩ 8 (by kernel_rfl) (by kernel_rfl) (by kernel_rfl)
    (x:=([.agg [.lit (.int .i64 0),.lit (.int .i64 0),.nil,.nil]],[],[])) (by kernel_rfl) rfl (by kernel_rfl))
  rfl (by kernel_rfl) (by kernel_rfl)
  (fun ds h=>match ds,h with|[_],_=>rfl)
  (fun W base args ds p hval h hbk=>by
    rw [Tryz.params5] at h hval
    obtain ⟨v0,d0,rfl,rfl,h0⟩:=trodAll_one h
    obtain ⟨m0,r0,w0⟩:=zji (hval 0 26 v0 rfl rfl) h0 (by simp only [Rows.uptoBulkAll] at hbk;omega)
    exact ⟨_,zlc r0,zh6 m0 w0⟩)
set_option maxRecDepth 100000 in
theorem z8r:Tryz.prog.inPlace 5=Rows.memoryAgesUptoRow.inPlace:=by kernel_rfl
set_option maxRecDepth 100000 in
theorem z66:Tryz.prog.unfollowed 5=Rows.memoryAgesUptoRow.unfollowed:=by kernel_rfl
set_option maxRecDepth 100000 in
theorem z7p:Tryz.prog.recurses 5=Rows.memoryAgesUptoRow.recurses:=by kernel_rfl
set_option maxRecDepth 100000 in
theorem z6l:Tryz.prog.varsNamed 5=Rows.memoryAgesUptoRow.named:=by kernel_rfl
set_option maxRecDepth 100000 in
theorem zaf:joinedFacts Tryz.pinned.checked.prog 5 Tryz.f5 (Rows.OpenSpec.upto Rows.memoryAgesSpec).bare Rows.memoryAgesUptoRow=true:=by
 have h1:Tryz.pinned.checked.prog.inPlace 5=Rows.memoryAgesUptoRow.inPlace:=z8r
 have h2:Tryz.pinned.checked.prog.unfollowed 5=Rows.memoryAgesUptoRow.unfollowed:=z66
 have h3:Tryz.pinned.checked.prog.recurses 5=Rows.memoryAgesUptoRow.recurses:=z7p
 have h4:Tryz.pinned.checked.prog.varsNamed 5=Rows.memoryAgesUptoRow.named:=z6l
 unfold joinedFacts
 rw [h1,h2,h3,h4]
 first|kernel_rfl|(show _=true;kernel_rfl)|(refine Eq.trans ?_ rfl;kernel_rfl)|decide +kernel
theorem ages56_holds:Rows.MemoryAgesUptoSaid :=
 OpenClaim.holds_of_cond 5 Tryz.f5 rfl rfl rfl rfl rfl rfl rfl ⟨rfl,rfl,rfl,rfl,rfl⟩ rfl rfl rfl rfl rfl (by kernel_rfl) Tryz.func5 zaf
  (of_decide_eq_true (by kernel_rfl)) (by unfold Func.isWrapper;first|(rw [if_pos (by decide +kernel)];kernel_rfl)|(rw [if_neg (by decide +kernel)];exact ⟨rfl,rfl⟩))
  (fun os started H enc _ F=>ages56_lifted os started H enc F)
end Go.Proofs.YthbogefcfhmpgaaGreat
