/- The row of MemoryExcludes, where what it reads is of bulk at most 1048576. -/
import Derived.Test.YthbogefcfhmpgaaGreatK24
set_option linter.unusedVariables false
set_option linter.unusedSimpArgs false
namespace Go.Proofs.YthbogefcfhmpgaaGreat
open Go.ChangeShapes Go.WideShapes Go.ChangeAt Go.RowKit
set_option maxRecDepth 100000 in
theorem excludes56_lifted (os:Os)(started:os.Started)(H:Type)(enc:TypeId×Value->H)(F:Stop.Interp) :
  ReturnsInHanded {} Tryz.checked os 7 .any ((Rows.OpenSpec.upto Rows.memoryExcludesSpec).pre6 enc Tryz.prog Tryz.f7 Rows.memoryExcludesUptoRow.domain false) (((Rows.OpenSpec.upto Rows.memoryExcludesSpec).at F).post enc Tryz.prog Tryz.f7 false true false false) :=
 zat F (fr:=true) os started Tryz.func7 (by kernel_rfl)
  (OpenSpec.witness (enc:=enc) (C:=Tryz.checked) (s:=Rows.OpenSpec.upto Rows.memoryExcludesSpec) (k:=Rows.uptoSmall) rfl false ⟨#[],#[.agg #[.slice none 0 0,.int .i64 0,.int .i64 0,.slice none 0 0,.slice none 0 0,.int .i64 0],.agg #[.int .i64 0,.int .i64 0,.slice none 0 0,.int .i64 0]],[]⟩ 8 (by kernel_rfl) (by kernel_rfl) (by kernel_rfl)
    (x:=([.agg [.nil,.agg [.lit (.int .i64 0),.lit (.int .i64 0),.nil,.nil],.lit (.int .i64 0)],.agg [.lit (.int .i64 0),.lit (.int .i64 0),.nil,.lit (.int .i64 0)]],[],[])) (by kernel_rfl) rfl (by kernel_rfl))
  rfl (by kernel_rfl) (by kernel_rfl)
  (fun ds h=>match ds,h with|[_,_],_=>rfl)
  (fun W base args ds p hval h hbk=>by
    rw [Tryz.params7] at h hval
    obtain ⟨v0,v1,d0,d1,p0,p1,rfl,rfl,rfl,h0,h1⟩:=trodAll_two h
    obtain ⟨m0,r0,w0,t0⟩:=zi1 (hval 0 28 v0 rfl rfl) h0 (by simp only [Rows.uptoBulkAll] at hbk;omega)
    obtain ⟨m1,r1⟩:=zdu (hval 1 39 v1 rfl rfl) h1
    exact ⟨_,zhy r0 r1,z6k m0 w0 t0 m1⟩)
set_option maxRecDepth 100000 in
theorem z4j:Tryz.prog.inPlace 7=Rows.memoryExcludesUptoRow.inPlace:=by kernel_rfl
set_option maxRecDepth 100000 in
theorem z2x:Tryz.prog.unfollowed 7=Rows.memoryExcludesUptoRow.unfollowed:=by kernel_rfl
set_option maxRecDepth 100000 in
theorem z43:Tryz.prog.recurses 7=Rows.memoryExcludesUptoRow.recurses:=by kernel_rfl
set_option maxRecDepth 100000 in
theorem z3n:Tryz.prog.varsNamed 7=Rows.memoryExcludesUptoRow.named:=by kernel_rfl
set_option maxRecDepth 100000 in
theorem z4y:joinedFacts Tryz.pinned.checked.prog 7 Tryz.f7 (Rows.OpenSpec.upto Rows.memoryExcludesSpec).bare Rows.memoryExcludesUptoRow=true:=by
 have h1:Tryz.pinned.checked.prog.inPlace 7=Rows.memoryExcludesUptoRow.inPlace:=z4j
 have h2:Tryz.pinned.checked.prog.unfollowed 7=Rows.memoryExcludesUptoRow.unfollowed:=z2x
 have h3:Tryz.pinned.checked.prog.recurses 7=Rows.memoryExcludesUptoRow.recurses:=z43
 have h4:Tryz.pinned.checked.prog.varsNamed 7=Rows.memoryExcludesUptoRow.named:=z3n
 unfold joinedFacts
 rw [h1,h2,h3,h4]
 first|kernel_rfl|(show _=true;kernel_rfl)|(refine Eq.trans ?_ rfl;kernel_rfl)|decide +kernel
theorem excludes56_holds:Rows.MemoryExcludesUptoSaid :=
 OpenClaim.holds_of_cond 7 Tryz.f7 rfl rfl rfl rfl rfl rfl rfl ⟨rfl,rfl,rfl,rfl,rfl⟩ rfl rfl rfl rfl rfl (by kernel_rfl) Tryz.func7 z4y
  (of_decide_eq_true (by kernel_rfl)) (by unfold Func.isWrapper;first|(rw [if_pos (by decide +kernel)];kernel_rfl)|(rw [if_neg (by decide +kernel)];exact ⟨rfl,rfl⟩))
  (fun os started H enc _ F=>excludes56_lifted os started H enc F)
end Go.Proofs.YthbogefcfhmpgaaGreat
