/- The row of MemoryDecides, where what it reads is of bulk at most 1048576. -/
import Derived.Test.YthbogefcfhmpgaaGreatK28
set_option linter.unusedVariables false
set_option linter.unusedSimpArgs false
namespace Go.Proofs.YthbogefcfhmpgaaGreat
open Go.ChangeShapes Go.WideShapes Go.ChangeAt Go.RowKit
set_option maxRecDepth 100000 in
theorem decides56_lifted (os:Os)(started:os.Started)(H:Type)(enc:TypeId×Value->H)(F:Stop.Interp) :
  ReturnsInHanded {} Tryz.checked os 6 .any ((Rows.OpenSpec.upto Rows.memoryDecidesSpec).pre6 enc Tryz.prog Tryz.f6 Rows.memoryDecidesUptoRow.domain false) (((Rows.OpenSpec.upto Rows.memoryDecidesSpec).at F).post enc Tryz.prog Tryz.f6 false true false false) :=
 z8h F (fr:=true) os started Tryz.func6 (by kernel_rfl)
  (OpenSpec.witness (enc:=enc) (C:=Tryz.checked) (s:=Rows.OpenSpec.upto Rows.memoryDecidesSpec) (k:=Rows.uptoSmall) rfl false ⟨#[],#[.agg #[.slice none 0 0,.int .i64 0,.int .i64 0,.slice none 0 0,.slice none 0 0,.int .i64 0]],[]⟩ 8 (by kernel_rfl) (by kernel_rfl) (by kernel_rfl)
    (x:=([.agg [.nil,.agg [.lit (.int .i64 0),.lit (.int .i64 0),.nil,.nil],.lit (.int .i64 0)]],[],[])) (by kernel_rfl) rfl (by kernel_rfl))
  rfl (by kernel_rfl) (by kernel_rfl)
  (fun ds h=>match ds,h with|[_],_=>rfl)
  (fun W base args ds p hval h hbk=>by
    rw [Tryz.params6] at h hval
    obtain ⟨v0,d0,rfl,rfl,h0⟩:=trodAll_one h
    obtain ⟨m0,r0,w0,t0⟩:=zoq (hval 0 28 v0 rfl rfl) h0 (by simp only [Rows.uptoBulkAll] at hbk;omega)
    exact ⟨_,zvh r0,zfs m0 w0 t0⟩)
set_option maxRecDepth 100000 in
theorem za1:Tryz.prog.inPlace 6=Rows.memoryDecidesUptoRow.inPlace:=by kernel_rfl
set_option maxRecDepth 100000 in
theorem z7r:Tryz.prog.unfollowed 6=Rows.memoryDecidesUptoRow.unfollowed:=by kernel_rfl
set_option maxRecDepth 100000 in
theorem z9c:Tryz.prog.recurses 6=Rows.memoryDecidesUptoRow.recurses:=by kernel_rfl
set_option maxRecDepth 100000 in
theorem z8n:Tryz.prog.varsNamed 6=Rows.memoryDecidesUptoRow.named:=by kernel_rfl
set_option maxRecDepth 100000 in
theorem zaz:joinedFacts Tryz.pinned.checked.prog 6 Tryz.f6 (Rows.OpenSpec.upto Rows.memoryDecidesSpec).bare Rows.memoryDecidesUptoRow=true:=by
 have h1:Tryz.pinned.checked.prog.inPlace 6=Rows.memoryDecidesUptoRow.inPlace:=za1
 have h2:Tryz.pinned.checked.prog.unfollowed 6=Rows.memoryDecidesUptoRow.unfollowed:=z7r
 have h3:Tryz.pinned.checked.prog.recurses 6=Rows.memoryDecidesUptoRow.recurses:=z9c
 have h4:Tryz.pinned.checked.prog.varsNamed 6=Rows.memoryDecidesUptoRow.named:=z8n
 unfold joinedFacts
 rw [h1,h2,h3,h4]
 first|kernel_rfl|(show _=true;kernel_rfl)|(refine Eq.trans ?_ rfl;kernel_rfl)|decide +kernel
theorem decides56_holds:Rows.MemoryDecidesUptoSaid :=
 OpenClaim.holds_of_cond 6 Tryz.f6 rfl rfl rfl rfl rfl rfl rfl ⟨rfl,rfl,rfl,rfl,rfl⟩ rfl rfl rfl rfl rfl (by kernel_rfl) Tryz.func6 zaz
  (of_decide_eq_true (by kernel_rfl)) (by unfold Func.isWrapper;first|(rw [if_pos (by decide +kernel)];kernel_rfl)|(rw [if_neg (by decide +kernel)];exact ⟨rfl,rfl⟩))
  (fun os started H enc _ F=>decides56_lifted os started H enc F)
end Go.Proofs.YthbogefcfhmpgaaGreat
