/- The row of MemoryExpires, where what it reads is of bulk at most 1048576. -/
import Derived.Test.YthbogefcfhmpgaaGreatK25
set_option linter.unusedVariables false
set_option linter.unusedSimpArgs false
namespace Go.Proofs.YthbogefcfhmpgaaGreat
open Go.ChangeShapes Go.WideShapes Go.ChangeAt Go.RowKit
set_option maxRecDepth 100000 in
theorem expires56_lifted (os:Os)(started:os.Started)(H:Type)(enc:TypeId×Value->H)(F:Stop.Interp) :
  ReturnsInHanded {} Tryz.checked os 8 .any ((Rows.OpenSpec.upto Rows.memoryExpiresSpec).pre6 enc Tryz.prog Tryz.f8 Rows.memoryExpiresUptoRow.domain false) (((Rows.OpenSpec.upto Rows.memoryExpiresSpec).at F).post enc Tryz.prog Tryz.f8 false true false false) :=
 zal F (fr:=true) os started Tryz.func8 (by kernel_rfl)
  (OpenSpec.witness (enc:=enc) (C:=Tryz.checked) (s:=Rows.OpenSpec.upto Rows.memoryExpiresSpec) (k:=Rows.uptoSmall) rfl false ⟨#[],#[.agg #[.int .i64 0,.int .i64 0,.slice none 0 0,.slice none 0 0],.slice none 0 0,.agg #[.int .i64 0,.int .i64 0,.int .i64 0,.int .i64 0,.slice none 0 0]],[]⟩ 8 (by kernel_rfl) (by kernel_rfl) (by kernel_rfl)
    (x:=([.agg [.lit (.int .i64 0),.lit (.int .i64 0),.nil,.nil],.nil,.agg [.lit (.int .i64 0),.lit (.int .i64 0),.lit (.int .i64 0),.lit (.int .i64 0),.nil]],[],[])) (by kernel_rfl) rfl (by kernel_rfl))
  rfl (by kernel_rfl) (by kernel_rfl)
  (fun ds h=>match ds,h with|[_,_,_],_=>rfl)
  (fun W base args ds p hval h hbk=>by
    rw [Tryz.params8] at h hval
    obtain ⟨v0,v1,v2,d0,d1,d2,p0,p1,p2,rfl,rfl,rfl,h0,h1,h2⟩:=trodAll_three h
    obtain ⟨m0,r0,w0⟩:=zy8 (hval 0 26 v0 rfl rfl) h0 (by simp only [Rows.uptoBulkAll] at hbk;omega)
    obtain ⟨m1,r1⟩:=ziw (hval 1 29 v1 rfl rfl) h1
    obtain ⟨m2,r2⟩:=zy7 (hval 2 37 v2 rfl rfl) h2
    exact ⟨_,zuv r0 r1 r2,zjx m0 w0 m1 m2⟩)
set_option maxRecDepth 100000 in
theorem zcf:Tryz.prog.inPlace 8=Rows.memoryExpiresUptoRow.inPlace:=by kernel_rfl
set_option maxRecDepth 100000 in
theorem z9u:Tryz.prog.unfollowed 8=Rows.memoryExpiresUptoRow.unfollowed:=by kernel_rfl
set_option maxRecDepth 100000 in
theorem zbq:Tryz.prog.recurses 8=Rows.memoryExpiresUptoRow.recurses:=by kernel_rfl
set_option maxRecDepth 100000 in
theorem zaq:Tryz.prog.varsNamed 8=Rows.memoryExpiresUptoRow.named:=by kernel_rfl
set_option maxRecDepth 100000 in
theorem zdc:joinedFacts Tryz.pinned.checked.prog 8 Tryz.f8 (Rows.OpenSpec.upto Rows.memoryExpiresSpec).bare Rows.memoryExpiresUptoRow=true:=by
 have h1:Tryz.pinned.checked.prog.inPlace 8=Rows.memoryExpiresUptoRow.inPlace:=zcf
 have h2:Tryz.pinned.checked.prog.unfollowed 8=Rows.memoryExpiresUptoRow.unfollowed:=z9u
 have h3:Tryz.pinned.checked.prog.recurses 8=Rows.memoryExpiresUptoRow.recurses:=zbq
 have h4:Tryz.pinned.checked.prog.varsNamed 8=Rows.memoryExpiresUptoRow.named:=zaq
 unfold joinedFacts
 rw [h1,h2,h3,h4]
 first|kernel_rfl|(show _=true;kernel_rfl)|(refine Eq.trans ?_ rfl;kernel_rfl)|decide +kernel
theorem expires56_holds:Rows.MemoryExpiresUptoSaid :=
 OpenClaim.holds_of_cond 8 Tryz.f8 rfl rfl rfl rfl rfl rfl rfl ⟨rfl,rfl,rfl,rfl,rfl⟩ rfl rfl rfl rfl rfl (by kernel_rfl) Tryz.func8 zdc
  (of_decide_eq_true (by kernel_rfl)) (by unfold Func.isWrapper;first|(rw [if_pos (by decide +kernel)];kernel_rfl)|(rw [if_neg (by decide +kernel)];exact ⟨rfl,rfl⟩))
  (fun os started H enc _ F=>expires56_lifted os started H enc F)
end Go.Proofs.YthbogefcfhmpgaaGreat
