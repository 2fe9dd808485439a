/- The row of RefutationVerifies, where what it reads is of bulk at most 1048576. -/
import Derived.Test.YtidhlpjgifoneaaGreatK39
set_option linter.unusedVariables false
set_option linter.unusedSimpArgs false
namespace Go.Proofs.YtidhlpjgifoneaaGreat
open Go.ChangeShapes Go.WideShapes Go.ChangeAt Go.RowKit
set_option maxRecDepth 100000 in
theorem verifies57_lifted (os:Os)(started:os.Started)(H:Type)(enc:TypeId×Value->H)(F:Stop.Interp) :
  ReturnsInHanded {} Tryz.checked os 4 .any ((Rows.OpenSpec.upto Rows.refutationVerifiesSpec).pre6 enc Tryz.prog Tryz.f4 Rows.refutationVerifiesUptoRow.domain false) (((Rows.OpenSpec.upto Rows.refutationVerifiesSpec).at F).post enc Tryz.prog Tryz.f4 false true false false) :=
 zpd F (fr:=true) os started Tryz.func4 (by kernel_rfl)
  (OpenSpec.witness (enc:=enc) (C:=Tryz.checked) (s:=Rows.OpenSpec.upto Rows.refutationVerifiesSpec) (k:=Rows.uptoSmall) rfl false ⟨#[],#[.agg #[.int .i64 0,.int .i64 0,.slice none 0 0,.slice none 0 0],.slice none 0 0,.agg #[.slice none 0 0]],[]⟩ 8 (by kernel_rfl) (by kernel_rfl) (by kernel_rfl)
    (x:=([.agg [.lit (.int .i64 0),.lit (.int .i64 0),.nil,.nil],.nil,.agg [.nil]],[],[])) (by kernel_rfl) rfl (by kernel_rfl))
  rfl (by kernel_rfl) (by kernel_rfl)
  (fun ds h=>match ds,h with|[_,_,_],_=>rfl)
  (fun W base args ds p hval h hbk=>by
    rw [Tryz.params4] at h hval
    obtain ⟨v0,v1,v2,d0,d1,d2,p0,p1,p2,rfl,rfl,rfl,h0,h1,h2⟩:=trodAll_three h
    obtain ⟨m0,r0,w0⟩:=y4k (hval 0 25 v0 rfl rfl) h0 (by simp only [Rows.uptoBulkAll] at hbk;omega)
    obtain ⟨m1,r1⟩:=zu9 (hval 1 26 v1 rfl rfl) h1
    obtain ⟨m2,r2⟩:=zfz (hval 2 31 v2 rfl rfl) h2
    exact ⟨_,zu4 r0 r1 r2,zeu m0 w0 m1 m2⟩)
set_option maxRecDepth 100000 in
theorem zaq:Tryz.prog.inPlace 4=Rows.refutationVerifiesUptoRow.inPlace:=by kernel_rfl
set_option maxRecDepth 100000 in
theorem z88:Tryz.prog.unfollowed 4=Rows.refutationVerifiesUptoRow.unfollowed:=by kernel_rfl
set_option maxRecDepth 100000 in
theorem za9:Tryz.prog.recurses 4=Rows.refutationVerifiesUptoRow.recurses:=by kernel_rfl
set_option maxRecDepth 100000 in
theorem z9i:Tryz.prog.varsNamed 4=Rows.refutationVerifiesUptoRow.named:=by kernel_rfl
set_option maxRecDepth 100000 in
theorem zb9:joinedFacts Tryz.pinned.checked.prog 4 Tryz.f4 (Rows.OpenSpec.upto Rows.refutationVerifiesSpec).bare Rows.refutationVerifiesUptoRow=true:=by
 have h1:Tryz.pinned.checked.prog.inPlace 4=Rows.refutationVerifiesUptoRow.inPlace:=zaq
 have h2:Tryz.pinned.checked.prog.unfollowed 4=Rows.refutationVerifiesUptoRow.unfollowed:=z88
 have h3:Tryz.pinned.checked.prog.recurses 4=Rows.refutationVerifiesUptoRow.recurses:=za9
 have h4:Tryz.pinned.checked.prog.varsNamed 4=Rows.refutationVerifiesUptoRow.named:=z9i
 unfold joinedFacts
 rw [h1,h2,h3,h4]
 first|kernel_rfl|(show _=true;kernel_rfl)|(refine Eq.trans ?_ rfl;kernel_rfl)|decide +kernel
theorem verifies57_holds:Rows.RefutationVerifiesUptoSaid :=
 OpenClaim.holds_of_cond 4 Tryz.f4 rfl rfl rfl rfl rfl rfl rfl ⟨rfl,rfl,rfl,rfl,rfl⟩ rfl rfl rfl rfl rfl (by kernel_rfl) Tryz.func4 zb9
  (of_decide_eq_true (by kernel_rfl)) (by unfold Func.isWrapper;first|(rw [if_pos (by decide +kernel)];kernel_rfl)|(rw [if_neg (by decide +kernel)];exact ⟨rfl,rfl⟩))
  (fun os started H enc _ F=>verifies57_lifted os started H enc F)
end Go.Proofs.YtidhlpjgifoneaaGreat
