/- The row of RefutationCompresses, where what it reads is of bulk at most 1048576. -/
import Derived.Test.YtidhlpjgifoneaaGreatK40
set_option linter.unusedVariables false
set_option linter.unusedSimpArgs false
namespace Go.Proofs.YtidhlpjgifoneaaGreat
open Go.ChangeShapes Go.WideShapes Go.ChangeAt Go.RowKit
set_option maxRecDepth 100000 in
theorem compresses57_lifted (os:Os)(started:os.Started)(H:Type)(enc:TypeId×Value->H)(F:Stop.Interp) :
  ReturnsInHanded {} Tryz.checked os 9 .any ((Rows.OpenSpec.upto Rows.refutationCompressesSpec).pre6 enc Tryz.prog Tryz.f9 Rows.refutationCompressesUptoRow.domain false) (((Rows.OpenSpec.upto Rows.refutationCompressesSpec).at F).post enc Tryz.prog Tryz.f9 false true false false) :=
 zqg F (fr:=true) os started Tryz.func9 (by kernel_rfl)
  (OpenSpec.witness (enc:=enc) (C:=Tryz.checked) (s:=Rows.OpenSpec.upto Rows.refutationCompressesSpec) (k:=Rows.uptoSmall) rfl false ⟨#[],#[.agg #[.int .i64 0,.int .i64 0,.slice none 0 0,.slice none 0 0],.slice none 0 0,.agg #[.slice none 0 0]],[]⟩ 8 (by kernel_rfl) (by kernel_rfl) (by kernel_rfl)
    (x:=([.agg [.lit (.int .i64 0),.lit (.int .i64 0),.nil,.nil],.nil,.agg [.nil]],[],[])) (by kernel_rfl) rfl (by kernel_rfl))
  rfl (by kernel_rfl) (by kernel_rfl)
  (fun ds h=>match ds,h with|[_,_,_],_=>rfl)
  (fun W base args ds p hval h hbk=>by
    rw [Tryz.params9] at h hval
    obtain ⟨v0,v1,v2,d0,d1,d2,p0,p1,p2,rfl,rfl,rfl,h0,h1,h2⟩:=trodAll_three h
    obtain ⟨m0,r0,w0⟩:=y5t (hval 0 25 v0 rfl rfl) h0 (by simp only [Rows.uptoBulkAll] at hbk;omega)
    obtain ⟨m1,r1⟩:=zvj (hval 1 26 v1 rfl rfl) h1
    obtain ⟨m2,r2⟩:=zgn (hval 2 31 v2 rfl rfl) h2
    exact ⟨_,zve r0 r1 r2,zco m0 w0 m1 m2⟩)
set_option maxRecDepth 100000 in
theorem z9x:Tryz.prog.inPlace 9=Rows.refutationCompressesUptoRow.inPlace:=by kernel_rfl
set_option maxRecDepth 100000 in
theorem z6q:Tryz.prog.unfollowed 9=Rows.refutationCompressesUptoRow.unfollowed:=by kernel_rfl
set_option maxRecDepth 100000 in
theorem z8v:Tryz.prog.recurses 9=Rows.refutationCompressesUptoRow.recurses:=by kernel_rfl
set_option maxRecDepth 100000 in
theorem z86:Tryz.prog.varsNamed 9=Rows.refutationCompressesUptoRow.named:=by kernel_rfl
set_option maxRecDepth 100000 in
theorem zat:joinedFacts Tryz.pinned.checked.prog 9 Tryz.f9 (Rows.OpenSpec.upto Rows.refutationCompressesSpec).bare Rows.refutationCompressesUptoRow=true:=by
 have h1:Tryz.pinned.checked.prog.inPlace 9=Rows.refutationCompressesUptoRow.inPlace:=z9x
 have h2:Tryz.pinned.checked.prog.unfollowed 9=Rows.refutationCompressesUptoRow.unfollowed:=z6q
 have h3:Tryz.pinned.checked.prog.recurses 9=Rows.refutationCompressesUptoRow.recurses:=z8v
 have h4:Tryz.pinned.checked.prog.varsNamed 9=Rows.refutationCompressesUptoRow.named:=z86
 unfold joinedFacts
 rw [h1,h2,h3,h4]
 first|kernel_rfl|(show _=true;kernel_rfl)|(refine Eq.trans ?_ rfl;kernel_rfl)|decide +kernel
theorem compresses57_holds:Rows.RefutationCompressesUptoSaid :=
 OpenClaim.holds_of_cond 9 Tryz.f9 rfl rfl rfl rfl rfl rfl rfl ⟨rfl,rfl,rfl,rfl,rfl⟩ rfl rfl rfl rfl rfl (by kernel_rfl) Tryz.func9 zat
  (of_decide_eq_true (by kernel_rfl)) (by unfold Func.isWrapper;first|(rw [if_pos (by decide +kernel)];kernel_rfl)|(rw [if_neg (by decide +kernel)];exact ⟨rfl,rfl⟩))
  (fun os started H enc _ F=>compresses57_lifted os started H enc F)
end Go.Proofs.YtidhlpjgifoneaaGreat
