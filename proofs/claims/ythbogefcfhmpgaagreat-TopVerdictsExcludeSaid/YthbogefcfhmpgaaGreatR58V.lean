/- The row of TopVerdictsExclude, where what it reads is of bulk at most 1048576. -/
import Derived.Test.YthbogefcfhmpgaaGreatK25
set_option linter.unusedVariables false
set_option linter.unusedSimpArgs false
namespace Go.Proofs.YthbogefcfhmpgaaGreat
open Go.ChangeShapes Go.WideShapes Go.ChangeAt Go.RowKit
set_option maxRecDepth 100000 in
theorem excludes58_lifted (os:Os)(started:os.Started)(H:Type)(enc:TypeId×Value->H)(F:Stop.Interp) :
  ReturnsInHanded {} Tryz.checked os 4 .any ((Rows.OpenSpec.upto Rows.topVerdictsExcludeSpec).pre6 enc Tryz.prog Tryz.f4 Rows.topVerdictsExcludeUptoRow.domain false) (((Rows.OpenSpec.upto Rows.topVerdictsExcludeSpec).at F).post enc Tryz.prog Tryz.f4 false true false false) :=
 ztz F (fr:=true) os started Tryz.func4 (by kernel_rfl)
  (OpenSpec.witness (enc:=enc) (C:=Tryz.checked) (s:=Rows.OpenSpec.upto Rows.topVerdictsExcludeSpec) (k:=Rows.uptoSmall) rfl false ⟨#[],#[.agg #[.int .i64 0,.int .i64 0,.slice none 0 0,.slice none 0 0],.slice none 0 0,.agg #[.slice none 0 0]],[]⟩ 8 (by kernel_rfl) (by kernel_rfl) (by kernel_rfl)
    (x:=([.agg [.lit (.int .i64 0),.lit (.int .i64 0),.nil,.nil],.nil,.agg [.nil]],[],[])) (by kernel_rfl) rfl (by kernel_rfl))
  rfl (by kernel_rfl) (by kernel_rfl)
  (fun ds h=>match ds,h with|[_,_,_],_=>rfl)
  (fun W base args ds p hval h hbk=>by
    rw [Tryz.params4] at h hval
    obtain ⟨v0,v1,v2,d0,d1,d2,p0,p1,p2,rfl,rfl,rfl,h0,h1,h2⟩:=trodAll_three h
    obtain ⟨m0,r0,w0⟩:=y90 (hval 0 26 v0 rfl rfl) h0 (by simp only [Rows.uptoBulkAll] at hbk;omega)
    obtain ⟨m1,r1⟩:=zyw (hval 1 29 v1 rfl rfl) h1
    obtain ⟨m2,r2⟩:=zk9 (hval 2 57 v2 rfl rfl) h2
    exact ⟨_,zyq r0 r1 r2,zjh m0 w0 m1 m2⟩)
set_option maxRecDepth 100000 in
theorem ze8:Tryz.prog.inPlace 4=Rows.topVerdictsExcludeUptoRow.inPlace:=by kernel_rfl
set_option maxRecDepth 100000 in
theorem zaz:Tryz.prog.unfollowed 4=Rows.topVerdictsExcludeUptoRow.unfollowed:=by kernel_rfl
set_option maxRecDepth 100000 in
theorem zdb:Tryz.prog.recurses 4=Rows.topVerdictsExcludeUptoRow.recurses:=by kernel_rfl
set_option maxRecDepth 100000 in
theorem zcj:Tryz.prog.varsNamed 4=Rows.topVerdictsExcludeUptoRow.named:=by kernel_rfl
set_option maxRecDepth 100000 in
theorem zf3:joinedFacts Tryz.pinned.checked.prog 4 Tryz.f4 (Rows.OpenSpec.upto Rows.topVerdictsExcludeSpec).bare Rows.topVerdictsExcludeUptoRow=true:=by
 have h1:Tryz.pinned.checked.prog.inPlace 4=Rows.topVerdictsExcludeUptoRow.inPlace:=ze8
 have h2:Tryz.pinned.checked.prog.unfollowed 4=Rows.topVerdictsExcludeUptoRow.unfollowed:=zaz
 have h3:Tryz.pinned.checked.prog.recurses 4=Rows.topVerdictsExcludeUptoRow.recurses:=zdb
 have h4:Tryz.pinned.checked.prog.varsNamed 4=Rows.topVerdictsExcludeUptoRow.named:=zcj
 unfold joinedFacts
 rw [h1,h2,h3,h4]
 first|kernel_rfl|(show _=true;kernel_rfl)|(refine Eq.trans ?_ rfl;kernel_rfl)|decide +kernel
theorem excludes58_holds:Rows.TopVerdictsExcludeUptoSaid :=
 OpenClaim.holds_of_cond 4 Tryz.f4 rfl rfl rfl rfl rfl rfl rfl ⟨rfl,rfl,rfl,rfl,rfl⟩ rfl rfl rfl rfl rfl (by kernel_rfl) Tryz.func4 zf3
  (of_decide_eq_true (by kernel_rfl)) (by unfold Func.isWrapper;first|(rw [if_pos (by decide +kernel)];kernel_rfl)|(rw [if_neg (by decide +kernel)];exact ⟨rfl,rfl⟩))
  (fun os started H enc _ F=>excludes58_lifted os started H enc F)
end Go.Proofs.YthbogefcfhmpgaaGreat
