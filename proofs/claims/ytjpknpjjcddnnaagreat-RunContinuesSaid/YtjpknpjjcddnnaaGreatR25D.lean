/- The row of RunContinues, where what it reads is of bulk at most 1048576. -/
import Derived.Test.YtjpknpjjcddnnaaGreatK34
import Derived.Test.YtjpknpjjcddnnaaGreatK35
set_option linter.unusedVariables false
set_option linter.unusedSimpArgs false
namespace Go.Proofs.YtjpknpjjcddnnaaGreat
open Go.ChangeShapes Go.WideShapes Go.ChangeAt Go.RowKit
set_option maxRecDepth 100000 in
theorem continues25_lifted (os:Os)(started:os.Started)(H:Type)(enc:TypeId×Value->H)(F:Stop.Interp) :
  ReturnsInHanded {} Tryz.checked os 6 .any ((Rows.OpenSpec.upto Rows.runContinuesSpec).pre6 enc Tryz.prog Tryz.f6 Rows.runContinuesUptoRow.domain false) (((Rows.OpenSpec.upto Rows.runContinuesSpec).at F).post enc Tryz.prog Tryz.f6 false true false false) :=
 law_liftedU F (fr:=true) os started Tryz.func6 (by kernel_rfl)
  (OpenSpec.witness (enc:=enc) (C:=Tryz.checked) (s:=Rows.OpenSpec.upto Rows.runContinuesSpec) (k:=Rows.uptoSmall) rfl false ⟨#[],#[.agg #[.int .i64 0,.int .i64 0,.slice none 0 0,.slice none 0 0],.slice none 0 0],[]⟩ 8 (by kernel_rfl) (by kernel_rfl) (by kernel_rfl)
    (x:=([.agg [.lit (.int .i64 0),.lit (.int .i64 0),.nil,.nil],.nil],[],[])) (by kernel_rfl) rfl (by kernel_rfl))
  rfl (by kernel_rfl) (by kernel_rfl)
  (fun ds h=>match ds,h with|[_,_],_=>rfl)
  (fun W base args ds p hval h hbk=>by
    rw [Tryz.params6] at h hval
    obtain ⟨v0,v1,d0,d1,p0,p1,rfl,rfl,rfl,h0,h1⟩:=trodAll_two h
    obtain ⟨m0,r0,w0⟩:=Aut_arg (hval 0 25 v0 rfl rfl) h0 (by simp only [Rows.uptoBulkAll] at hbk;omega)
    obtain ⟨m1,r1⟩:=Events_arg (hval 1 26 v1 rfl rfl) h1
    exact ⟨_,args_two r0 r1,continues_con25 m0 w0 m1⟩)
theorem continues25_holds:Rows.RunContinuesUptoSaid :=
 OpenClaim.holds_of_cond 6 Tryz.f6 rfl rfl rfl rfl rfl rfl rfl ⟨rfl,rfl,rfl,rfl,rfl⟩ rfl rfl rfl rfl rfl (by kernel_rfl) Tryz.func6 (by kernel_rfl)
  (of_decide_eq_true (by kernel_rfl)) (by unfold Func.isWrapper;first|(rw [if_pos (by decide +kernel)];kernel_rfl)|(rw [if_neg (by decide +kernel)];exact ⟨rfl,rfl⟩))
  (fun os started H enc _ F=>continues25_lifted os started H enc F)
end Go.Proofs.YtjpknpjjcddnnaaGreat
