/- The row of RunIgnores, where what it reads is of bulk at most 1048576. -/
import Derived.Test.YtjpknpjjcddnnaaGreatK34
import Derived.Test.YtjpknpjjcddnnaaGreatK35
set_option linter.unusedVariables false
set_option linter.unusedSimpArgs false
namespace Go.Proofs.YtjpknpjjcddnnaaGreat
open Go.ChangeShapes Go.WideShapes Go.ChangeAt Go.RowKit
set_option maxRecDepth 100000 in
theorem ignores25_lifted (os:Os)(started:os.Started)(H:Type)(enc:TypeId×Value->H)(F:Stop.Interp) :
  ReturnsInHanded {} Tryz.checked os 4 .any ((Rows.OpenSpec.upto Rows.runIgnoresSpec).pre6 enc Tryz.prog Tryz.f4 Rows.runIgnoresUptoRow.domain false) (((Rows.OpenSpec.upto Rows.runIgnoresSpec).at F).post enc Tryz.prog Tryz.f4 false true false false) :=
 law_liftedU F (fr:=true) os started Tryz.func4 (by kernel_rfl)
  (OpenSpec.witness (enc:=enc) (C:=Tryz.checked) (s:=Rows.OpenSpec.upto Rows.runIgnoresSpec) (k:=Rows.uptoSmall) rfl false ⟨#[],#[.agg #[.int .i64 0,.int .i64 0,.slice none 0 0,.slice none 0 0],.slice none 0 0,.int .u8 0],[]⟩ 8 (by kernel_rfl) (by kernel_rfl) (by kernel_rfl)
    (x:=([.agg [.lit (.int .i64 0),.lit (.int .i64 0),.nil,.nil],.nil,.lit (.int .u8 0)],[],[])) (by kernel_rfl) rfl (by kernel_rfl))
  rfl (by kernel_rfl) (by kernel_rfl)
  (fun ds h=>match ds,h with|[_,_,_],_=>rfl)
  (fun W base args ds p hval h hbk=>by
    rw [Tryz.params4] at h hval
    obtain ⟨v0,v1,v2,d0,d1,d2,p0,p1,p2,rfl,rfl,rfl,h0,h1,h2⟩:=trodAll_three h
    obtain ⟨m0,r0,w0⟩:=Aut_arg (hval 0 25 v0 rfl rfl) h0 (by simp only [Rows.uptoBulkAll] at hbk;omega)
    obtain ⟨m1,r1⟩:=Events_arg (hval 1 26 v1 rfl rfl) h1
    obtain ⟨n2,b2,rfl⟩:=u8_open (hval 2 5 v2 rfl rfl) h2
    exact ⟨_,args_three r0 r1 (Rep.int _ _),ignores_con25 m0 w0 m1 n2 b2⟩)
theorem ignores25_holds:Rows.RunIgnoresUptoSaid :=
 OpenClaim.holds_of_cond 4 Tryz.f4 rfl rfl rfl rfl rfl rfl rfl ⟨rfl,rfl,rfl,rfl,rfl⟩ rfl rfl rfl rfl rfl (by kernel_rfl) Tryz.func4 (by kernel_rfl)
  (of_decide_eq_true (by kernel_rfl)) (by unfold Func.isWrapper;first|(rw [if_pos (by decide +kernel)];kernel_rfl)|(rw [if_neg (by decide +kernel)];exact ⟨rfl,rfl⟩))
  (fun os started H enc _ F=>ignores25_lifted os started H enc F)
end Go.Proofs.YtjpknpjjcddnnaaGreat
