/- What some functions compute, over plain values. Printed by a program of mine (gen_fun.lean). -/
import Derived.Test.YtjpknpjjcddnnaaGreatK27
set_option linter.unusedVariables false
set_option linter.unusedSimpArgs false
set_option maxRecDepth 100000
set_option maxHeartbeats 8000000
namespace Go.Proofs.YtjpknpjjcddnnaaGreat
open Go.RowKit
theorem zqt {n a0 r}(hF:z7j n a0=some r):Con E0 true 14 [.agg [aI (a0.fVars),aI (a0.fScopes),.sl 1 (a0.fStates.map z0c),.sl 17 (a0.fEdges.map z0d)]] (zh6 r):=by
 unfold z7j at hF
 refine Con.walk _ Tryz.func14 rfl (z06 Tryz.func14 rfl rfl) rfl (Or.inr rfl) ?_
 repeat' first
  |refine zng hF (fun hF=>?_) (fun v hF=>?_);rotate_left;unfold z1i at hF
  |refine znh hF (fun hF=>?_) (fun v hF=>?_);rotate_left;unfold z1r at hF
  |refine AW.regO hF (fun hF=>?_)
  |refine AW.stepU [1,3] ?_;conv=>whnf
  |refine z0v.o hF (fun hF=>?_) (fun hF=>?_)
  |refine z0v.t ?_
  |refine IdxX.o z0d hF (fun x hF=>?_)
  |refine z0m.o hF zhu (fun a h=>zt7 h) (fun a hF=>?_)
  |exact ⟨_,hF,LeX.a []⟩
  |refine zne hF (LeX.a []) (fun m v hF=>?_);unfold z5r at hF
  |refine IdxX.o z0c hF (fun x hF=>?_)
  |refine z0m.o hF zg7 (fun a h=>zod h) (fun a hF=>?_)
  |exact ⟨_,hF,LeX.a []⟩
  |refine znf hF (LeX.a []) (fun m v hF=>?_);unfold z5s at hF
  |refine z0m.o hF z8k (fun a h=>z8s h) (fun a hF=>?_)
  |refine And.intro ⟨by kernel_rfl,by kernel_rfl⟩ ?_
  |exact RetX.oA hF
def S_expr_Size_l1 (rF_expr_Size:z0i->Option (Int×Int))(a0:z0i)(v1_0:Int×Int×Int):AS:=⟨[(4,aI (v1_0.1)),(5,aI (v1_0.2.1)),(11,.sl 8 (a0.fArgs.map idA)),(12,aI (((a0.fArgs.map idA).length:Int))),(13,aI (v1_0.2.2))],[]⟩
theorem expr_Size_l1_o {n rF_expr_Size a0 k1_0_0}:z2d E0 32 (zd5 n rF_expr_Size a0 k1_0_0) (S_expr_Size_l1 rF_expr_Size a0):=LoopA.oT fun _=>rfl
def zyp (r:Int×Int):AV:=.tup [aI (r.1),aI (r.2)]
theorem con_expr_Size {n a0 r}(hF:ze3 n a0=some r):Con E0 true 168 [.agg [aI (a0.fOp),.sl 8 (a0.fArgs.map idA),aI (a0.fVar),aI (a0.fField),aI (a0.fKind),aI (a0.fValue.fKind),aI (a0.fValue.fNum),.str (a0.fValue.fText)]] (zyp r):=by
 induction n generalizing a0 r
 case zero=>cases hF
 case succ n ih =>
 unfold ze3 at hF
 refine Con.walk _ Tryz.func168 rfl (z06 Tryz.func168 rfl rfl) rfl (Or.inr rfl) ?_
 repeat' first
  |refine AW.step ?_;conv=>whnf
  |refine z0v.o hF (fun hF=>?_) (fun hF=>?_)
  |refine IdxX.oD hF z6b (fun x hF=>?_)
  |refine z0m.o hF zyp (fun a h=>ih h) (fun a hF=>?_)
  |exact ⟨_,hF,LeX.a []⟩
  |refine expr_Size_l1_o hF (LeX.a []) (fun m v hF=>?_);unfold zd5 at hF
  |exact RetX.oA hF
def S_expr_arity_j1 (a0:Int)(w1_0:Bool):AS:=⟨[(0,aI (a0)),(4,.bool (w1_0))],[]⟩
theorem expr_arity_j1_o {n a0}:z5l E0 17 (zan n a0) (S_expr_arity_j1 a0):=AW.jT
def R_expr_arity (r:Int×Bool):AV:=.tup [aI (r.1),.bool (r.2)]
theorem con_expr_arity {n a0 r}(hF:zhn n a0=some r):Con E0 true 195 [aI (a0)] (R_expr_arity r):=by
 unfold zhn at hF
 refine Con.walk _ Tryz.func195 rfl (z06 Tryz.func195 rfl rfl) rfl (Or.inr rfl) ?_
 repeat' first
  |refine expr_arity_j1_o hF (fun hF=>?_) (fun v hF=>?_);rotate_left;unfold zan at hF
  |refine AW.regO hF (fun hF=>?_)
  |refine AW.stepU [1] ?_;conv=>whnf
  |refine z0v.o hF (fun hF=>?_) (fun hF=>?_)
  |exact ⟨_,hF,LeX.a []⟩
  |exact RetX.oA hF
def S_expr_uses_j2 (w2_1:Bool):AS:=⟨[(8,.bool (w2_1))],[]⟩
theorem expr_uses_j2_o {n}:zi5 E0 11 (zbn n) S_expr_uses_j2:=AW.jT2
def S_expr_uses_j1 (a0:Int)(w1_0:Bool):AS:=⟨[(4,aI (a0)),(5,.bool (w1_0))],[]⟩
theorem expr_uses_j1_o {n a0}:zi5 E0 11 (zbo n a0) (S_expr_uses_j1 a0):=AW.jT2
def R_expr_uses (r:Bool×Bool):AV:=.tup [.bool (r.1),.bool (r.2)]
theorem con_expr_uses {n a0 r}(hF:zk4 n a0=some r):Con E0 true 196 [aI (a0)] (R_expr_uses r):=by
 unfold zk4 at hF
 refine Con.walk _ Tryz.func196 rfl (z06 Tryz.func196 rfl rfl) rfl (Or.inr rfl) ?_
 repeat' first
  |refine expr_uses_j2_o hF (fun hF=>?_) (fun v hF=>?_);rotate_left;unfold zbn at hF
  |refine expr_uses_j1_o hF (fun hF=>?_) (fun v hF=>?_);rotate_left;unfold zbo at hF
  |refine AW.regO hF (fun hF=>?_)
  |refine AW.stepU [2,5] ?_;conv=>whnf
  |refine z0v.o hF (fun hF=>?_) (fun hF=>?_)
  |exact ⟨_,hF,LeX.a []⟩
  |exact ⟨_,hF,LeX.a []⟩
  |exact RetX.oA hF
def R_value_size (r:Int):AV:=aI (r)
theorem con_value_size {n a0 r}(hF:zdz n a0=some r):Con E0 true 223 [.agg [aI (a0.fKind),aI (a0.fNum),.str (a0.fText)]] (R_value_size r):=by
 unfold zdz at hF
 refine Con.walk _ Tryz.func223 rfl (z06 Tryz.func223 rfl rfl) rfl (Or.inr rfl) ?_
 repeat' first
  |refine AW.step ?_;conv=>whnf
  |refine z0v.o hF (fun hF=>?_) (fun hF=>?_)
  |refine z0v.t ?_
  |refine z0v.f ?_
  |exact RetX.oA hF
def zfl (r:Int):AV:=aI (r)
theorem zfb {n a0 r}(hF:z9p n a0=some r):Con E0 true 207 [.agg [aI (a0.fKind),aI (a0.fNum),.str (a0.fText)]] (zfl r):=by
 unfold z9p at hF
 refine Con.walk _ Tryz.func207 rfl (z06 Tryz.func207 rfl rfl) rfl (Or.inr rfl) ?_
 repeat' first
  |refine AW.step ?_;conv=>whnf
  |refine z0v.o hF (fun hF=>?_) (fun hF=>?_)
  |refine z0m.o hF R_value_size (fun a h=>con_value_size h) (fun a hF=>?_)
  |exact RetX.oA hF
def S_expr_suits_j1 (w1_0:Bool):AS:=⟨[(4,.bool (w1_0))],[]⟩
theorem expr_suits_j1_o {n}:z5l E0 16 (z95 n) S_expr_suits_j1:=AW.jT
def R_expr_suits (r:Bool):AV:=.bool (r)
theorem con_expr_suits {n a0 a1 r}(hF:zhm n a0 a1=some r):Con E0 true 208 [aI (a0),.agg [aI (a1.fKind),aI (a1.fNum),.str (a1.fText)]] (R_expr_suits r):=by
 unfold zhm at hF
 refine Con.walk _ Tryz.func208 rfl (z06 Tryz.func208 rfl rfl) rfl (Or.inr rfl) ?_
 repeat' first
  |refine expr_suits_j1_o hF (fun hF=>?_) (fun v hF=>?_);rotate_left;unfold z95 at hF
  |refine AW.regO hF (fun hF=>?_)
  |refine AW.stepU [1] ?_;conv=>whnf
  |refine z0v.o hF (fun hF=>?_) (fun hF=>?_)
  |refine z0v.t ?_
  |exact ⟨_,hF,LeX.a []⟩
  |exact RetX.oA hF
def zym (w1_0:Bool):AS:=⟨[(31,.bool (w1_0))],[]⟩
theorem zya {n}:z5l E0 32 (z4o n) zym:=AW.jT
def zsa (r:Int):AV:=aI (r)
theorem zzg {n a0 r}(hF:zd1 n a0=some r):Con E0 true 197 [.agg [aI (a0.fOp),.sl 8 (a0.fArgs.map idA),aI (a0.fVar),aI (a0.fField),aI (a0.fKind),aI (a0.fValue.fKind),aI (a0.fValue.fNum),.str (a0.fValue.fText)]] (zsa r):=by
 unfold zd1 at hF
 refine Con.walk _ Tryz.func197 rfl (z06 Tryz.func197 rfl rfl) rfl (Or.inr rfl) ?_
 repeat' first
  |refine zya hF (fun hF=>?_) (fun v hF=>?_);rotate_left;unfold z4o at hF
  |refine AW.regO hF (fun hF=>?_)
  |refine AW.stepU [4] ?_;conv=>whnf
  |refine z0v.o hF (fun hF=>?_) (fun hF=>?_)
  |refine z0m.o hF zfl (fun a h=>zfb h) (fun a hF=>?_)
  |refine z0m.o hF R_expr_suits (fun a h=>con_expr_suits h) (fun a hF=>?_)
  |exact ⟨_,hF,LeX.a []⟩
  |refine EqX.mk (by first|rfl|kernel_rfl) ?_
  |exact RetX.oA hF
def S_expr_node_j5 (w5_4:Bool):AS:=⟨[(113,.bool (w5_4))],[]⟩
theorem expr_node_j5_o {n}:z5l E0 114 (z0w n) S_expr_node_j5:=AW.jT
def S_expr_node_j4 (a0:z0i)(x2:Bool×Bool)(w3_2:Bool)(_:Unit):AS:=⟨[(1,.ptr 1 0),(5,.bool (x2.1)),(6,.bool (x2.2)),(7,.bool (decide (a0.fOp=4))),(8,.bool (w3_2))],[(1,.box 47 [aI (a0.fOp),.sl 8 (a0.fArgs.map idA),aI (a0.fVar),aI (a0.fField),aI (a0.fKind),aI (a0.fValue.fKind),aI (a0.fValue.fNum),.str (a0.fValue.fText)])]⟩
theorem expr_node_j4_o {n a0 x2 w3_2}:zi5 E0 114 (zbp n a0 x2 w3_2) (S_expr_node_j4 a0 x2 w3_2):=AW.jT2
def S_expr_node_j3 (a0:z0i)(x2:Bool×Bool)(w3_2:Bool):AS:=⟨[(1,.ptr 1 0),(5,.bool (x2.1)),(6,.bool (x2.2)),(7,.bool (decide (a0.fOp=4))),(8,.bool (w3_2))],[(1,.box 47 [aI (a0.fOp),.sl 8 (a0.fArgs.map idA),aI (a0.fVar),aI (a0.fField),aI (a0.fKind),aI (a0.fValue.fKind),aI (a0.fValue.fNum),.str (a0.fValue.fText)])]⟩
theorem expr_node_j3_o {n a0 x2}:z5l E0 114 (zbq n a0 x2) (S_expr_node_j3 a0 x2):=AW.jT
def S_expr_node_j2 (a0:z0i)(x2:Bool×Bool)(w2_1:Bool):AS:=⟨[(1,.ptr 1 0),(5,.bool (x2.1)),(6,.bool (x2.2)),(7,.bool (decide (a0.fOp=4))),(66,.bool (w2_1))],[(1,.box 47 [aI (a0.fOp),.sl 8 (a0.fArgs.map idA),aI (a0.fVar),aI (a0.fField),aI (a0.fKind),aI (a0.fValue.fKind),aI (a0.fValue.fNum),.str (a0.fValue.fText)])]⟩
theorem expr_node_j2_o {n a0 x2}:z5l E0 114 (z9s n a0 x2) (S_expr_node_j2 a0 x2):=AW.jT
def S_expr_node_j1 (a0:z0i)(x2:Bool×Bool)(w1_0:Bool):AS:=⟨[(1,.ptr 1 0),(5,.bool (x2.1)),(6,.bool (x2.2)),(52,.bool (w1_0))],[(1,.box 47 [aI (a0.fOp),.sl 8 (a0.fArgs.map idA),aI (a0.fVar),aI (a0.fField),aI (a0.fKind),aI (a0.fValue.fKind),aI (a0.fValue.fNum),.str (a0.fValue.fText)])]⟩
theorem expr_node_j1_o {n a0 x2}:z5l E0 114 (z4y n a0 x2) (S_expr_node_j1 a0 x2):=AW.jT
def R_expr_node (r:Int):AV:=aI (r)
theorem con_expr_node {n a0 r}(hF:zk5 n a0=some r):Con E0 true 170 [.agg [aI (a0.fOp),.sl 8 (a0.fArgs.map idA),aI (a0.fVar),aI (a0.fField),aI (a0.fKind),aI (a0.fValue.fKind),aI (a0.fValue.fNum),.str (a0.fValue.fText)]] (R_expr_node r):=by
 unfold zk5 at hF
 refine Con.walk _ Tryz.func170 rfl (z06 Tryz.func170 rfl rfl) rfl (Or.inr rfl) ?_
 repeat' first
  |refine expr_node_j5_o hF (fun hF=>?_) (fun v hF=>?_);rotate_left;unfold z0w at hF
  |refine expr_node_j4_o hF (fun hF=>?_) (fun v hF=>?_);rotate_left;unfold zbp at hF
  |refine expr_node_j3_o hF (fun hF=>?_) (fun v hF=>?_);rotate_left;unfold zbq at hF
  |refine expr_node_j2_o hF (fun hF=>?_) (fun v hF=>?_);rotate_left;unfold z9s at hF
  |refine expr_node_j1_o hF (fun hF=>?_) (fun v hF=>?_);rotate_left;unfold z4y at hF
  |refine AW.regO hF (fun hF=>?_)
  |refine AW.stepU [7,10,12,13,17] ?_;conv=>whnf
  |refine z0v.o hF (fun hF=>?_) (fun hF=>?_)
  |refine z0v.t ?_
  |refine z0v.f ?_
  |refine z0m.o hF R_expr_arity (fun a h=>con_expr_arity h) (fun a hF=>?_)
  |refine z0m.o hF R_expr_uses (fun a h=>con_expr_uses h) (fun a hF=>?_)
  |exact ⟨_,hF,LeX.a []⟩
  |refine z0m.o hF zsa (fun a h=>zzg h) (fun a hF=>?_)
  |exact ⟨(),hF,LeX.a []⟩
  |exact ⟨_,hF,LeX.a []⟩
  |exact ⟨_,hF,LeX.a []⟩
  |refine EqX.mk (by first|rfl|kernel_rfl) ?_
  |exact RetX.oA hF
def S_expr_visit_l1 (rF_expr_visit:z0i->Option (Int))(a0:z0i)(v1_0:Int):AS:=⟨[(1,.fn 170 []),(16,.sl 8 (a0.fArgs.map idA)),(17,aI (((a0.fArgs.map idA).length:Int))),(18,aI (v1_0))],[]⟩
theorem expr_visit_l1_o {n rF_expr_visit a0 k1_0_0}:z2d E0 29 (zc9 n rF_expr_visit a0 k1_0_0) (S_expr_visit_l1 rF_expr_visit a0):=LoopA.oT fun _=>rfl
def zw9 (r:Int):AV:=aI (r)
theorem con_expr_visit {n a0 r}(hF:zcf n a0=some r):Con E0 true 169 [.agg [aI (a0.fOp),.sl 8 (a0.fArgs.map idA),aI (a0.fVar),aI (a0.fField),aI (a0.fKind),aI (a0.fValue.fKind),aI (a0.fValue.fNum),.str (a0.fValue.fText)],.fn 170 []] (zw9 r):=by
 induction n generalizing a0 r
 case zero=>cases hF
 case succ n ih =>
 unfold zcf at hF
 refine Con.walk _ Tryz.func169 rfl (z06 Tryz.func169 rfl rfl) rfl (Or.inr rfl) ?_
 repeat' first
  |refine AW.step ?_;conv=>whnf
  |refine z0v.o hF (fun hF=>?_) (fun hF=>?_)
  |refine z0m.o hF R_expr_node (fun a h=>con_expr_node h) (fun a hF=>?_)
  |refine IdxX.oD hF z6b (fun x hF=>?_)
  |refine z0m.o hF zw9 (fun a h=>ih h) (fun a hF=>?_)
  |exact ⟨_,hF,LeX.a []⟩
  |refine expr_visit_l1_o hF (LeX.a []) (fun m v hF=>?_);unfold zc9 at hF
  |exact RetX.oA hF
def zlj (r:Int):AV:=aI (r)
theorem zmo {n a0 r}(hF:zbb n a0=some r):Con E0 true 125 [.agg [aI (a0.fOp),.sl 8 (a0.fArgs.map idA),aI (a0.fVar),aI (a0.fField),aI (a0.fKind),aI (a0.fValue.fKind),aI (a0.fValue.fNum),.str (a0.fValue.fText)]] (zlj r):=by
 unfold zbb at hF
 refine Con.walk _ Tryz.func125 rfl (z06 Tryz.func125 rfl rfl) rfl (Or.inr rfl) ?_
 repeat' first
  |refine AW.step ?_;conv=>whnf
  |refine z0v.o hF (fun hF=>?_) (fun hF=>?_)
  |refine z0m.o hF zyp (fun a h=>con_expr_Size h) (fun a hF=>?_)
  |refine z0m.o hF zw9 (fun a h=>con_expr_visit h) (fun a hF=>?_)
  |exact RetX.oA hF
def zvy (w1_0:Bool):AS:=⟨[(4,.bool (w1_0))],[]⟩
theorem zvh {n}:z5l E0 12 (z68 n) zvy:=AW.jT
def zde (r:Bool):AV:=.bool (r)
theorem zeg {n a0 a1 r}(hF:z2v n a0 a1=some r):Con E0 true 123 [aI (a0),aI (a1)] (zde r):=by
 unfold z2v at hF
 refine Con.walk _ Tryz.func123 rfl (z06 Tryz.func123 rfl rfl) rfl (Or.inr rfl) ?_
 repeat' first
  |refine zvh hF (fun hF=>?_) (fun v hF=>?_);rotate_left;unfold z68 at hF
  |refine AW.regO hF (fun hF=>?_)
  |refine AW.stepU [1] ?_;conv=>whnf
  |refine z0v.o hF (fun hF=>?_) (fun hF=>?_)
  |exact ⟨_,hF,LeX.a []⟩
  |exact RetX.oA hF
def zi4 (r:Bool):AV:=.bool (r)
end Go.Proofs.YtjpknpjjcddnnaaGreat
namespace Go.Proofs.YtjpknpjjcddnnaaGreat
open Go.RowKit
theorem ztj {n a0 a1 r}(hF:z89 n a0 a1=some r):Con E0 true 124 [.agg [aI (a0.fScope),aI (a0.fType),aI (a0.fVar),aI (a0.fCond.fOp),.sl 8 (a0.fCond.fArgs.map idA),aI (a0.fCond.fVar),aI (a0.fCond.fField),aI (a0.fCond.fKind),aI (a0.fCond.fValue.fKind),aI (a0.fCond.fValue.fNum),.str (a0.fCond.fValue.fText)],.ref [aI (a1.fScope),aI (a1.fType),aI (a1.fVar),aI (a1.fCond.fOp),.sl 8 (a1.fCond.fArgs.map idA),aI (a1.fCond.fVar),aI (a1.fCond.fField),aI (a1.fCond.fKind),aI (a1.fCond.fValue.fKind),aI (a1.fCond.fValue.fNum),.str (a1.fCond.fValue.fText)]] (zi4 r):=by
 unfold z89 at hF
 refine Con.walk _ Tryz.func124 rfl (z06 Tryz.func124 rfl rfl) rfl (Or.inr rfl) ?_
 repeat' first
  |refine AW.step ?_;conv=>whnf
  |exact RetX.oA hF
def zvx (a1c0:z0o)(a0:(List z0o))(v1_0:Int):AS:=⟨[(0,.sl 11 (a0.map z0r)),(1,.fn 124 [.ref [aI (a1c0.fScope),aI (a1c0.fType),aI (a1c0.fVar),aI (a1c0.fCond.fOp),.sl 8 (a1c0.fCond.fArgs.map idA),aI (a1c0.fCond.fVar),aI (a1c0.fCond.fField),aI (a1c0.fCond.fKind),aI (a1c0.fCond.fValue.fKind),aI (a1c0.fCond.fValue.fNum),.str (a1c0.fCond.fValue.fText)]]),(7,aI (((a0.map z0r).length:Int))),(8,aI (v1_0))],[]⟩
theorem zuf {n a1c0 a0 k1_0_0}:z2d E0 19 (z7q n a1c0 a0 k1_0_0) (zvx a1c0 a0):=LoopA.oT fun _=>rfl
def zlh (r:Int):AV:=aI (r)
theorem zx1 {n a0 a1c0 r}(hF:zb8 n a0 a1c0=some r):Con E0 true 54 [.sl 11 (a0.map z0r),.fn 124 [.ref [aI (a1c0.fScope),aI (a1c0.fType),aI (a1c0.fVar),aI (a1c0.fCond.fOp),.sl 8 (a1c0.fCond.fArgs.map idA),aI (a1c0.fCond.fVar),aI (a1c0.fCond.fField),aI (a1c0.fCond.fKind),aI (a1c0.fCond.fValue.fKind),aI (a1c0.fCond.fValue.fNum),.str (a1c0.fCond.fValue.fText)]]] (zlh r):=by
 unfold zb8 at hF
 refine Con.walk _ Tryz.func54 rfl (z06 Tryz.func54 rfl rfl) rfl (Or.inr rfl) ?_
 repeat' first
  |refine AW.step ?_;conv=>whnf
  |refine z0v.o hF (fun hF=>?_) (fun hF=>?_)
  |refine IdxX.o z0r hF (fun x hF=>?_)
  |refine z0m.o hF zi4 (fun a h=>ztj h) (fun a hF=>?_)
  |exact ⟨_,hF,LeX.a []⟩
  |refine zuf hF (LeX.a []) (fun m v hF=>?_);unfold z7q at hF
  |exact RetX.oA hF
def zhe (r:Bool):AV:=.bool (r)
theorem zr2 {n a0 a1c0 r}(hF:z7r n a0 a1c0=some r):Con E0 true 20 [.sl 11 (a0.map z0r),.fn 124 [.ref [aI (a1c0.fScope),aI (a1c0.fType),aI (a1c0.fVar),aI (a1c0.fCond.fOp),.sl 8 (a1c0.fCond.fArgs.map idA),aI (a1c0.fCond.fVar),aI (a1c0.fCond.fField),aI (a1c0.fCond.fKind),aI (a1c0.fCond.fValue.fKind),aI (a1c0.fCond.fValue.fNum),.str (a1c0.fCond.fValue.fText)]]] (zhe r):=by
 unfold z7r at hF
 refine Con.walk _ Tryz.func20 rfl (z06 Tryz.func20 rfl rfl) rfl (Or.inr rfl) ?_
 repeat' first
  |refine AW.step ?_;conv=>whnf
  |refine z0m.o hF zlh (fun a h=>zx1 h) (fun a hF=>?_)
  |exact RetX.oA hF
def zw2 (a1:(List z0o))(a0:z05)(v1_0:Int)(cv1_0:Int->Option (Int))(x41:z0o)(w3_1:Bool):AS:=⟨[(1,.sl 11 (a1.map z0r)),(2,.ptr 2 0),(5,aI (v1_0)),(6,.ptr 6 0),(11,.sl 11 (a1.map z0r)),(12,aI (((a1.map z0r).length:Int))),(13,aI (v1_0)),(18,.bool (w3_1))],[(2,.box 25 [aI (a0.fVars),aI (a0.fScopes),.sl 1 (a0.fStates.map z0c),.sl 17 (a0.fEdges.map z0d)]),(6,.box 59 [aI (x41.fScope),aI (x41.fType),aI (x41.fVar),aI (x41.fCond.fOp),.sl 8 (x41.fCond.fArgs.map idA),aI (x41.fCond.fVar),aI (x41.fCond.fField),aI (x41.fCond.fKind),aI (x41.fCond.fValue.fKind),aI (x41.fCond.fValue.fNum),.str (x41.fCond.fValue.fText)])]⟩
theorem zvl {n a1 a0 v1_0 cv1_0 x41}:z5l E0 52 (z41 n a1 a0 v1_0 cv1_0 x41) (zw2 a1 a0 v1_0 cv1_0 x41):=AW.jT
def zw1 (a1:(List z0o))(a0:z05)(v1_0:Int):AS:=⟨[(1,.sl 11 (a1.map z0r)),(2,.ptr 2 0),(11,.sl 11 (a1.map z0r)),(12,aI (((a1.map z0r).length:Int))),(13,aI (v1_0))],[(2,.box 25 [aI (a0.fVars),aI (a0.fScopes),.sl 1 (a0.fStates.map z0c),.sl 17 (a0.fEdges.map z0d)])]⟩
theorem zvk {n a1 a0 k1_0_0}:z2d E0 52 (z2c n a1 a0 k1_0_0) (zw1 a1 a0):=LoopA.oT fun _=>rfl
def zll (r:Int):AV:=aI (r)
theorem zx3 {n a0 a1 r}(hF:zbd n a0 a1=some r):Con E0 true 100 [.agg [aI (a0.fVars),aI (a0.fScopes),.sl 1 (a0.fStates.map z0c),.sl 17 (a0.fEdges.map z0d)],.sl 11 (a1.map z0r)] (zll r):=by
 unfold zbd at hF
 refine Con.walk _ Tryz.func100 rfl (z06 Tryz.func100 rfl rfl) rfl (Or.inr rfl) ?_
 repeat' first
  |refine zvl hF (fun hF=>?_) (fun v hF=>?_);rotate_left;unfold z41 at hF
  |refine AW.regO hF (fun hF=>?_)
  |refine AW.stepU [6] ?_;conv=>whnf
  |refine z0v.o hF (fun hF=>?_) (fun hF=>?_)
  |refine z0v.t ?_
  |refine IdxX.o z0r hF (fun x hF=>?_)
  |refine SlsX.o z0r hF (fun l hF=>?_)
  |refine zcc.o hF zhe (fun a h=>zr2 h) (fun _=>Or.inr rfl) (fun a hF=>?_)
  |refine z0m.o hF zlj (fun a h=>zmo h) (fun a hF=>?_)
  |exact ⟨_,hF,LeX.a []⟩
  |refine z0m.o hF zde (fun a h=>zeg h) (fun a hF=>?_)
  |exact ⟨_,hF,LeX.a []⟩
  |refine zvk hF (LeX.a []) (fun m v hF=>?_);unfold z2c at hF
  |exact RetX.oA hF
def zua (a0:(List z0y))(v1_0:Int×(List Int)):AS:=⟨[(3,.row 7016),(6,.sl 2 (a0.map z0p)),(7,aI (((a0.map z0p).length:Int))),(8,aI (v1_0.1))],[(7016,.row 3 1 (v1_0.2.map aI))]⟩
theorem ztk {n a0 k1_0_0}:z2d E0 19 (z75 n a0 k1_0_0) (zua a0):=LoopA.oT fun _=>rfl
def zk1 (r:(List Int)):AV:=.sl 1 (r.map aI)
theorem zvc {n a0 r}(hF:z8o n a0=some r):Con E0 false 127 [.sl 2 (a0.map z0p)] (zk1 r):=by
 unfold z8o at hF
 refine Con.walk _ Tryz.func127 rfl (z06 Tryz.func127 rfl rfl) rfl (Or.inl rfl) ?_
 repeat' first
  |refine AW.step ?_;conv=>whnf
  |refine z0v.o hF (fun hF=>?_) (fun hF=>?_)
  |refine IdxX.o z0p hF (fun x hF=>?_)
  |refine AppX.o aI hF (by first|exact SubR.refl _|(repeat' first|exact SubR.nil|refine SubR.cons ?_ ?_|exact SubL.nil|refine SubL.cons ?_ ?_|exact Sub.refl _|exact Sub.nil _)) (fun l hF=>?_)
  |exact ⟨_,hF,LeX.a [(7016,16)]⟩
  |refine ztk hF (LeX.trans (LeX.adopt 3 7016 3 1 rfl rfl) (LeX.a [])) (fun m v hF=>?_);unfold z75 at hF
  |exact RetX.oA hF
def S_slices_Index_l1 (a1:Int)(a0:(List Int))(v1_0:Int):AS:=⟨[(0,.sl 1 (a0.map aI)),(1,aI (a1)),(7,aI (((a0.map aI).length:Int))),(8,aI (v1_0))],[]⟩
theorem slices_Index_l1_o {n a1 a0 k1_0_0}:z2d E0 19 (z9v n a1 a0 k1_0_0) (S_slices_Index_l1 a1 a0):=LoopA.oT fun _=>rfl
def zxx (r:Int):AV:=aI (r)
theorem con_slices_Index {n a0 a1 r}(hF:zgt n a0 a1=some r):Con E0 true 174 [.sl 1 (a0.map aI),aI (a1)] (zxx r):=by
 unfold zgt at hF
 refine Con.walk _ Tryz.func174 rfl (z06 Tryz.func174 rfl rfl) rfl (Or.inr rfl) ?_
 repeat' first
  |refine AW.step ?_;conv=>whnf
  |refine z0v.o hF (fun hF=>?_) (fun hF=>?_)
  |refine IdxX.o aI hF (fun x hF=>?_)
  |exact ⟨_,hF,LeX.a []⟩
  |refine slices_Index_l1_o hF (LeX.a []) (fun m v hF=>?_);unfold z9v at hF
  |exact RetX.oA hF
def zc1 (r:Bool):AV:=.bool (r)
theorem zco {n a0 a1 r}(hF:z6k n a0 a1=some r):Con E0 true 133 [.sl 1 (a0.map aI),aI (a1)] (zc1 r):=by
 unfold z6k at hF
 refine Con.walk _ Tryz.func133 rfl (z06 Tryz.func133 rfl rfl) rfl (Or.inr rfl) ?_
 repeat' first
  |refine AW.step ?_;conv=>whnf
  |refine z0m.o hF zxx (fun a h=>con_slices_Index h) (fun a hF=>?_)
  |exact RetX.oA hF
def zvz (a1:(List (List Int)))(a0:z05)(v1_0:Int)(x41:(List Int))(v2_1:Int):AS:=⟨[(2,.ptr 2 0),(6,.sl 1 (x41.map aI)),(9,.sl 1 (List.map (fun q=>AV.sl 1 (List.map aI q)) (a1))),(10,aI ((((List.map (fun q=>AV.sl 1 (List.map aI q)) (a1)).length:Nat):Int))),(11,aI (v1_0)),(15,.sl 1 (x41.map aI)),(16,aI (((x41.map aI).length:Int))),(17,aI (v2_1))],[(2,.box 25 [aI (a0.fVars),aI (a0.fScopes),.sl 1 (a0.fStates.map z0c),.sl 17 (a0.fEdges.map z0d)])]⟩
theorem zvi {n a1 a0 v1_0 x41 k2_1_0}:z2d E0 36 (z2w n a1 a0 v1_0 x41 k2_1_0) (zvz a1 a0 v1_0 x41):=LoopA.oT fun _=>rfl
def zw0 (a1:(List (List Int)))(a0:z05)(v1_0:Int):AS:=⟨[(2,.ptr 2 0),(9,.sl 1 (List.map (fun q=>AV.sl 1 (List.map aI q)) (a1))),(10,aI ((((List.map (fun q=>AV.sl 1 (List.map aI q)) (a1)).length:Nat):Int))),(11,aI (v1_0))],[(2,.box 25 [aI (a0.fVars),aI (a0.fScopes),.sl 1 (a0.fStates.map z0c),.sl 17 (a0.fEdges.map z0d)])]⟩
theorem zvj {n a1 a0 k1_0_0}:z2d E0 36 (z40 n a1 a0 k1_0_0) (zw0 a1 a0):=LoopA.oT fun _=>rfl
def zlk (r:Int):AV:=aI (r)
theorem zx2 {n a0 a1 r}(hF:zbc n a0 a1=some r):Con E0 true 126 [.agg [aI (a0.fVars),aI (a0.fScopes),.sl 1 (a0.fStates.map z0c),.sl 17 (a0.fEdges.map z0d)],.sl 1 (List.map (fun q=>AV.sl 1 (List.map aI q)) (a1))] (zlk r):=by
 unfold zbc at hF
 refine Con.walk _ Tryz.func126 rfl (z06 Tryz.func126 rfl rfl) rfl (Or.inr rfl) ?_
 repeat' first
  |refine AW.step ?_;conv=>whnf
  |refine z0v.o hF (fun hF=>?_) (fun hF=>?_)
  |refine IdxX.o (fun q=>AV.sl 1 (List.map aI q)) hF (fun x hF=>?_)
  |exact ⟨_,hF,LeX.a []⟩
  |refine IdxX.o aI hF (fun x hF=>?_)
  |refine z0m.o hF zde (fun a h=>zeg h) (fun a hF=>?_)
  |refine SlsX.o aI hF (fun l hF=>?_)
  |refine z0m.o hF zc1 (fun a h=>zco h) (fun a hF=>?_)
  |exact ⟨_,hF,LeX.a []⟩
  |refine zvi hF (LeX.a []) (fun m v hF=>?_);unfold z2w at hF
  |refine zvj hF (LeX.a []) (fun m v hF=>?_);unfold z40 at hF
  |exact RetX.oA hF
def zw3 (w1_0:Bool):AS:=⟨[(2,.bool (w1_0))],[]⟩
theorem zvm {n}:z5l E0 11 (z69 n) zw3:=AW.jT
def zlm (r:Bool):AV:=.bool (r)
theorem zx4 {n a0 r}(hF:z85 n a0=some r):Con E0 true 129 [.agg [aI (a0.fScope),aI (a0.fSpan)]] (zlm r):=by
 unfold z85 at hF
 refine Con.walk _ Tryz.func129 rfl (z06 Tryz.func129 rfl rfl) rfl (Or.inr rfl) ?_
 repeat' first
  |refine zvm hF (fun hF=>?_) (fun v hF=>?_);rotate_left;unfold z69 at hF
  |refine AW.regO hF (fun hF=>?_)
  |refine AW.stepU [1] ?_;conv=>whnf
  |refine z0v.o hF (fun hF=>?_) (fun hF=>?_)
  |exact ⟨_,hF,LeX.a []⟩
  |exact RetX.oA hF
def zn2 (a0:(List z0y))(v1_0:Int):AS:=⟨[(0,.sl 2 (a0.map z0p)),(1,.fn 129 []),(7,aI (((a0.map z0p).length:Int))),(8,aI (v1_0))],[]⟩
theorem zm6 {n a0 k1_0_0}:z2d E0 19 (z4u n a0 k1_0_0) (zn2 a0):=LoopA.oT fun _=>rfl
def zga (r:Int):AV:=aI (r)
theorem zog {n a0 r}(hF:z8h n a0=some r):Con E0 true 171 [.sl 2 (a0.map z0p),.fn 129 []] (zga r):=by
 unfold z8h at hF
 refine Con.walk _ Tryz.func171 rfl (z06 Tryz.func171 rfl rfl) rfl (Or.inr rfl) ?_
 repeat' first
  |refine AW.step ?_;conv=>whnf
  |refine z0v.o hF (fun hF=>?_) (fun hF=>?_)
  |refine IdxX.o z0p hF (fun x hF=>?_)
  |refine z0m.o hF zlm (fun a h=>zx4 h) (fun a hF=>?_)
  |exact ⟨_,hF,LeX.a []⟩
  |refine zm6 hF (LeX.a []) (fun m v hF=>?_);unfold z4u at hF
  |exact RetX.oA hF
def zep (r:Bool):AV:=.bool (r)
theorem zj0 {n a0 r}(hF:z4v n a0=some r):Con E0 true 128 [.sl 2 (a0.map z0p),.fn 129 []] (zep r):=by
 unfold z4v at hF
 refine Con.walk _ Tryz.func128 rfl (z06 Tryz.func128 rfl rfl) rfl (Or.inr rfl) ?_
 repeat' first
  |refine AW.step ?_;conv=>whnf
  |refine z0m.o hF zga (fun a h=>zog h) (fun a hF=>?_)
  |exact RetX.oA hF
def zyn (a1:z0j)(a0:z05)(v1_1:Int):AS:=⟨[(3,.ptr 3 0),(4,.ptr 4 0),(63,.sl 8 (a1.fChecks.map idA)),(64,aI (((a1.fChecks.map idA).length:Int))),(65,aI (v1_1))],[(3,.box 25 [aI (a0.fVars),aI (a0.fScopes),.sl 1 (a0.fStates.map z0c),.sl 17 (a0.fEdges.map z0d)]),(4,.box 51 [aI (a1.fFrom),aI (a1.fTo),aI (a1.fVar),aI (a1.fType),aI (a1.fCond.fOp),.sl 8 (a1.fCond.fArgs.map idA),aI (a1.fCond.fVar),aI (a1.fCond.fField),aI (a1.fCond.fKind),aI (a1.fCond.fValue.fKind),aI (a1.fCond.fValue.fNum),.str (a1.fCond.fValue.fText),.sl 1 (a1.fOpens.map aI),.sl 1 (a1.fCloses.map aI),.sl 8 (a1.fChecks.map idA),.sl 2 (a1.fLimits.map z0p),.sl 1 (a1.fInside.map aI)])]⟩
end Go.Proofs.YtjpknpjjcddnnaaGreat
namespace Go.Proofs.YtjpknpjjcddnnaaGreat
open Go.RowKit
theorem zyk {n a1 a0 k1_1_0}:z2d E0 93 (z8p n a1 a0 k1_1_0) (zyn a1 a0):=LoopA.oT fun _=>rfl
def zyo (a2:Int)(a1:z0j)(a0:z05)(w1_0:Bool):AS:=⟨[(2,aI (a2)),(3,.ptr 3 0),(4,.ptr 4 0),(12,.bool (w1_0))],[(3,.box 25 [aI (a0.fVars),aI (a0.fScopes),.sl 1 (a0.fStates.map z0c),.sl 17 (a0.fEdges.map z0d)]),(4,.box 51 [aI (a1.fFrom),aI (a1.fTo),aI (a1.fVar),aI (a1.fType),aI (a1.fCond.fOp),.sl 8 (a1.fCond.fArgs.map idA),aI (a1.fCond.fVar),aI (a1.fCond.fField),aI (a1.fCond.fKind),aI (a1.fCond.fValue.fKind),aI (a1.fCond.fValue.fNum),.str (a1.fCond.fValue.fText),.sl 1 (a1.fOpens.map aI),.sl 1 (a1.fCloses.map aI),.sl 8 (a1.fChecks.map idA),.sl 2 (a1.fLimits.map z0p),.sl 1 (a1.fInside.map aI)])]⟩
theorem zyl {n a2 a1 a0}:z5l E0 93 (z1m n a2 a1 a0) (zyo a2 a1 a0):=AW.jT
def zsb (r:Int):AV:=aI (r)
theorem zzh {n a0 a1 a2 r}(hF:zd2 n a0 a1 a2=some r):Con E0 true 101 [.agg [aI (a0.fVars),aI (a0.fScopes),.sl 1 (a0.fStates.map z0c),.sl 17 (a0.fEdges.map z0d)],.agg [aI (a1.fFrom),aI (a1.fTo),aI (a1.fVar),aI (a1.fType),aI (a1.fCond.fOp),.sl 8 (a1.fCond.fArgs.map idA),aI (a1.fCond.fVar),aI (a1.fCond.fField),aI (a1.fCond.fKind),aI (a1.fCond.fValue.fKind),aI (a1.fCond.fValue.fNum),.str (a1.fCond.fValue.fText),.sl 1 (a1.fOpens.map aI),.sl 1 (a1.fCloses.map aI),.sl 8 (a1.fChecks.map idA),.sl 2 (a1.fLimits.map z0p),.sl 1 (a1.fInside.map aI)],aI (a2)] (zsb r):=by
 unfold zd2 at hF
 refine Con.walk _ Tryz.func101 rfl (z06 Tryz.func101 rfl rfl) rfl (Or.inr rfl) ?_
 repeat' first
  |refine zyl hF (fun hF=>?_) (fun v hF=>?_);rotate_left;unfold z1m at hF
  |refine AW.regO hF (fun hF=>?_)
  |refine AW.stepU [1] ?_;conv=>whnf
  |refine z0v.o hF (fun hF=>?_) (fun hF=>?_)
  |refine z0v.t ?_
  |refine z0m.o hF zlj (fun a h=>zmo h) (fun a hF=>?_)
  |refine z0m.o hF zk1 (fun a h=>zvc h) (fun a hF=>?_)
  |refine z0m.o hF zlk (fun a h=>zx2 h) (fun a hF=>?_)
  |refine z0m.o hF zep (fun a h=>zj0 h) (fun a hF=>?_)
  |refine IdxX.oD hF z6b (fun x hF=>?_)
  |exact ⟨_,hF,LeX.a []⟩
  |refine zyk hF (LeX.a []) (fun m v hF=>?_);unfold z8p at hF
  |refine z0m.o hF zde (fun a h=>zeg h) (fun a hF=>?_)
  |exact ⟨_,hF,LeX.a []⟩
  |refine And.intro ⟨by kernel_rfl,by kernel_rfl⟩ ?_
  |exact RetX.oA hF
def zxj (a0:z05)(v2_3:Int×Int):AS:=⟨[(1,.ptr 1 0),(6,aI (v2_3.1)),(62,.sl 17 (a0.fEdges.map z0d)),(63,aI (((a0.fEdges.map z0d).length:Int))),(64,aI (v2_3.2))],[(1,.box 25 [aI (a0.fVars),aI (a0.fScopes),.sl 1 (a0.fStates.map z0c),.sl 17 (a0.fEdges.map z0d)])]⟩
theorem zxa {n a0 k2_3_0}:z2d E0 78 (z8a n a0 k2_3_0) (zxj a0):=LoopA.oT fun _=>rfl
def zxk (a0:z05)(v1_2:Int):AS:=⟨[(1,.ptr 1 0),(47,.sl 1 (a0.fStates.map z0c)),(48,aI (((a0.fStates.map z0c).length:Int))),(49,aI (v1_2))],[(1,.box 25 [aI (a0.fVars),aI (a0.fScopes),.sl 1 (a0.fStates.map z0c),.sl 17 (a0.fEdges.map z0d)])]⟩
theorem zxb {n a0 k1_2_0}:z2d E0 78 (z8b n a0 k1_2_0) (zxk a0):=LoopA.oT fun _=>rfl
def zxl (a0:z05)(w2_1:Bool):AS:=⟨[(1,.ptr 1 0),(29,.bool (w2_1))],[(1,.box 25 [aI (a0.fVars),aI (a0.fScopes),.sl 1 (a0.fStates.map z0c),.sl 17 (a0.fEdges.map z0d)])]⟩
theorem zxc {n a0}:z5l E0 78 (z2h n a0) (zxl a0):=AW.jT
def zxm (a0:z05)(w1_0:Bool):AS:=⟨[(1,.ptr 1 0),(10,.bool (w1_0))],[(1,.box 25 [aI (a0.fVars),aI (a0.fScopes),.sl 1 (a0.fStates.map z0c),.sl 17 (a0.fEdges.map z0d)])]⟩
theorem zxd {n a0}:z5l E0 78 (z1z n a0) (zxm a0):=AW.jT
def zps (r:Int):AV:=aI (r)
theorem zyi {n a0 r}(hF:zca n a0=some r):Con E0 true 70 [.agg [aI (a0.fVars),aI (a0.fScopes),.sl 1 (a0.fStates.map z0c),.sl 17 (a0.fEdges.map z0d)]] (zps r):=by
 unfold zca at hF
 refine Con.walk _ Tryz.func70 rfl (z06 Tryz.func70 rfl rfl) rfl (Or.inr rfl) ?_
 repeat' first
  |refine zxc hF (fun hF=>?_) (fun v hF=>?_);rotate_left;unfold z2h at hF
  |refine zxd hF (fun hF=>?_) (fun v hF=>?_);rotate_left;unfold z1z at hF
  |refine AW.regO hF (fun hF=>?_)
  |refine AW.stepU [1,3] ?_;conv=>whnf
  |refine z0v.o hF (fun hF=>?_) (fun hF=>?_)
  |refine z0v.t ?_
  |refine IdxX.o z0d hF (fun x hF=>?_)
  |refine z0m.o hF zsb (fun a h=>zzh h) (fun a hF=>?_)
  |exact ⟨_,hF,LeX.a []⟩
  |refine zxa hF (LeX.a []) (fun m v hF=>?_);unfold z8a at hF
  |refine IdxX.o z0c hF (fun x hF=>?_)
  |refine z0m.o hF zll (fun a h=>zx3 h) (fun a hF=>?_)
  |exact ⟨_,hF,LeX.a []⟩
  |refine zxb hF (LeX.a []) (fun m v hF=>?_);unfold z8b at hF
  |exact ⟨_,hF,LeX.a []⟩
  |exact RetX.oA hF
def zry (w1_0:Bool):AS:=⟨[(2,.bool (w1_0))],[]⟩
theorem zqg {n}:z5l E0 9 (z2s n) zry:=AW.jT
def zek (r:Bool):AV:=.bool (r)
theorem zg4 {n a0 r}(hF:z86 n a0=some r):Con E0 true 233 [aI (a0)] (zek r):=by
 unfold z86 at hF
 refine Con.walk _ Tryz.func233 rfl (z06 Tryz.func233 rfl rfl) rfl (Or.inr rfl) ?_
 repeat' first
  |refine zqg hF (fun hF=>?_) (fun v hF=>?_);rotate_left;unfold z2s at hF
  |refine AW.regO hF (fun hF=>?_)
  |refine AW.stepU [1] ?_;conv=>whnf
  |refine z0v.o hF (fun hF=>?_) (fun hF=>?_)
  |exact ⟨_,hF,LeX.a []⟩
  |exact RetX.oA hF
def zpa (w3_2:Bool):AS:=⟨[(58,.bool (w3_2))],[]⟩
theorem znv {n}:z5l E0 71 (z1t n) zpa:=AW.jT
def zp9 (w4_3:Bool):AS:=⟨[(70,.bool (w4_3))],[]⟩
theorem znu {n}:z5l E0 71 (z3s n) zp9:=AW.jT
def zpb (a0:z0k)(w2_1:Bool):AS:=⟨[(1,.ptr 1 0),(23,.bool (w2_1))],[(1,.box 275 [aI (a0.fKind),aI (a0.fCount),aI (a0.fValue.fKind),aI (a0.fValue.fNum),.str (a0.fValue.fText)])]⟩
theorem znw {n a0}:z5l E0 71 (z3t n a0) (zpb a0):=AW.jT
def zpc (a0:z0k)(w1_0:Bool):AS:=⟨[(1,.ptr 1 0),(15,.bool (w1_0))],[(1,.box 275 [aI (a0.fKind),aI (a0.fCount),aI (a0.fValue.fKind),aI (a0.fValue.fNum),.str (a0.fValue.fText)])]⟩
theorem znx {n a0}:z5l E0 71 (z3u n a0) (zpc a0):=AW.jT
def zdo (r:Int):AV:=aI (r)
theorem zff {n a0 r}(hF:z7n n a0=some r):Con E0 true 243 [.agg [aI (a0.fKind),aI (a0.fCount),aI (a0.fValue.fKind),aI (a0.fValue.fNum),.str (a0.fValue.fText)]] (zdo r):=by
 unfold z7n at hF
 refine Con.walk _ Tryz.func243 rfl (z06 Tryz.func243 rfl rfl) rfl (Or.inr rfl) ?_
 repeat' first
  |refine znv hF (fun hF=>?_) (fun v hF=>?_);rotate_left;unfold z1t at hF
  |refine znu hF (fun hF=>?_) (fun v hF=>?_);rotate_left;unfold z3s at hF
  |refine znw hF (fun hF=>?_) (fun v hF=>?_);rotate_left;unfold z3t at hF
  |refine znx hF (fun hF=>?_) (fun v hF=>?_);rotate_left;unfold z3u at hF
  |refine AW.regO hF (fun hF=>?_)
  |refine AW.stepU [3,5,11,14] ?_;conv=>whnf
  |refine z0v.o hF (fun hF=>?_) (fun hF=>?_)
  |refine z0v.t ?_
  |refine z0m.o hF zek (fun a h=>zg4 h) (fun a hF=>?_)
  |exact ⟨_,hF,LeX.a []⟩
  |refine z0m.o hF z8v (fun a h=>z9l h) (fun a hF=>?_)
  |refine z0m.o hF zaz (fun a h=>zcn h) (fun a hF=>?_)
  |exact ⟨_,hF,LeX.a []⟩
  |refine EqX.mk (by first|rfl|kernel_rfl) ?_
  |exact RetX.oA hF
def zdn (r:Int):AV:=aI (r)
theorem zfe {n a0 a1 r}(hF:z7l n a0 a1=some r):Con E0 true 244 [aI (a0),.agg [aI (a1.fKind),aI (a1.fNum),.str (a1.fText)]] (zdn r):=by
 unfold z7l at hF
 refine Con.walk _ Tryz.func244 rfl (z06 Tryz.func244 rfl rfl) rfl (Or.inr rfl) ?_
 repeat' first
  |refine AW.step ?_;conv=>whnf
  |refine z0v.o hF (fun hF=>?_) (fun hF=>?_)
  |refine z0m.o hF z8v (fun a h=>z9l h) (fun a hF=>?_)
  |refine z0m.o hF zaz (fun a h=>zcn h) (fun a hF=>?_)
  |exact RetX.oA hF
def zfn (r:z02):AV:=.agg [aI (r.fKind),aI (r.fNum),.str (r.fText)]
theorem zmd {n a0 a1 a2 r}(hF:z7z n a0 a1 a2=some r):Con E0 true 245 [aI (a0),.agg [aI (a1.fKind),aI (a1.fNum),.str (a1.fText)],.agg [aI (a2.fKind),aI (a2.fNum),.str (a2.fText)]] (zfn r):=by
 unfold z7z at hF
 refine Con.walk _ Tryz.func245 rfl (z06 Tryz.func245 rfl rfl) rfl (Or.inr rfl) ?_
 repeat' first
  |refine AW.step ?_;conv=>whnf
  |refine z0v.o hF (fun hF=>?_) (fun hF=>?_)
  |exact RetX.oA hF
def zu4 (a0:z0k)(w1_0:Int×Int×ByteArray):AS:=⟨[(4,.ptr 4 0),(8,.ptr 8 0)],[(4,.box 275 [aI (0),aI (0),aI (0),aI (0),.str (ByteArray.empty)]),(8,.box 275 [aI (a0.fKind),aI ((IntKind.wrap .i64 (a0.fCount+1))),aI (w1_0.1),aI (w1_0.2.1),.str (w1_0.2.2)])]⟩
theorem zsw {n a0}:zi5 E0 50 (z3h n a0) (zu4 a0):=AW.jT2
def zjp (r:z0k×Int):AV:=.tup [.agg [aI (r.1.fKind),aI (r.1.fCount),aI (r.1.fValue.fKind),aI (r.1.fValue.fNum),.str (r.1.fValue.fText)],aI (r.2)]
theorem zuz {n a0 a1 r}(hF:za9 n a0 a1=some r):Con E0 true 234 [.agg [aI (a0.fKind),aI (a0.fCount),aI (a0.fValue.fKind),aI (a0.fValue.fNum),.str (a0.fValue.fText)],.agg [aI (a1.fKind),aI (a1.fNum),.str (a1.fText)]] (zjp r):=by
 unfold za9 at hF
 refine Con.walk _ Tryz.func234 rfl (z06 Tryz.func234 rfl rfl) rfl (Or.inr rfl) ?_
 repeat' first
  |refine zsw hF (fun hF=>?_) (fun v hF=>?_);rotate_left;unfold z3h at hF
  |refine AW.regO hF (fun hF=>?_)
  |refine AW.stepU [10,12] ?_;conv=>whnf
  |refine z0v.o hF (fun hF=>?_) (fun hF=>?_)
  |refine z0m.o hF zdo (fun a h=>zff h) (fun a hF=>?_)
  |refine z0m.o hF zdn (fun a h=>zfe h) (fun a hF=>?_)
  |exact ⟨_,hF,LeX.a []⟩
  |refine z0m.o hF zfn (fun a h=>zmd h) (fun a hF=>?_)
  |exact RetX.oA hF
def zn1 (a1:z02)(a0:z0k)(w1_0:Bool):AS:=⟨[(2,.ptr 2 0),(3,.ptr 3 0),(4,.ptr 4 0),(35,.bool (w1_0))],[(2,.box 275 [aI (a0.fKind),aI (a0.fCount),aI (a0.fValue.fKind),aI (a0.fValue.fNum),.str (a0.fValue.fText)]),(3,.box 45 [aI (a1.fKind),aI (a1.fNum),.str (a1.fText)]),(4,.box 45 [aI (0),aI (0),.str (ByteArray.empty)])]⟩
theorem zm5 {n a1 a0}:z5l E0 39 (z34 n a1 a0) (zn1 a1 a0):=AW.jT
def zg8 (r:z02×Int):AV:=.tup [.agg [aI (r.1.fKind),aI (r.1.fNum),.str (r.1.fText)],aI (r.2)]
theorem zoe {n a0 a1 r}(hF:z72 n a0 a1=some r):Con E0 true 235 [.agg [aI (a0.fKind),aI (a0.fCount),aI (a0.fValue.fKind),aI (a0.fValue.fNum),.str (a0.fValue.fText)],.agg [aI (a1.fKind),aI (a1.fNum),.str (a1.fText)]] (zg8 r):=by
 unfold z72 at hF
 refine Con.walk _ Tryz.func235 rfl (z06 Tryz.func235 rfl rfl) rfl (Or.inr rfl) ?_
 repeat' first
  |refine zm5 hF (fun hF=>?_) (fun v hF=>?_);rotate_left;unfold z34 at hF
  |refine AW.regO hF (fun hF=>?_)
  |refine AW.stepU [9] ?_;conv=>whnf
  |refine z0v.o hF (fun hF=>?_) (fun hF=>?_)
  |refine z0m.o hF zdo (fun a h=>zff h) (fun a hF=>?_)
  |refine z0m.o hF zdn (fun a h=>zfe h) (fun a hF=>?_)
  |exact ⟨_,hF,LeX.a []⟩
  |exact RetX.oA hF
def zvw (a2:z02)(a1:(List z02))(v1_0:Int×Int×Int×Int×Int×ByteArray):AS:=⟨[(1,.sl 3 (a1.map z07)),(5,.ptr 5 0),(6,.ptr 6 0),(8,.ptr 8 0),(9,aI (v1_0.1))],[(5,.box 45 [aI (a2.fKind),aI (a2.fNum),.str (a2.fText)]),(6,.box 45 [aI (0),aI (0),.str (ByteArray.empty)]),(8,.box 275 [aI (v1_0.2.1),aI (v1_0.2.2.1),aI (v1_0.2.2.2.1),aI (v1_0.2.2.2.2.1),.str (v1_0.2.2.2.2.2)])]⟩
theorem zud {n a2 a1 k1_0_0}:z2d E0 47 (z7m n a2 a1 k1_0_0) (zvw a2 a1):=LoopA.oT fun _=>rfl
def zlg (r:z02×Int):AV:=.tup [.agg [aI (r.1.fKind),aI (r.1.fNum),.str (r.1.fText)],aI (r.2)]
end Go.Proofs.YtjpknpjjcddnnaaGreat
