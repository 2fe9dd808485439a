/- What some functions compute, over plain values. Printed by a program of mine (gen_fun.lean). -/
import Derived.Test.YtjpknpjjcddnnaaGreatK28
set_option linter.unusedVariables false
set_option linter.unusedSimpArgs false
set_option maxRecDepth 100000
set_option maxHeartbeats 8000000
namespace Go.Proofs.YtjpknpjjcddnnaaGreat
open Go.RowKit
theorem y0r {n a1 a0 k1_1_0}:z27 E0 93 (z9h n a1 a0 k1_1_0) (y0u a1 a0):=LoopA.oT fun _=>rfl
def y0v (a2:Int)(a1:z0j)(a0:z05)(w1_0:Bool):AS:=⟨[(2,aI (a2)),(3,.ptr 3 0),(4,.ptr 4 0),(12,.bool (w1_0))],[(3,.box 25 [aI (a0.fVars),aI (a0.fScopes),.sl 1 (a0.fStates.map z0d),.sl 17 (a0.fEdges.map z0e)]),(4,.box 51 [aI (a1.fFrom),aI (a1.fTo),aI (a1.fVar),aI (a1.fType),aI (a1.fCond.fOp),.sl 8 (a1.fCond.fArgs.map idA),aI (a1.fCond.fVar),aI (a1.fCond.fField),aI (a1.fCond.fKind),aI (a1.fCond.fValue.fKind),aI (a1.fCond.fValue.fNum),.str (a1.fCond.fValue.fText),.sl 1 (a1.fOpens.map aI),.sl 1 (a1.fCloses.map aI),.sl 8 (a1.fChecks.map idA),.sl 2 (a1.fLimits.map z0r),.sl 1 (a1.fInside.map aI)])]⟩
theorem y0s {n a2 a1 a0}:z3v E0 93 (z1q n a2 a1 a0) (y0v a2 a1 a0):=AW.jT
def zub (r:Int):AV:=aI (r)
theorem y1n {n a0 a1 a2 r}(hF:zdv n a0 a1 a2=some r):Con E0 true 101 [.agg [aI (a0.fVars),aI (a0.fScopes),.sl 1 (a0.fStates.map z0d),.sl 17 (a0.fEdges.map z0e)],.agg [aI (a1.fFrom),aI (a1.fTo),aI (a1.fVar),aI (a1.fType),aI (a1.fCond.fOp),.sl 8 (a1.fCond.fArgs.map idA),aI (a1.fCond.fVar),aI (a1.fCond.fField),aI (a1.fCond.fKind),aI (a1.fCond.fValue.fKind),aI (a1.fCond.fValue.fNum),.str (a1.fCond.fValue.fText),.sl 1 (a1.fOpens.map aI),.sl 1 (a1.fCloses.map aI),.sl 8 (a1.fChecks.map idA),.sl 2 (a1.fLimits.map z0r),.sl 1 (a1.fInside.map aI)],aI (a2)] (zub r):=by
 unfold zdv at hF
 refine Con.walk _ Tryz.func101 rfl (z08 Tryz.func101 rfl rfl) rfl (Or.inr rfl) ?_
 repeat' first
  |refine y0s hF (fun hF=>?_) (fun v hF=>?_);rotate_left;unfold z1q at hF
  |refine AW.regO hF (fun hF=>?_)
  |refine AW.stepU [1] ?_;conv=>whnf
  |refine z0v.o hF (fun hF=>?_) (fun hF=>?_)
  |refine z0v.t ?_
  |refine z0m.o hF zn6 (fun a h=>zoc h) (fun a hF=>?_)
  |refine z0m.o hF zll (fun a h=>zxh h) (fun a hF=>?_)
  |refine z0m.o hF zn7 (fun a h=>zz6 h) (fun a hF=>?_)
  |refine z0m.o hF zfo (fun a h=>zkl h) (fun a hF=>?_)
  |refine IdxX.oD hF z6u (fun x hF=>?_)
  |exact ⟨_,hF,LeX.a []⟩
  |refine y0r hF (LeX.a []) (fun m v hF=>?_);unfold z9h at hF
  |refine z0m.o hF ze7 (fun a h=>zfe h) (fun a hF=>?_)
  |exact ⟨_,hF,LeX.a []⟩
  |refine And.intro ⟨by kernel_rfl,by kernel_rfl⟩ ?_
  |exact RetX.oA hF
def zzn (a0:z05)(v2_3:Int×Int):AS:=⟨[(1,.ptr 1 0),(6,aI (v2_3.1)),(62,.sl 17 (a0.fEdges.map z0e)),(63,aI (((a0.fEdges.map z0e).length:Int))),(64,aI (v2_3.2))],[(1,.box 25 [aI (a0.fVars),aI (a0.fScopes),.sl 1 (a0.fStates.map z0d),.sl 17 (a0.fEdges.map z0e)])]⟩
theorem zze {n a0 k2_3_0}:z27 E0 78 (z8x n a0 k2_3_0) (zzn a0):=LoopA.oT fun _=>rfl
def zzo (a0:z05)(v1_2:Int):AS:=⟨[(1,.ptr 1 0),(47,.sl 1 (a0.fStates.map z0d)),(48,aI (((a0.fStates.map z0d).length:Int))),(49,aI (v1_2))],[(1,.box 25 [aI (a0.fVars),aI (a0.fScopes),.sl 1 (a0.fStates.map z0d),.sl 17 (a0.fEdges.map z0e)])]⟩
theorem zzf {n a0 k1_2_0}:z27 E0 78 (z8y n a0 k1_2_0) (zzo a0):=LoopA.oT fun _=>rfl
def zzp (a0:z05)(w2_1:Bool):AS:=⟨[(1,.ptr 1 0),(29,.bool (w2_1))],[(1,.box 25 [aI (a0.fVars),aI (a0.fScopes),.sl 1 (a0.fStates.map z0d),.sl 17 (a0.fEdges.map z0e)])]⟩
theorem zzg {n a0}:z3v E0 78 (z2r n a0) (zzp a0):=AW.jT
def zzq (a0:z05)(w1_0:Bool):AS:=⟨[(1,.ptr 1 0),(10,.bool (w1_0))],[(1,.box 25 [aI (a0.fVars),aI (a0.fScopes),.sl 1 (a0.fStates.map z0d),.sl 17 (a0.fEdges.map z0e)])]⟩
theorem zzh {n a0}:z3v E0 78 (z29 n a0) (zzq a0):=AW.jT
def zrn (r:Int):AV:=aI (r)
theorem y0p {n a0 r}(hF:zd8 n a0=some r):Con E0 true 70 [.agg [aI (a0.fVars),aI (a0.fScopes),.sl 1 (a0.fStates.map z0d),.sl 17 (a0.fEdges.map z0e)]] (zrn r):=by
 unfold zd8 at hF
 refine Con.walk _ Tryz.func70 rfl (z08 Tryz.func70 rfl rfl) rfl (Or.inr rfl) ?_
 repeat' first
  |refine zzg hF (fun hF=>?_) (fun v hF=>?_);rotate_left;unfold z2r at hF
  |refine zzh hF (fun hF=>?_) (fun v hF=>?_);rotate_left;unfold z29 at hF
  |refine AW.regO hF (fun hF=>?_)
  |refine AW.stepU [1,3] ?_;conv=>whnf
  |refine z0v.o hF (fun hF=>?_) (fun hF=>?_)
  |refine z0v.t ?_
  |refine IdxX.o z0e hF (fun x hF=>?_)
  |refine z0m.o hF zub (fun a h=>y1n h) (fun a hF=>?_)
  |exact ⟨_,hF,LeX.a []⟩
  |refine zze hF (LeX.a []) (fun m v hF=>?_);unfold z8x at hF
  |refine IdxX.o z0d hF (fun x hF=>?_)
  |refine z0m.o hF zn8 (fun a h=>zz7 h) (fun a hF=>?_)
  |exact ⟨_,hF,LeX.a []⟩
  |refine zzf hF (LeX.a []) (fun m v hF=>?_);unfold z8y at hF
  |exact ⟨_,hF,LeX.a []⟩
  |exact RetX.oA hF
def ztw (w1_0:Bool):AS:=⟨[(2,.bool (w1_0))],[]⟩
theorem zsc {n}:z3v E0 9 (z34 n) ztw:=AW.jT
def zfh (r:Bool):AV:=.bool (r)
theorem zh6 {n a0 r}(hF:z8t n a0=some r):Con E0 true 233 [aI (a0)] (zfh r):=by
 unfold z8t at hF
 refine Con.walk _ Tryz.func233 rfl (z08 Tryz.func233 rfl rfl) rfl (Or.inr rfl) ?_
 repeat' first
  |refine zsc hF (fun hF=>?_) (fun v hF=>?_);rotate_left;unfold z34 at hF
  |refine AW.regO hF (fun hF=>?_)
  |refine AW.stepU [1] ?_;conv=>whnf
  |refine z0v.o hF (fun hF=>?_) (fun hF=>?_)
  |exact ⟨_,hF,LeX.a []⟩
  |exact RetX.oA hF
def zr5 (w3_2:Bool):AS:=⟨[(58,.bool (w3_2))],[]⟩
theorem zpm {n}:z3v E0 71 (z1y n) zr5:=AW.jT
def zr4 (w4_3:Bool):AS:=⟨[(70,.bool (w4_3))],[]⟩
theorem zpl {n}:z3v E0 71 (z47 n) zr4:=AW.jT
def zr6 (a0:z0l)(w2_1:Bool):AS:=⟨[(1,.ptr 1 0),(23,.bool (w2_1))],[(1,.box 275 [aI (a0.fKind),aI (a0.fCount),aI (a0.fValue.fKind),aI (a0.fValue.fNum),.str (a0.fValue.fText)])]⟩
theorem zpn {n a0}:z3v E0 71 (z48 n a0) (zr6 a0):=AW.jT
def zr7 (a0:z0l)(w1_0:Bool):AS:=⟨[(1,.ptr 1 0),(15,.bool (w1_0))],[(1,.box 275 [aI (a0.fKind),aI (a0.fCount),aI (a0.fValue.fKind),aI (a0.fValue.fNum),.str (a0.fValue.fText)])]⟩
theorem zpo {n a0}:z3v E0 71 (z49 n a0) (zr7 a0):=AW.jT
def zeh (r:Int):AV:=aI (r)
theorem zgi {n a0 r}(hF:z85 n a0=some r):Con E0 true 243 [.agg [aI (a0.fKind),aI (a0.fCount),aI (a0.fValue.fKind),aI (a0.fValue.fNum),.str (a0.fValue.fText)]] (zeh r):=by
 unfold z85 at hF
 refine Con.walk _ Tryz.func243 rfl (z08 Tryz.func243 rfl rfl) rfl (Or.inr rfl) ?_
 repeat' first
  |refine zpm hF (fun hF=>?_) (fun v hF=>?_);rotate_left;unfold z1y at hF
  |refine zpl hF (fun hF=>?_) (fun v hF=>?_);rotate_left;unfold z47 at hF
  |refine zpn hF (fun hF=>?_) (fun v hF=>?_);rotate_left;unfold z48 at hF
  |refine zpo hF (fun hF=>?_) (fun v hF=>?_);rotate_left;unfold z49 at hF
  |refine AW.regO hF (fun hF=>?_)
  |refine AW.stepU [3,5,11,14] ?_;conv=>whnf
  |refine z0v.o hF (fun hF=>?_) (fun hF=>?_)
  |refine z0v.t ?_
  |refine z0m.o hF zfh (fun a h=>zh6 h) (fun a hF=>?_)
  |exact ⟨_,hF,LeX.a []⟩
  |refine z0m.o hF z9l (fun a h=>zac h) (fun a hF=>?_)
  |refine z0m.o hF zbv (fun a h=>zdl h) (fun a hF=>?_)
  |exact ⟨_,hF,LeX.a []⟩
  |refine EqX.mk (by first|rfl|kernel_rfl) ?_
  |exact RetX.oA hF
def zeg (r:Int):AV:=aI (r)
theorem zgh {n a0 a1 r}(hF:z83 n a0 a1=some r):Con E0 true 244 [aI (a0),.agg [aI (a1.fKind),aI (a1.fNum),.str (a1.fText)]] (zeg r):=by
 unfold z83 at hF
 refine Con.walk _ Tryz.func244 rfl (z08 Tryz.func244 rfl rfl) rfl (Or.inr rfl) ?_
 repeat' first
  |refine AW.step ?_;conv=>whnf
  |refine z0v.o hF (fun hF=>?_) (fun hF=>?_)
  |refine z0m.o hF z9l (fun a h=>zac h) (fun a hF=>?_)
  |refine z0m.o hF zbv (fun a h=>zdl h) (fun a hF=>?_)
  |exact RetX.oA hF
def zgr (r:z03):AV:=.agg [aI (r.fKind),aI (r.fNum),.str (r.fText)]
theorem zo2 {n a0 a1 a2 r}(hF:z8l n a0 a1 a2=some r):Con E0 true 245 [aI (a0),.agg [aI (a1.fKind),aI (a1.fNum),.str (a1.fText)],.agg [aI (a2.fKind),aI (a2.fNum),.str (a2.fText)]] (zgr r):=by
 unfold z8l at hF
 refine Con.walk _ Tryz.func245 rfl (z08 Tryz.func245 rfl rfl) rfl (Or.inr rfl) ?_
 repeat' first
  |refine AW.step ?_;conv=>whnf
  |refine z0v.o hF (fun hF=>?_) (fun hF=>?_)
  |exact RetX.oA hF
def zw7 (a0:z0l)(w1_0:Int×Int×ByteArray):AS:=⟨[(4,.ptr 4 0),(8,.ptr 8 0)],[(4,.box 275 [aI (0),aI (0),aI (0),aI (0),.str (ByteArray.empty)]),(8,.box 275 [aI (a0.fKind),aI ((IntKind.wrap .i64 (a0.fCount+1))),aI (w1_0.1),aI (w1_0.2.1),.str (w1_0.2.2)])]⟩
theorem zuw {n a0}:zjn E0 50 (z3s n a0) (zw7 a0):=AW.jT2
def zl9 (r:z0l×Int):AV:=.tup [.agg [aI (r.1.fKind),aI (r.1.fCount),aI (r.1.fValue.fKind),aI (r.1.fValue.fNum),.str (r.1.fValue.fText)],aI (r.2)]
theorem zx5 {n a0 a1 r}(hF:zb3 n a0 a1=some r):Con E0 true 234 [.agg [aI (a0.fKind),aI (a0.fCount),aI (a0.fValue.fKind),aI (a0.fValue.fNum),.str (a0.fValue.fText)],.agg [aI (a1.fKind),aI (a1.fNum),.str (a1.fText)]] (zl9 r):=by
 unfold zb3 at hF
 refine Con.walk _ Tryz.func234 rfl (z08 Tryz.func234 rfl rfl) rfl (Or.inr rfl) ?_
 repeat' first
  |refine zuw hF (fun hF=>?_) (fun v hF=>?_);rotate_left;unfold z3s at hF
  |refine AW.regO hF (fun hF=>?_)
  |refine AW.stepU [10,12] ?_;conv=>whnf
  |refine z0v.o hF (fun hF=>?_) (fun hF=>?_)
  |refine z0m.o hF zeh (fun a h=>zgi h) (fun a hF=>?_)
  |refine z0m.o hF zeg (fun a h=>zgh h) (fun a hF=>?_)
  |exact ⟨_,hF,LeX.a []⟩
  |refine z0m.o hF zgr (fun a h=>zo2 h) (fun a hF=>?_)
  |exact RetX.oA hF
def zoq (a1:z03)(a0:z0l)(w1_0:Bool):AS:=⟨[(2,.ptr 2 0),(3,.ptr 3 0),(4,.ptr 4 0),(35,.bool (w1_0))],[(2,.box 275 [aI (a0.fKind),aI (a0.fCount),aI (a0.fValue.fKind),aI (a0.fValue.fNum),.str (a0.fValue.fText)]),(3,.box 45 [aI (a1.fKind),aI (a1.fNum),.str (a1.fText)]),(4,.box 45 [aI (0),aI (0),.str (ByteArray.empty)])]⟩
theorem zns {n a1 a0}:z3v E0 39 (z3g n a1 a0) (zoq a1 a0):=AW.jT
def zhc (r:z03×Int):AV:=.tup [.agg [aI (r.1.fKind),aI (r.1.fNum),.str (r.1.fText)],aI (r.2)]
theorem zq7 {n a0 a1 r}(hF:z7n n a0 a1=some r):Con E0 true 235 [.agg [aI (a0.fKind),aI (a0.fCount),aI (a0.fValue.fKind),aI (a0.fValue.fNum),.str (a0.fValue.fText)],.agg [aI (a1.fKind),aI (a1.fNum),.str (a1.fText)]] (zhc r):=by
 unfold z7n at hF
 refine Con.walk _ Tryz.func235 rfl (z08 Tryz.func235 rfl rfl) rfl (Or.inr rfl) ?_
 repeat' first
  |refine zns hF (fun hF=>?_) (fun v hF=>?_);rotate_left;unfold z3g at hF
  |refine AW.regO hF (fun hF=>?_)
  |refine AW.stepU [9] ?_;conv=>whnf
  |refine z0v.o hF (fun hF=>?_) (fun hF=>?_)
  |refine z0m.o hF zeh (fun a h=>zgi h) (fun a hF=>?_)
  |refine z0m.o hF zeg (fun a h=>zgh h) (fun a hF=>?_)
  |exact ⟨_,hF,LeX.a []⟩
  |exact RetX.oA hF
def zy0 (a2:z03)(a1:(List z03))(v1_0:Int×Int×Int×Int×Int×ByteArray):AS:=⟨[(1,.sl 3 (a1.map z0a)),(5,.ptr 5 0),(6,.ptr 6 0),(8,.ptr 8 0),(9,aI (v1_0.1))],[(5,.box 45 [aI (a2.fKind),aI (a2.fNum),.str (a2.fText)]),(6,.box 45 [aI (0),aI (0),.str (ByteArray.empty)]),(8,.box 275 [aI (v1_0.2.1),aI (v1_0.2.2.1),aI (v1_0.2.2.2.1),aI (v1_0.2.2.2.2.1),.str (v1_0.2.2.2.2.2)])]⟩
theorem zwj {n a2 a1 k1_0_0}:z27 E0 47 (z84 n a2 a1 k1_0_0) (zy0 a2 a1):=LoopA.oT fun _=>rfl
def zn2 (r:z03×Int):AV:=.tup [.agg [aI (r.1.fKind),aI (r.1.fNum),.str (r.1.fText)],aI (r.2)]
end Go.Proofs.YtjpknpjjcddnnaaGreat
namespace Go.Proofs.YtjpknpjjcddnnaaGreat
open Go.RowKit
theorem zz4 {n a0 a1 a2 r}(hF:z9w n a0 a1 a2=some r):Con E0 true 229 [aI (a0),.sl 3 (a1.map z0a),.agg [aI (a2.fKind),aI (a2.fNum),.str (a2.fText)]] (zn2 r):=by
 unfold z9w at hF
 refine Con.walk _ Tryz.func229 rfl (z08 Tryz.func229 rfl rfl) rfl (Or.inr rfl) ?_
 repeat' first
  |refine AW.step ?_;conv=>whnf
  |refine z0v.o hF (fun hF=>?_) (fun hF=>?_)
  |refine z0m.o hF zfh (fun a h=>zh6 h) (fun a hF=>?_)
  |refine z0m.o hF zhc (fun a h=>zq7 h) (fun a hF=>?_)
  |refine IdxX.o z0a hF (fun x hF=>?_)
  |refine z0m.o hF zl9 (fun a h=>zx5 h) (fun a hF=>?_)
  |exact ⟨_,hF,LeX.a []⟩
  |refine zwj hF (LeX.a []) (fun m v hF=>?_);unfold z84 at hF
  |refine And.intro ⟨by kernel_rfl,by kernel_rfl⟩ ?_
  |exact RetX.oA hF
def zop (a1:Int)(a0:z0h)(w1_0:Bool):AS:=⟨[(1,aI (a1)),(2,.ptr 2 0),(13,.bool (w1_0))],[(2,.box 167 [.sl 1 (List.map (fun q=>AV.sl 5 (List.map z04 q)) (a0.fVars))])]⟩
theorem znr {n a1 a0}:z3v E0 19 (z3f n a1 a0) (zop a1 a0):=AW.jT
def ze3 (r:(List z01)):AV:=.sl 5 (r.map z04)
theorem zg3 {n a0 a1 r}(hF:z5u n a0 a1=some r):Con E0 false 228 [.agg [.sl 1 (List.map (fun q=>AV.sl 5 (List.map z04 q)) (a0.fVars))],aI (a1)] (ze3 r):=by
 unfold z5u at hF
 refine Con.walk _ Tryz.func228 rfl (z08 Tryz.func228 rfl rfl) rfl (Or.inl rfl) ?_
 repeat' first
  |refine znr hF (fun hF=>?_) (fun v hF=>?_);rotate_left;unfold z3f at hF
  |refine AW.regO hF (fun hF=>?_)
  |refine AW.stepU [1] ?_;conv=>whnf
  |refine z0v.o hF (fun hF=>?_) (fun hF=>?_)
  |refine IdxX.o (fun q=>AV.sl 5 (List.map z04 q)) hF (fun x hF=>?_)
  |exact ⟨_,hF,LeX.a []⟩
  |exact RetX.oA hF
def zjh (r:z01×Bool):AV:=.tup [.agg [aI (r.1.fSource),aI (r.1.fSeq),aI (r.1.fType),aI (r.1.fTime),.sl 3 (r.1.fValues.map z0a)],.bool (r.2)]
theorem zvf {n a0 a1 a2 a3 r}(hF:zcs n a0 a1 a2 a3=some r):Con E0 false 230 [.agg [.sl 1 (List.map (fun q=>AV.sl 5 (List.map z04 q)) (a0.fVars))],aI (a1),aI (a2),.agg [aI (a3.fSource),aI (a3.fSeq),aI (a3.fType),aI (a3.fTime),.sl 3 (a3.fValues.map z0a)]] (zjh r):=by
 unfold zcs at hF
 refine Con.walk _ Tryz.func230 rfl (z08 Tryz.func230 rfl rfl) rfl (Or.inl rfl) ?_
 repeat' first
  |refine AW.step ?_;conv=>whnf
  |refine z0v.o hF (fun hF=>?_) (fun hF=>?_)
  |refine z0m.o hF ze3 (fun a h=>zg3 h) (fun a hF=>?_)
  |refine IdxX.o z04 hF (fun x hF=>?_)
  |exact RetX.oA hF
def zto (a0:z0k)(x2:(List z01))(v1_0:Int×(List z03)):AS:=⟨[(4,.ptr 4 0),(8,.ptr 8 0),(10,.row 7063),(11,.sl 5 (x2.map z04)),(12,aI (v1_0.1))],[(4,.box 47 [aI (a0.fOp),.sl 8 (a0.fArgs.map idA),aI (a0.fVar),aI (a0.fField),aI (a0.fKind),aI (a0.fValue.fKind),aI (a0.fValue.fNum),.str (a0.fValue.fText)]),(8,.box 45 [aI (0),aI (0),.str (ByteArray.empty)]),(7063,.row 45 3 (v1_0.2.map z0a))]⟩
theorem zs4 {n a0 x2 k1_0_0}:z27 E0 114 (z71 n a0 x2 k1_0_0) (zto a0 x2):=LoopA.oT fun _=>rfl
def zjf (r:z03×Int):AV:=.tup [.agg [aI (r.1.fKind),aI (r.1.fNum),.str (r.1.fText)],aI (r.2)]
theorem zvd {n a0 a1 a2 a3 r}(hF:za8 n a0 a1 a2 a3=some r):Con E0 true 220 [.agg [aI (a0.fOp),.sl 8 (a0.fArgs.map idA),aI (a0.fVar),aI (a0.fField),aI (a0.fKind),aI (a0.fValue.fKind),aI (a0.fValue.fNum),.str (a0.fValue.fText)],.agg [.sl 1 (List.map (fun q=>AV.sl 5 (List.map z04 q)) (a1.fVars))],aI (a2),.agg [aI (a3.fSource),aI (a3.fSeq),aI (a3.fType),aI (a3.fTime),.sl 3 (a3.fValues.map z0a)]] (zjf r):=by
 unfold za8 at hF
 refine Con.walk _ Tryz.func220 rfl (z08 Tryz.func220 rfl rfl) rfl (Or.inr rfl) ?_
 repeat' first
  |refine AW.step ?_;conv=>whnf
  |refine z0v.o hF (fun hF=>?_) (fun hF=>?_)
  |refine z0m.o hF ze3 (fun a h=>zg3 h) (fun a hF=>?_)
  |refine zbm.o hF zn2 (fun a h=>zz4 h) (fun _=>Or.inr rfl) (fun a hF=>?_)
  |refine IdxX.o z04 hF (fun x hF=>?_)
  |refine IdxX.o z0a hF (fun x hF=>?_)
  |refine AppX.o z0a hF (by first|exact SubR.refl _|(repeat' first|exact SubR.nil|refine SubR.cons ?_ ?_|exact SubL.nil|refine SubL.cons ?_ ?_|exact Sub.refl _|exact Sub.nil _)) (fun l hF=>?_)
  |exact ⟨_,hF,LeX.a [(7063,63)]⟩
  |refine zs4 hF (LeX.trans (LeX.adopt 10 7063 45 3 rfl rfl) (LeX.a [])) (fun m v hF=>?_);unfold z71 at hF
  |refine z0m.o hF zjh (fun a h=>zvf h) (fun a hF=>?_)
  |refine z0m.o hF z9l (fun a h=>zac h) (fun a hF=>?_)
  |refine And.intro ⟨by kernel_rfl,by kernel_rfl⟩ ?_
  |exact RetX.oA hF
def zl0 (w2_1:Bool):AS:=⟨[(9,.bool (w2_1))],[]⟩
theorem zk9 {n}:zjn E0 13 (z1t n) zl0:=AW.jT2
def zl1 (a0:Int)(w1_0:Bool):AS:=⟨[(3,aI (a0)),(4,.bool (w1_0))],[]⟩
theorem zka {n a0}:zjn E0 13 (z1l n a0) (zl1 a0):=AW.jT2
def zg6 (r:Int):AV:=aI (r)
theorem zmd {n a0 r}(hF:z82 n a0=some r):Con E0 true 231 [aI (a0)] (zg6 r):=by
 unfold z82 at hF
 refine Con.walk _ Tryz.func231 rfl (z08 Tryz.func231 rfl rfl) rfl (Or.inr rfl) ?_
 repeat' first
  |refine zk9 hF (fun hF=>?_) (fun v hF=>?_);rotate_left;unfold z1t at hF
  |refine zka hF (fun hF=>?_) (fun v hF=>?_);rotate_left;unfold z1l at hF
  |refine AW.regO hF (fun hF=>?_)
  |refine AW.stepU [2,3,4,7,8] ?_;conv=>whnf
  |refine z0v.o hF (fun hF=>?_) (fun hF=>?_)
  |exact ⟨_,hF,LeX.a []⟩
  |exact ⟨_,hF,LeX.a []⟩
  |exact RetX.oA hF
def zkz (a1:(List Int))(a0:Int)(v1_0:Int)(cv1_0:Int->Option (Int))(w3_1:Bool):AS:=⟨[(0,aI (a0)),(1,.sl 1 (a1.map aI)),(5,aI (v1_0)),(38,.bool (w3_1))],[]⟩
theorem zk8 {n a1 a0 v1_0 cv1_0}:z3v E0 39 (z1e n a1 a0 v1_0 cv1_0) (zkz a1 a0 v1_0 cv1_0):=AW.jT
def zky (a1:(List Int))(a0:Int)(v1_0:Int):AS:=⟨[(0,aI (a0)),(1,.sl 1 (a1.map aI)),(5,aI (v1_0))],[]⟩
theorem zk7 {n a1 a0 k1_0_0}:z27 E0 39 (z15 n a1 a0 k1_0_0) (zky a1 a0):=LoopA.oT fun _=>rfl
def zg5 (r:Int):AV:=aI (r)
theorem zmc {n a0 a1 r}(hF:z9v n a0 a1=some r):Con E0 true 221 [aI (a0),.sl 1 (a1.map aI)] (zg5 r):=by
 unfold z9v at hF
 refine Con.walk _ Tryz.func221 rfl (z08 Tryz.func221 rfl rfl) rfl (Or.inr rfl) ?_
 repeat' first
  |refine zk8 hF (fun hF=>?_) (fun v hF=>?_);rotate_left;unfold z1e at hF
  |refine AW.regO hF (fun hF=>?_)
  |refine AW.stepU [5] ?_;conv=>whnf
  |refine z0v.o hF (fun hF=>?_) (fun hF=>?_)
  |refine z0v.f ?_
  |refine z0m.o hF zg6 (fun a h=>zmd h) (fun a hF=>?_)
  |exact ⟨_,hF,LeX.a []⟩
  |refine IdxX.o aI hF (fun x hF=>?_)
  |exact ⟨_,hF,LeX.a []⟩
  |refine zk7 hF (LeX.a []) (fun m v hF=>?_);unfold z15 at hF
  |refine And.intro ⟨by kernel_rfl,by kernel_rfl⟩ ?_
  |exact RetX.oA hF
def za2 (r:z03):AV:=.agg [aI (r.fKind),aI (r.fNum),.str (r.fText)]
theorem zbl {n a0 r}(hF:z1d n a0=some r):Con E0 true 69 [.bool (a0)] (za2 r):=by
 unfold z1d at hF
 refine Con.walk _ Tryz.func69 rfl (z08 Tryz.func69 rfl rfl) rfl (Or.inr rfl) ?_
 repeat' first
  |refine AW.step ?_;conv=>whnf
  |refine z0v.o hF (fun hF=>?_) (fun hF=>?_)
  |exact RetX.oA hF
def zqy (w1_0:Int×Int×ByteArray):AS:=⟨[(4,.ptr 4 0)],[(4,.box 45 [aI (w1_0.1),aI (w1_0.2.1),.str (w1_0.2.2)])]⟩
theorem zpf {n}:z3v E0 100 (z42 n) zqy:=AW.jT
def zqx (w2_1:Int×Int×ByteArray):AS:=⟨[(4,.ptr 4 0)],[(4,.box 45 [aI (w2_1.1),aI (w2_1.2.1),.str (w2_1.2.2)])]⟩
theorem zpe {n}:z3v E0 100 (z41 n) zqx:=AW.jT
def zis (r:z03):AV:=.agg [aI (r.fKind),aI (r.fNum),.str (r.fText)]
theorem zsy {n a0 a1 r}(hF:z6m n a0 a1=some r):Con E0 true 222 [aI (a0),.sl 3 (a1.map z0a)] (zis r):=by
 unfold z6m at hF
 refine Con.walk _ Tryz.func222 rfl (z08 Tryz.func222 rfl rfl) rfl (Or.inr rfl) ?_
 repeat' first
  |refine zpf hF (fun hF=>?_) (fun v hF=>?_);rotate_left;unfold z42 at hF
  |refine zpe hF (fun hF=>?_) (fun v hF=>?_);rotate_left;unfold z41 at hF
  |refine AW.regO hF (fun hF=>?_)
  |refine AW.stepU [13,15] ?_;conv=>whnf
  |refine z0v.o hF (fun hF=>?_) (fun hF=>?_)
  |refine IdxX.o z0a hF (fun x hF=>?_)
  |refine z0m.o hF za2 (fun a h=>zbl h) (fun a hF=>?_)
  |exact ⟨_,hF,LeX.a []⟩
  |refine And.intro ⟨by kernel_rfl,by kernel_rfl⟩ ?_
  |refine EqX.mk (by first|rfl|kernel_rfl) ?_
  |exact RetX.oA hF
def ztv (rF_tidegateref08_eval:z0k->z0h->Int->z01->Option (z03×Int))(a3:z01)(a2:Int)(a1:z0h)(a0:z0k)(v1_0:Int×(List z03)×(List Int)):AS:=⟨[(2,aI (a2)),(4,.ptr 4 0),(5,.ptr 5 0),(7,.ptr 7 0),(8,.ptr 8 0),(10,.row 7053),(11,.row 7058),(12,aI (v1_0.1))],[(4,.box 47 [aI (a0.fOp),.sl 8 (a0.fArgs.map idA),aI (a0.fVar),aI (a0.fField),aI (a0.fKind),aI (a0.fValue.fKind),aI (a0.fValue.fNum),.str (a0.fValue.fText)]),(5,.box 167 [.sl 1 (List.map (fun q=>AV.sl 5 (List.map z04 q)) (a1.fVars))]),(7,.box 66 [aI (a3.fSource),aI (a3.fSeq),aI (a3.fType),aI (a3.fTime),.sl 3 (a3.fValues.map z0a)]),(8,.box 45 [aI (0),aI (0),.str (ByteArray.empty)]),(7053,.row 45 3 (v1_0.2.1.map z0a)),(7058,.row 3 1 (v1_0.2.2.map aI))]⟩
theorem zsb {n rF_tidegateref08_eval a3 a2 a1 a0 k1_0_0}:z27 E0 71 (z72 n rF_tidegateref08_eval a3 a2 a1 a0 k1_0_0) (ztv rF_tidegateref08_eval a3 a2 a1 a0):=LoopA.oT fun _=>rfl
def zfg (r:z03×Int):AV:=.tup [.agg [aI (r.1.fKind),aI (r.1.fNum),.str (r.1.fText)],aI (r.2)]
theorem zvg {n a0 a1 a2 a3 r}(hF:z5j n a0 a1 a2 a3=some r):Con E0 true 206 [.agg [aI (a0.fOp),.sl 8 (a0.fArgs.map idA),aI (a0.fVar),aI (a0.fField),aI (a0.fKind),aI (a0.fValue.fKind),aI (a0.fValue.fNum),.str (a0.fValue.fText)],.agg [.sl 1 (List.map (fun q=>AV.sl 5 (List.map z04 q)) (a1.fVars))],aI (a2),.agg [aI (a3.fSource),aI (a3.fSeq),aI (a3.fType),aI (a3.fTime),.sl 3 (a3.fValues.map z0a)]] (zfg r):=by
 induction n generalizing a0 a1 a2 a3 r
 case zero=>cases hF
 case succ n ih =>
 unfold z5j at hF
 refine Con.walk _ Tryz.func206 rfl (z08 Tryz.func206 rfl rfl) rfl (Or.inr rfl) ?_
 repeat' first
  |refine AW.step ?_;conv=>whnf
  |refine z0v.o hF (fun hF=>?_) (fun hF=>?_)
  |refine z0m.o hF zjf (fun a h=>zvd h) (fun a hF=>?_)
  |refine zbm.o hF zg5 (fun a h=>zmc h) (fun _=>Or.inr rfl) (fun a hF=>?_)
  |refine zbm.o hF zis (fun a h=>zsy h) (fun _=>Or.inr rfl) (fun a hF=>?_)
  |refine IdxX.oD hF z6u (fun x hF=>?_)
  |refine z0m.o hF zfg (fun a h=>ih h) (fun a hF=>?_)
  |refine AppX.o z0a hF (by first|exact SubR.refl _|(repeat' first|exact SubR.nil|refine SubR.cons ?_ ?_|exact SubL.nil|refine SubL.cons ?_ ?_|exact Sub.refl _|exact Sub.nil _)) (fun l hF=>?_)
  |refine AppX.o aI hF (by first|exact SubR.refl _|(repeat' first|exact SubR.nil|refine SubR.cons ?_ ?_|exact SubL.nil|refine SubL.cons ?_ ?_|exact Sub.refl _|exact Sub.nil _)) (fun l hF=>?_)
  |exact ⟨_,hF,LeX.a [(7053,53),(7058,58)]⟩
  |refine zsb hF (LeX.trans (LeX.adopt 10 7053 45 3 rfl rfl) (LeX.trans (LeX.adopt 11 7058 3 1 rfl rfl) (LeX.a []))) (fun m v hF=>?_);unfold z72 at hF
  |refine And.intro ⟨by kernel_rfl,by kernel_rfl⟩ ?_
  |exact RetX.oA hF
def zji (r:z03×Int):AV:=.tup [.agg [aI (r.1.fKind),aI (r.1.fNum),.str (r.1.fText)],aI (r.2)]
theorem zvh {n a0 a1 a2 a3 r}(hF:zct n a0 a1 a2 a3=some r):Con E0 true 194 [.agg [aI (a0.fOp),.sl 8 (a0.fArgs.map idA),aI (a0.fVar),aI (a0.fField),aI (a0.fKind),aI (a0.fValue.fKind),aI (a0.fValue.fNum),.str (a0.fValue.fText)],.agg [.sl 1 (List.map (fun q=>AV.sl 5 (List.map z04 q)) (a1.fVars))],aI (a2),.agg [aI (a3.fSource),aI (a3.fSeq),aI (a3.fType),aI (a3.fTime),.sl 3 (a3.fValues.map z0a)]] (zji r):=by
 unfold zct at hF
 refine Con.walk _ Tryz.func194 rfl (z08 Tryz.func194 rfl rfl) rfl (Or.inr rfl) ?_
 repeat' first
  |refine AW.step ?_;conv=>whnf
  |refine z0v.o hF (fun hF=>?_) (fun hF=>?_)
  |refine z0m.o hF zbu (fun a h=>zdk h) (fun a hF=>?_)
  |refine z0m.o hF zfg (fun a h=>zvg h) (fun a hF=>?_)
  |exact RetX.oA hF
def zqz (w1_0:Bool):AS:=⟨[(8,.bool (w1_0))],[]⟩
theorem zpg {n}:z3v E0 26 (z43 n) zqz:=AW.jT
def zbr (r:Bool):AV:=.bool (r)
end Go.Proofs.YtjpknpjjcddnnaaGreat
namespace Go.Proofs.YtjpknpjjcddnnaaGreat
open Go.RowKit
theorem zdj {n a0 a1 a2 a3 r}(hF:z2h n a0 a1 a2 a3=some r):Con E0 true 164 [.agg [aI (a0.fOp),.sl 8 (a0.fArgs.map idA),aI (a0.fVar),aI (a0.fField),aI (a0.fKind),aI (a0.fValue.fKind),aI (a0.fValue.fNum),.str (a0.fValue.fText)],.agg [.sl 1 (List.map (fun q=>AV.sl 5 (List.map z04 q)) (a1.fVars))],aI (a2),.agg [aI (a3.fSource),aI (a3.fSeq),aI (a3.fType),aI (a3.fTime),.sl 3 (a3.fValues.map z0a)]] (zbr r):=by
 unfold z2h at hF
 refine Con.walk _ Tryz.func164 rfl (z08 Tryz.func164 rfl rfl) rfl (Or.inr rfl) ?_
 repeat' first
  |refine zpg hF (fun hF=>?_) (fun v hF=>?_);rotate_left;unfold z43 at hF
  |refine AW.regO hF (fun hF=>?_)
  |refine AW.stepU [2] ?_;conv=>whnf
  |refine z0v.o hF (fun hF=>?_) (fun hF=>?_)
  |refine z0m.o hF zji (fun a h=>zvh h) (fun a hF=>?_)
  |refine z0m.o hF za2 (fun a h=>zbl h) (fun a hF=>?_)
  |exact ⟨_,hF,LeX.a []⟩
  |refine And.intro ⟨by kernel_rfl,by kernel_rfl⟩ ?_
  |refine EqX.mk (by first|rfl|kernel_rfl) ?_
  |exact RetX.oA hF
def zei (r:Int):AV:=aI (r)
theorem zgj {n a0 a1 r}(hF:z86 n a0 a1=some r):Con E0 true 49 [.agg [aI (a0.fTime),aI (a0.fSource),aI (a0.fSeq)],.agg [aI (a1.fTime),aI (a1.fSource),aI (a1.fSeq)]] (zei r):=by
 unfold z86 at hF
 refine Con.walk _ Tryz.func49 rfl (z08 Tryz.func49 rfl rfl) rfl (Or.inr rfl) ?_
 repeat' first
  |refine AW.step ?_;conv=>whnf
  |refine z0v.o hF (fun hF=>?_) (fun hF=>?_)
  |exact RetX.oA hF
def zin (r:Int):AV:=aI (r)
theorem zst {n a0 a1 r}(hF:z9o n a0 a1=some r):Con E0 true 82 [.agg [aI (a0.fVar),aI (a0.fRef.fTime),aI (a0.fRef.fSource),aI (a0.fRef.fSeq)],.agg [aI (a1.fVar),aI (a1.fRef.fTime),aI (a1.fRef.fSource),aI (a1.fRef.fSeq)]] (zin r):=by
 unfold z9o at hF
 refine Con.walk _ Tryz.func82 rfl (z08 Tryz.func82 rfl rfl) rfl (Or.inr rfl) ?_
 repeat' first
  |refine AW.step ?_;conv=>whnf
  |refine z0v.o hF (fun hF=>?_) (fun hF=>?_)
  |refine z0m.o hF zei (fun a h=>zgj h) (fun a hF=>?_)
  |exact RetX.oA hF
def zmq (a1:z02)(a0:z02)(v1_0:Int)(k1_0_0:Option (Int))(cv1_0:Int->Option (Int))(w3_1:Bool):AS:=⟨[(2,.ptr 2 0),(3,.ptr 3 0),(5,aI (v1_0)),(18,.bool (w3_1))],[(2,.box 83 [.sl 4 (a0.fBindings.map z06)]),(3,.box 83 [.sl 4 (a1.fBindings.map z06)])]⟩
theorem zm5 {n a1 a0 v1_0 k1_0_0 cv1_0}:z3v E0 49 (z2v n a1 a0 v1_0 k1_0_0 cv1_0) (zmq a1 a0 v1_0 k1_0_0 cv1_0):=AW.jT
def zmp (a1:z02)(a0:z02)(v1_0:Int):AS:=⟨[(2,.ptr 2 0),(3,.ptr 3 0),(5,aI (v1_0))],[(2,.box 83 [.sl 4 (a0.fBindings.map z06)]),(3,.box 83 [.sl 4 (a1.fBindings.map z06)])]⟩
theorem zm4 {n a1 a0 k1_0_0}:z27 E0 49 (z26 n a1 a0 k1_0_0) (zmp a1 a0):=LoopA.oT fun _=>rfl
def zae (r:Int):AV:=aI (r)
theorem zcj {n a0 a1 r}(hF:z2z n a0 a1=some r):Con E0 true 44 [.agg [.sl 4 (a0.fBindings.map z06)],.agg [.sl 4 (a1.fBindings.map z06)]] (zae r):=by
 unfold z2z at hF
 refine Con.walk _ Tryz.func44 rfl (z08 Tryz.func44 rfl rfl) rfl (Or.inr rfl) ?_
 repeat' first
  |refine zm5 hF (fun hF=>?_) (fun v hF=>?_);rotate_left;unfold z2v at hF
  |refine AW.regO hF (fun hF=>?_)
  |refine AW.stepU [2] ?_;conv=>whnf
  |refine z0v.o hF (fun hF=>?_) (fun hF=>?_)
  |refine IdxX.o z06 hF (fun x hF=>?_)
  |refine z0m.o hF zin (fun a h=>zst h) (fun a hF=>?_)
  |exact ⟨_,hF,LeX.a []⟩
  |exact ⟨_,hF,LeX.a []⟩
  |refine zm4 hF (LeX.a []) (fun m v hF=>?_);unfold z26 at hF
  |refine And.intro ⟨by kernel_rfl,by kernel_rfl⟩ ?_
  |exact RetX.oA hF
def zmn (a1:z00)(a0:z00)(v1_0:Int)(cv1_0:Int->Option (Int))(x43:z0c)(x44:z0c)(w6_2:Bool):AS:=⟨[(2,.ptr 2 0),(3,.ptr 3 0),(6,aI (v1_0)),(7,.ptr 7 0),(8,.ptr 8 0),(71,.bool (w6_2))],[(2,.box 77 [aI (a0.fState),.sl 4 (a0.fBindings.map z06),.sl 2 (a0.fStarts.map z07)]),(3,.box 77 [aI (a1.fState),.sl 4 (a1.fBindings.map z06),.sl 2 (a1.fStarts.map z07)]),(7,.box 120 [aI (x43.fScope),aI (x43.fTime)]),(8,.box 120 [aI (x44.fScope),aI (x44.fTime)])]⟩
theorem zm2 {n a1 a0 v1_0 cv1_0 x43 x44}:z3v E0 89 (z24 n a1 a0 v1_0 cv1_0 x43 x44) (zmn a1 a0 v1_0 cv1_0 x43 x44):=AW.jT
def zmo (a1:z00)(a0:z00)(v1_0:Int)(k1_0_0:Option (Int))(cv1_0:Int->Option (Int))(w5_1:Bool):AS:=⟨[(2,.ptr 2 0),(3,.ptr 3 0),(6,aI (v1_0)),(40,.bool (w5_1))],[(2,.box 77 [aI (a0.fState),.sl 4 (a0.fBindings.map z06),.sl 2 (a0.fStarts.map z07)]),(3,.box 77 [aI (a1.fState),.sl 4 (a1.fBindings.map z06),.sl 2 (a1.fStarts.map z07)])]⟩
theorem zm3 {n a1 a0 v1_0 k1_0_0 cv1_0}:z3v E0 89 (z2u n a1 a0 v1_0 k1_0_0 cv1_0) (zmo a1 a0 v1_0 k1_0_0 cv1_0):=AW.jT
def zmm (a1:z00)(a0:z00)(v1_0:Int):AS:=⟨[(2,.ptr 2 0),(3,.ptr 3 0),(6,aI (v1_0))],[(2,.box 77 [aI (a0.fState),.sl 4 (a0.fBindings.map z06),.sl 2 (a0.fStarts.map z07)]),(3,.box 77 [aI (a1.fState),.sl 4 (a1.fBindings.map z06),.sl 2 (a1.fStarts.map z07)])]⟩
theorem zm1 {n a1 a0 k1_0_0}:z27 E0 89 (z23 n a1 a0 k1_0_0) (zmm a1 a0):=LoopA.oT fun _=>rfl
def zad (r:Int):AV:=aI (r)
theorem zci {n a0 a1 r}(hF:z2y n a0 a1=some r):Con E0 true 28 [.agg [aI (a0.fState),.sl 4 (a0.fBindings.map z06),.sl 2 (a0.fStarts.map z07)],.agg [aI (a1.fState),.sl 4 (a1.fBindings.map z06),.sl 2 (a1.fStarts.map z07)]] (zad r):=by
 unfold z2y at hF
 refine Con.walk _ Tryz.func28 rfl (z08 Tryz.func28 rfl rfl) rfl (Or.inr rfl) ?_
 repeat' first
  |refine zm2 hF (fun hF=>?_) (fun v hF=>?_);rotate_left;unfold z24 at hF
  |refine zm3 hF (fun hF=>?_) (fun v hF=>?_);rotate_left;unfold z2u at hF
  |refine AW.regO hF (fun hF=>?_)
  |refine AW.stepU [9,12] ?_;conv=>whnf
  |refine z0v.o hF (fun hF=>?_) (fun hF=>?_)
  |refine z0m.o hF zae (fun a h=>zcj h) (fun a hF=>?_)
  |refine IdxX.o z07 hF (fun x hF=>?_)
  |exact ⟨_,hF,LeX.a []⟩
  |exact ⟨_,hF,LeX.a []⟩
  |exact ⟨_,hF,LeX.a []⟩
  |refine zm1 hF (LeX.a []) (fun m v hF=>?_);unfold z23 at hF
  |refine And.intro ⟨by kernel_rfl,by kernel_rfl⟩ ?_
  |refine EqX.mk (by first|rfl|kernel_rfl) ?_
  |exact RetX.oA hF
def zvr (a1:z00)(a0:(List z00))(k1_0_0y:Int)(w3_1:Bool):AS:=⟨[(0,.sl 3 (a0.map z0b)),(3,.ptr 3 0),(5,aI (k1_0_0y)),(34,.bool (w3_1))],[(3,.box 77 [aI (a1.fState),.sl 4 (a1.fBindings.map z06),.sl 2 (a1.fStarts.map z07)])]⟩
theorem zug {n a1 a0 k1_0_0y}:z3v E0 49 (z5n n a1 a0 k1_0_0y) (zvr a1 a0 k1_0_0y):=AW.jT
def zvq (a1:z00)(a0:(List z00))(v1_0:Int)(k1_0_0:Int->Option ((List z00)))(cv1_0:Int->Option ((List z00)))(w4_2:Bool):AS:=⟨[(0,.sl 3 (a0.map z0b)),(3,.ptr 3 0),(5,aI (v1_0)),(19,.bool (w4_2))],[(3,.box 77 [aI (a1.fState),.sl 4 (a1.fBindings.map z06),.sl 2 (a1.fStarts.map z07)])]⟩
theorem zuf {n a1 a0 v1_0 k1_0_0 cv1_0}:z3v E0 49 (z5m n a1 a0 v1_0 k1_0_0 cv1_0) (zvq a1 a0 v1_0 k1_0_0 cv1_0):=AW.jT
def zvp (a1:z00)(a0:(List z00))(v1_0:Int):AS:=⟨[(0,.sl 3 (a0.map z0b)),(3,.ptr 3 0),(5,aI (v1_0))],[(3,.box 77 [aI (a1.fState),.sl 4 (a1.fBindings.map z06),.sl 2 (a1.fStarts.map z07)])]⟩
theorem zue {n a1 a0 k1_0_0}:z27 E0 49 (z3n n a1 a0 k1_0_0) (zvp a1 a0):=LoopA.oT fun _=>rfl
def zdp (r:(List z00)):AV:=.sl 3 (r.map z0b)
theorem zec {n a0 a1 r}(hF:z7w n a0 a1=some r):Con E0 false 91 [.sl 3 (a0.map z0b),.agg [aI (a1.fState),.sl 4 (a1.fBindings.map z06),.sl 2 (a1.fStarts.map z07)]] (zdp r):=by
 unfold z7w at hF
 refine Con.walk _ Tryz.func91 rfl (z08 Tryz.func91 rfl rfl) rfl (Or.inl rfl) ?_
 repeat' first
  |refine zug hF (fun hF=>?_) (fun v hF=>?_);rotate_left;unfold z5n at hF
  |refine zuf hF (fun hF=>?_) (fun v hF=>?_);rotate_left;unfold z5m at hF
  |refine AW.regO hF (fun hF=>?_)
  |refine AW.stepU [2,4] ?_;conv=>whnf
  |refine z0v.o hF (fun hF=>?_) (fun hF=>?_)
  |refine SlsX.o z0b hF (fun l hF=>?_)
  |refine AppX.o0 z0b hF (by first|exact SubR.refl _|(repeat' first|exact SubR.nil|refine SubR.cons ?_ ?_|exact SubL.nil|refine SubL.cons ?_ ?_|exact Sub.refl _|exact Sub.nil _)) (fun l hF=>?_)
  |refine AppX.o z0b hF (by first|exact SubR.refl _|(repeat' first|exact SubR.nil|refine SubR.cons ?_ ?_|exact SubL.nil|refine SubL.cons ?_ ?_|exact Sub.refl _|exact Sub.nil _)) (fun l hF=>?_)
  |refine IdxX.o z0b hF (fun x hF=>?_)
  |refine z0m.o hF zad (fun a h=>zci h) (fun a hF=>?_)
  |exact ⟨_,hF,LeX.a []⟩
  |exact ⟨_,hF,LeX.a []⟩
  |refine zue hF (LeX.a []) (fun m v hF=>?_);unfold z3n at hF
  |refine And.intro ⟨by kernel_rfl,by kernel_rfl⟩ ?_
  |exact RetX.oA hF
def zzs (w1_0:Bool):AS:=⟨[(2,.bool (w1_0))],[]⟩
theorem zzj {n}:z3v E0 9 (z5k n) zzs:=AW.jT
def zi3 (r:Bool):AV:=.bool (r)
theorem zku {n a0 r}(hF:zaq n a0=some r):Con E0 true 236 [aI (a0)] (zi3 r):=by
 unfold zaq at hF
 refine Con.walk _ Tryz.func236 rfl (z08 Tryz.func236 rfl rfl) rfl (Or.inr rfl) ?_
 repeat' first
  |refine zzj hF (fun hF=>?_) (fun v hF=>?_);rotate_left;unfold z5k at hF
  |refine AW.regO hF (fun hF=>?_)
  |refine AW.stepU [1] ?_;conv=>whnf
  |refine z0v.o hF (fun hF=>?_) (fun hF=>?_)
  |exact ⟨_,hF,LeX.a []⟩
  |exact RetX.oA hF
def zzr (w1_0:Bool):AS:=⟨[(4,.bool (w1_0))],[]⟩
theorem zzi {n}:z3v E0 20 (z3w n) zzr:=AW.jT
def zi2 (r:Bool):AV:=.bool (r)
theorem zkt {n a0 a1 r}(hF:zap n a0 a1=some r):Con E0 true 246 [aI (a0),.agg [aI (a1.fKind),aI (a1.fNum),.str (a1.fText)]] (zi2 r):=by
 unfold zap at hF
 refine Con.walk _ Tryz.func246 rfl (z08 Tryz.func246 rfl rfl) rfl (Or.inr rfl) ?_
 repeat' first
  |refine zzi hF (fun hF=>?_) (fun v hF=>?_);rotate_left;unfold z3w at hF
  |refine AW.regO hF (fun hF=>?_)
  |refine AW.stepU [1] ?_;conv=>whnf
  |refine z0v.o hF (fun hF=>?_) (fun hF=>?_)
  |refine z0v.f ?_
  |exact ⟨_,hF,LeX.a []⟩
  |exact RetX.oA hF
def zi1 (r:Int):AV:=aI (r)
theorem zks {n a0 a1 r}(hF:z9i n a0 a1=some r):Con E0 true 237 [aI (a0),.agg [aI (a1.fKind),aI (a1.fNum),.str (a1.fText)]] (zi1 r):=by
 unfold z9i at hF
 refine Con.walk _ Tryz.func237 rfl (z08 Tryz.func237 rfl rfl) rfl (Or.inr rfl) ?_
 repeat' first
  |refine AW.step ?_;conv=>whnf
  |refine z0v.o hF (fun hF=>?_) (fun hF=>?_)
  |refine z0m.o hF zgp (fun a h=>zgd h) (fun a hF=>?_)
  |refine z0m.o hF zi2 (fun a h=>zkt h) (fun a hF=>?_)
  |exact RetX.oA hF
def zna (r:z03):AV:=.agg [aI (r.fKind),aI (r.fNum),.str (r.fText)]
theorem zz9 {n a0 a1 r}(hF:ze8 n a0 a1=some r):Con E0 true 241 [aI (a0),.agg [aI (a1.fKind),aI (a1.fNum),.str (a1.fText)]] (zna r):=by
 unfold ze8 at hF
 refine Con.walk _ Tryz.func241 rfl (z08 Tryz.func241 rfl rfl) rfl (Or.inr rfl) ?_
 repeat' first
  |refine AW.step ?_;conv=>whnf
  |refine z0v.o hF (fun hF=>?_) (fun hF=>?_)
  |exact RetX.oA hF
def ziw (r:z03):AV:=.agg [aI (r.fKind),aI (r.fNum),.str (r.fText)]
theorem zt9 {n r}(hF:zch n=some r):Con E0 true 249 [] (ziw r):=by
 unfold zch at hF
 refine Con.walk _ Tryz.func249 rfl (z08 Tryz.func249 rfl rfl) rfl (Or.inr rfl) ?_
 repeat' first
  |refine AW.step ?_;conv=>whnf
  |exact RetX.oA hF
def zyn (m0:z03)(m1:z03):List (Nat×Ent):=[(100000,.box 45 [aI (m0.fKind),aI (m0.fNum),.str (m0.fText)]),(100001,.box 45 [aI (m1.fKind),aI (m1.fNum),.str (m1.fText)])]
def zc2 (r:z03×z03×z03):List (Nat×Ent):=[(2,.box 45 [aI (r.1.fKind),aI (r.1.fNum),.str (r.1.fText)]),(100000,.box 45 [aI (r.2.1.fKind),aI (r.2.1.fNum),.str (r.2.1.fText)]),(100001,.box 45 [aI (r.2.2.fKind),aI (r.2.2.fNum),.str (r.2.2.fText)])]
def zet (r:z03×z03×z03):AV:=.agg [aI (r.1.fKind),aI (r.1.fNum),.str (r.1.fText)]
def zxy (r:z03×z03×z03):AS:=⟨[(2,.ptr 2 0),(0,.ptr 100000 0),(1,.ptr 100001 0)],zc2 r⟩
end Go.Proofs.YtjpknpjjcddnnaaGreat
