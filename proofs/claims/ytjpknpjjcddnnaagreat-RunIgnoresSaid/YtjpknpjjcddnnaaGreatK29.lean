/- What some functions compute, over plain values. Printed by a program of mine (gen_fun.lean). -/
import Derived.Test.YtjpknpjjcddnnaaGreatK28
set_option linter.unusedVariables false
set_option linter.unusedSimpArgs false
set_option maxRecDepth 100000
set_option maxHeartbeats 8000000
namespace Go.Proofs.YtjpknpjjcddnnaaGreat
open Go.RowKit
theorem y0r {n a1 a0 k1_1_0}:z26 E0 93 (z9h n a1 a0 k1_1_0) (y0u a1 a0):=LoopA.oT fun _=>rfl
def y0v (a2:Int)(a1:z0h)(a0:z05)(w1_0:Bool):AS:=⟨[(2,aI (a2)),(3,.ptr 3 0),(4,.ptr 4 0),(12,.bool (w1_0))],[(3,.box 25 [aI (a0.fVars),aI (a0.fScopes),.sl 1 (a0.fStates.map z0c),.sl 17 (a0.fEdges.map z0d)]),(4,.box 51 [aI (a1.fFrom),aI (a1.fTo),aI (a1.fVar),aI (a1.fType),aI (a1.fCond.fOp),.sl 8 (a1.fCond.fArgs.map idA),aI (a1.fCond.fVar),aI (a1.fCond.fField),aI (a1.fCond.fKind),aI (a1.fCond.fValue.fKind),aI (a1.fCond.fValue.fNum),.str (a1.fCond.fValue.fText),.sl 1 (a1.fOpens.map aI),.sl 1 (a1.fCloses.map aI),.sl 8 (a1.fChecks.map idA),.sl 2 (a1.fLimits.map z0p),.sl 1 (a1.fInside.map aI)])]⟩
theorem y0s {n a2 a1 a0}:z57 E0 93 (z1q n a2 a1 a0) (y0v a2 a1 a0):=AW.jT
def zu7 (r:Int):AV:=aI (r)
theorem y1k {n a0 a1 a2 r}(hF:zdu n a0 a1 a2=some r):Con E0 true 101 [.agg [aI (a0.fVars),aI (a0.fScopes),.sl 1 (a0.fStates.map z0c),.sl 17 (a0.fEdges.map z0d)],.agg [aI (a1.fFrom),aI (a1.fTo),aI (a1.fVar),aI (a1.fType),aI (a1.fCond.fOp),.sl 8 (a1.fCond.fArgs.map idA),aI (a1.fCond.fVar),aI (a1.fCond.fField),aI (a1.fCond.fKind),aI (a1.fCond.fValue.fKind),aI (a1.fCond.fValue.fNum),.str (a1.fCond.fValue.fText),.sl 1 (a1.fOpens.map aI),.sl 1 (a1.fCloses.map aI),.sl 8 (a1.fChecks.map idA),.sl 2 (a1.fLimits.map z0p),.sl 1 (a1.fInside.map aI)],aI (a2)] (zu7 r):=by
 unfold zdu at hF
 refine Con.walk _ Tryz.func101 rfl (z08 Tryz.func101 rfl rfl) rfl (Or.inr rfl) ?_
 repeat' first
  |refine y0s hF (fun hF=>?_) (fun v hF=>?_);rotate_left;unfold z1q at hF
  |refine AW.regO hF (fun hF=>?_)
  |refine AW.stepU [1] ?_;conv=>whnf
  |refine z0v.o hF (fun hF=>?_) (fun hF=>?_)
  |refine z0v.t ?_
  |refine z0m.o hF znc (fun a h=>zoj h) (fun a hF=>?_)
  |refine z0m.o hF zlm (fun a h=>zxh h) (fun a hF=>?_)
  |refine z0m.o hF znd (fun a h=>zz8 h) (fun a hF=>?_)
  |refine z0m.o hF zfr (fun a h=>zkj h) (fun a hF=>?_)
  |refine IdxX.oD hF z6r (fun x hF=>?_)
  |exact ⟨_,hF,LeX.a []⟩
  |refine y0r hF (LeX.a []) (fun m v hF=>?_);unfold z9h at hF
  |refine z0m.o hF zea (fun a h=>zfi h) (fun a hF=>?_)
  |exact ⟨_,hF,LeX.a []⟩
  |refine And.intro ⟨by kernel_rfl,by kernel_rfl⟩ ?_
  |exact RetX.oA hF
def zzq (a0:z05)(v2_3:Int×Int):AS:=⟨[(1,.ptr 1 0),(6,aI (v2_3.1)),(62,.sl 17 (a0.fEdges.map z0d)),(63,aI (((a0.fEdges.map z0d).length:Int))),(64,aI (v2_3.2))],[(1,.box 25 [aI (a0.fVars),aI (a0.fScopes),.sl 1 (a0.fStates.map z0c),.sl 17 (a0.fEdges.map z0d)])]⟩
theorem zzh {n a0 k2_3_0}:z26 E0 78 (z91 n a0 k2_3_0) (zzq a0):=LoopA.oT fun _=>rfl
def zzr (a0:z05)(v1_2:Int):AS:=⟨[(1,.ptr 1 0),(47,.sl 1 (a0.fStates.map z0c)),(48,aI (((a0.fStates.map z0c).length:Int))),(49,aI (v1_2))],[(1,.box 25 [aI (a0.fVars),aI (a0.fScopes),.sl 1 (a0.fStates.map z0c),.sl 17 (a0.fEdges.map z0d)])]⟩
theorem zzi {n a0 k1_2_0}:z26 E0 78 (z92 n a0 k1_2_0) (zzr a0):=LoopA.oT fun _=>rfl
def zzs (a0:z05)(w2_1:Bool):AS:=⟨[(1,.ptr 1 0),(29,.bool (w2_1))],[(1,.box 25 [aI (a0.fVars),aI (a0.fScopes),.sl 1 (a0.fStates.map z0c),.sl 17 (a0.fEdges.map z0d)])]⟩
theorem zzj {n a0}:z57 E0 78 (z2q n a0) (zzs a0):=AW.jT
def zzt (a0:z05)(w1_0:Bool):AS:=⟨[(1,.ptr 1 0),(10,.bool (w1_0))],[(1,.box 25 [aI (a0.fVars),aI (a0.fScopes),.sl 1 (a0.fStates.map z0c),.sl 17 (a0.fEdges.map z0d)])]⟩
theorem zzk {n a0}:z57 E0 78 (z27 n a0) (zzt a0):=AW.jT
def zro (r:Int):AV:=aI (r)
theorem y0p {n a0 r}(hF:zcz n a0=some r):Con E0 true 70 [.agg [aI (a0.fVars),aI (a0.fScopes),.sl 1 (a0.fStates.map z0c),.sl 17 (a0.fEdges.map z0d)]] (zro r):=by
 unfold zcz at hF
 refine Con.walk _ Tryz.func70 rfl (z08 Tryz.func70 rfl rfl) rfl (Or.inr rfl) ?_
 repeat' first
  |refine zzj hF (fun hF=>?_) (fun v hF=>?_);rotate_left;unfold z2q at hF
  |refine zzk hF (fun hF=>?_) (fun v hF=>?_);rotate_left;unfold z27 at hF
  |refine AW.regO hF (fun hF=>?_)
  |refine AW.stepU [1,3] ?_;conv=>whnf
  |refine z0v.o hF (fun hF=>?_) (fun hF=>?_)
  |refine z0v.t ?_
  |refine IdxX.o z0d hF (fun x hF=>?_)
  |refine z0m.o hF zu7 (fun a h=>y1k h) (fun a hF=>?_)
  |exact ⟨_,hF,LeX.a []⟩
  |refine zzh hF (LeX.a []) (fun m v hF=>?_);unfold z91 at hF
  |refine IdxX.o z0c hF (fun x hF=>?_)
  |refine z0m.o hF zne (fun a h=>zz9 h) (fun a hF=>?_)
  |exact ⟨_,hF,LeX.a []⟩
  |refine zzi hF (LeX.a []) (fun m v hF=>?_);unfold z92 at hF
  |exact ⟨_,hF,LeX.a []⟩
  |exact RetX.oA hF
def ztv (w1_0:Bool):AS:=⟨[(2,.bool (w1_0))],[]⟩
theorem zsc {n}:z57 E0 9 (z32 n) ztv:=AW.jT
def zfl (r:Bool):AV:=.bool (r)
theorem zhb {n a0 r}(hF:z8y n a0=some r):Con E0 true 233 [aI (a0)] (zfl r):=by
 unfold z8y at hF
 refine Con.walk _ Tryz.func233 rfl (z08 Tryz.func233 rfl rfl) rfl (Or.inr rfl) ?_
 repeat' first
  |refine zsc hF (fun hF=>?_) (fun v hF=>?_);rotate_left;unfold z32 at hF
  |refine AW.regO hF (fun hF=>?_)
  |refine AW.stepU [1] ?_;conv=>whnf
  |refine z0v.o hF (fun hF=>?_) (fun hF=>?_)
  |exact ⟨_,hF,LeX.a []⟩
  |exact RetX.oA hF
def zr6 (w3_2:Bool):AS:=⟨[(58,.bool (w3_2))],[]⟩
theorem zpq {n}:z57 E0 71 (z1x n) zr6:=AW.jT
def zr5 (w4_3:Bool):AS:=⟨[(70,.bool (w4_3))],[]⟩
theorem zpp {n}:z57 E0 71 (z42 n) zr5:=AW.jT
def zr7 (a0:z0l)(w2_1:Bool):AS:=⟨[(1,.ptr 1 0),(23,.bool (w2_1))],[(1,.box 275 [aI (a0.fKind),aI (a0.fCount),aI (a0.fValue.fKind),aI (a0.fValue.fNum),.str (a0.fValue.fText)])]⟩
theorem zpr {n a0}:z57 E0 71 (z43 n a0) (zr7 a0):=AW.jT
def zr8 (a0:z0l)(w1_0:Bool):AS:=⟨[(1,.ptr 1 0),(15,.bool (w1_0))],[(1,.box 275 [aI (a0.fKind),aI (a0.fCount),aI (a0.fValue.fKind),aI (a0.fValue.fNum),.str (a0.fValue.fText)])]⟩
theorem zps {n a0}:z57 E0 71 (z44 n a0) (zr8 a0):=AW.jT
def zel (r:Int):AV:=aI (r)
theorem zgk {n a0 r}(hF:z8a n a0=some r):Con E0 true 243 [.agg [aI (a0.fKind),aI (a0.fCount),aI (a0.fValue.fKind),aI (a0.fValue.fNum),.str (a0.fValue.fText)]] (zel r):=by
 unfold z8a at hF
 refine Con.walk _ Tryz.func243 rfl (z08 Tryz.func243 rfl rfl) rfl (Or.inr rfl) ?_
 repeat' first
  |refine zpq hF (fun hF=>?_) (fun v hF=>?_);rotate_left;unfold z1x at hF
  |refine zpp hF (fun hF=>?_) (fun v hF=>?_);rotate_left;unfold z42 at hF
  |refine zpr hF (fun hF=>?_) (fun v hF=>?_);rotate_left;unfold z43 at hF
  |refine zps hF (fun hF=>?_) (fun v hF=>?_);rotate_left;unfold z44 at hF
  |refine AW.regO hF (fun hF=>?_)
  |refine AW.stepU [3,5,11,14] ?_;conv=>whnf
  |refine z0v.o hF (fun hF=>?_) (fun hF=>?_)
  |refine z0v.t ?_
  |refine z0m.o hF zfl (fun a h=>zhb h) (fun a hF=>?_)
  |exact ⟨_,hF,LeX.a []⟩
  |refine z0m.o hF z9l (fun a h=>zaa h) (fun a hF=>?_)
  |refine z0m.o hF zbm (fun a h=>zde h) (fun a hF=>?_)
  |exact ⟨_,hF,LeX.a []⟩
  |refine EqX.mk (by first|rfl|kernel_rfl) ?_
  |exact RetX.oA hF
def zek (r:Int):AV:=aI (r)
theorem zgj {n a0 a1 r}(hF:z88 n a0 a1=some r):Con E0 true 244 [aI (a0),.agg [aI (a1.fKind),aI (a1.fNum),.str (a1.fText)]] (zek r):=by
 unfold z88 at hF
 refine Con.walk _ Tryz.func244 rfl (z08 Tryz.func244 rfl rfl) rfl (Or.inr rfl) ?_
 repeat' first
  |refine AW.step ?_;conv=>whnf
  |refine z0v.o hF (fun hF=>?_) (fun hF=>?_)
  |refine z0m.o hF z9l (fun a h=>zaa h) (fun a hF=>?_)
  |refine z0m.o hF zbm (fun a h=>zde h) (fun a hF=>?_)
  |exact RetX.oA hF
def zgr (r:z02):AV:=.agg [aI (r.fKind),aI (r.fNum),.str (r.fText)]
theorem zo6 {n a0 a1 a2 r}(hF:z8o n a0 a1 a2=some r):Con E0 true 245 [aI (a0),.agg [aI (a1.fKind),aI (a1.fNum),.str (a1.fText)],.agg [aI (a2.fKind),aI (a2.fNum),.str (a2.fText)]] (zgr r):=by
 unfold z8o at hF
 refine Con.walk _ Tryz.func245 rfl (z08 Tryz.func245 rfl rfl) rfl (Or.inr rfl) ?_
 repeat' first
  |refine AW.step ?_;conv=>whnf
  |refine z0v.o hF (fun hF=>?_) (fun hF=>?_)
  |exact RetX.oA hF
def zw2 (a0:z0l)(w1_0:Int×Int×ByteArray):AS:=⟨[(4,.ptr 4 0),(8,.ptr 8 0)],[(4,.box 275 [aI (0),aI (0),aI (0),aI (0),.str (ByteArray.empty)]),(8,.box 275 [aI (a0.fKind),aI ((IntKind.wrap .i64 (a0.fCount+1))),aI (w1_0.1),aI (w1_0.2.1),.str (w1_0.2.2)])]⟩
theorem zus {n a0}:zjk E0 50 (z3t n a0) (zw2 a0):=AW.jT2
def zl8 (r:z0l×Int):AV:=.tup [.agg [aI (r.1.fKind),aI (r.1.fCount),aI (r.1.fValue.fKind),aI (r.1.fValue.fNum),.str (r.1.fValue.fText)],aI (r.2)]
theorem zx3 {n a0 a1 r}(hF:zaw n a0 a1=some r):Con E0 true 234 [.agg [aI (a0.fKind),aI (a0.fCount),aI (a0.fValue.fKind),aI (a0.fValue.fNum),.str (a0.fValue.fText)],.agg [aI (a1.fKind),aI (a1.fNum),.str (a1.fText)]] (zl8 r):=by
 unfold zaw at hF
 refine Con.walk _ Tryz.func234 rfl (z08 Tryz.func234 rfl rfl) rfl (Or.inr rfl) ?_
 repeat' first
  |refine zus hF (fun hF=>?_) (fun v hF=>?_);rotate_left;unfold z3t at hF
  |refine AW.regO hF (fun hF=>?_)
  |refine AW.stepU [10,12] ?_;conv=>whnf
  |refine z0v.o hF (fun hF=>?_) (fun hF=>?_)
  |refine z0m.o hF zel (fun a h=>zgk h) (fun a hF=>?_)
  |refine z0m.o hF zek (fun a h=>zgj h) (fun a hF=>?_)
  |exact ⟨_,hF,LeX.a []⟩
  |refine z0m.o hF zgr (fun a h=>zo6 h) (fun a hF=>?_)
  |exact RetX.oA hF
def zow (a1:z02)(a0:z0l)(w1_0:Bool):AS:=⟨[(2,.ptr 2 0),(3,.ptr 3 0),(4,.ptr 4 0),(35,.bool (w1_0))],[(2,.box 275 [aI (a0.fKind),aI (a0.fCount),aI (a0.fValue.fKind),aI (a0.fValue.fNum),.str (a0.fValue.fText)]),(3,.box 45 [aI (a1.fKind),aI (a1.fNum),.str (a1.fText)]),(4,.box 45 [aI (0),aI (0),.str (ByteArray.empty)])]⟩
theorem zny {n a1 a0}:z57 E0 39 (z3e n a1 a0) (zow a1 a0):=AW.jT
def zhh (r:z02×Int):AV:=.tup [.agg [aI (r.1.fKind),aI (r.1.fNum),.str (r.1.fText)],aI (r.2)]
theorem zqa {n a0 a1 r}(hF:z7o n a0 a1=some r):Con E0 true 235 [.agg [aI (a0.fKind),aI (a0.fCount),aI (a0.fValue.fKind),aI (a0.fValue.fNum),.str (a0.fValue.fText)],.agg [aI (a1.fKind),aI (a1.fNum),.str (a1.fText)]] (zhh r):=by
 unfold z7o at hF
 refine Con.walk _ Tryz.func235 rfl (z08 Tryz.func235 rfl rfl) rfl (Or.inr rfl) ?_
 repeat' first
  |refine zny hF (fun hF=>?_) (fun v hF=>?_);rotate_left;unfold z3e at hF
  |refine AW.regO hF (fun hF=>?_)
  |refine AW.stepU [9] ?_;conv=>whnf
  |refine z0v.o hF (fun hF=>?_) (fun hF=>?_)
  |refine z0m.o hF zel (fun a h=>zgk h) (fun a hF=>?_)
  |refine z0m.o hF zek (fun a h=>zgj h) (fun a hF=>?_)
  |exact ⟨_,hF,LeX.a []⟩
  |exact RetX.oA hF
def zy1 (a2:z02)(a1:(List z02))(v1_0:Int×Int×Int×Int×Int×ByteArray):AS:=⟨[(1,.sl 3 (a1.map z06)),(5,.ptr 5 0),(6,.ptr 6 0),(8,.ptr 8 0),(9,aI (v1_0.1))],[(5,.box 45 [aI (a2.fKind),aI (a2.fNum),.str (a2.fText)]),(6,.box 45 [aI (0),aI (0),.str (ByteArray.empty)]),(8,.box 275 [aI (v1_0.2.1),aI (v1_0.2.2.1),aI (v1_0.2.2.2.1),aI (v1_0.2.2.2.2.1),.str (v1_0.2.2.2.2.2)])]⟩
theorem zwd {n a2 a1 k1_0_0}:z26 E0 47 (z89 n a2 a1 k1_0_0) (zy1 a2 a1):=LoopA.oT fun _=>rfl
def zn9 (r:z02×Int):AV:=.tup [.agg [aI (r.1.fKind),aI (r.1.fNum),.str (r.1.fText)],aI (r.2)]
end Go.Proofs.YtjpknpjjcddnnaaGreat
namespace Go.Proofs.YtjpknpjjcddnnaaGreat
open Go.RowKit
theorem zz6 {n a0 a1 a2 r}(hF:z9w n a0 a1 a2=some r):Con E0 true 229 [aI (a0),.sl 3 (a1.map z06),.agg [aI (a2.fKind),aI (a2.fNum),.str (a2.fText)]] (zn9 r):=by
 unfold z9w at hF
 refine Con.walk _ Tryz.func229 rfl (z08 Tryz.func229 rfl rfl) rfl (Or.inr rfl) ?_
 repeat' first
  |refine AW.step ?_;conv=>whnf
  |refine z0v.o hF (fun hF=>?_) (fun hF=>?_)
  |refine z0m.o hF zfl (fun a h=>zhb h) (fun a hF=>?_)
  |refine z0m.o hF zhh (fun a h=>zqa h) (fun a hF=>?_)
  |refine IdxX.o z06 hF (fun x hF=>?_)
  |refine z0m.o hF zl8 (fun a h=>zx3 h) (fun a hF=>?_)
  |exact ⟨_,hF,LeX.a []⟩
  |refine zwd hF (LeX.a []) (fun m v hF=>?_);unfold z89 at hF
  |refine And.intro ⟨by kernel_rfl,by kernel_rfl⟩ ?_
  |exact RetX.oA hF
def zov (a1:Int)(a0:z0i)(w1_0:Bool):AS:=⟨[(1,aI (a1)),(2,.ptr 2 0),(13,.bool (w1_0))],[(2,.box 167 [.sl 1 (List.map (fun q=>AV.sl 5 (List.map z04 q)) (a0.fVars))])]⟩
theorem znx {n a1 a0}:z57 E0 19 (z3d n a1 a0) (zov a1 a0):=AW.jT
def ze4 (r:(List z01)):AV:=.sl 5 (r.map z04)
theorem zg3 {n a0 a1 r}(hF:z5s n a0 a1=some r):Con E0 false 228 [.agg [.sl 1 (List.map (fun q=>AV.sl 5 (List.map z04 q)) (a0.fVars))],aI (a1)] (ze4 r):=by
 unfold z5s at hF
 refine Con.walk _ Tryz.func228 rfl (z08 Tryz.func228 rfl rfl) rfl (Or.inl rfl) ?_
 repeat' first
  |refine znx hF (fun hF=>?_) (fun v hF=>?_);rotate_left;unfold z3d at hF
  |refine AW.regO hF (fun hF=>?_)
  |refine AW.stepU [1] ?_;conv=>whnf
  |refine z0v.o hF (fun hF=>?_) (fun hF=>?_)
  |refine IdxX.o (fun q=>AV.sl 5 (List.map z04 q)) hF (fun x hF=>?_)
  |exact ⟨_,hF,LeX.a []⟩
  |exact RetX.oA hF
def zje (r:z01×Bool):AV:=.tup [.agg [aI (r.1.fSource),aI (r.1.fSeq),aI (r.1.fType),aI (r.1.fTime),.sl 3 (r.1.fValues.map z06)],.bool (r.2)]
theorem zva {n a0 a1 a2 a3 r}(hF:zcj n a0 a1 a2 a3=some r):Con E0 false 230 [.agg [.sl 1 (List.map (fun q=>AV.sl 5 (List.map z04 q)) (a0.fVars))],aI (a1),aI (a2),.agg [aI (a3.fSource),aI (a3.fSeq),aI (a3.fType),aI (a3.fTime),.sl 3 (a3.fValues.map z06)]] (zje r):=by
 unfold zcj at hF
 refine Con.walk _ Tryz.func230 rfl (z08 Tryz.func230 rfl rfl) rfl (Or.inl rfl) ?_
 repeat' first
  |refine AW.step ?_;conv=>whnf
  |refine z0v.o hF (fun hF=>?_) (fun hF=>?_)
  |refine z0m.o hF ze4 (fun a h=>zg3 h) (fun a hF=>?_)
  |refine IdxX.o z04 hF (fun x hF=>?_)
  |exact RetX.oA hF
def ztn (a0:z0k)(x2:(List z01))(v1_0:Int×(List z02)):AS:=⟨[(4,.ptr 4 0),(8,.ptr 8 0),(10,.row 7063),(11,.sl 5 (x2.map z04)),(12,aI (v1_0.1))],[(4,.box 47 [aI (a0.fOp),.sl 8 (a0.fArgs.map idA),aI (a0.fVar),aI (a0.fField),aI (a0.fKind),aI (a0.fValue.fKind),aI (a0.fValue.fNum),.str (a0.fValue.fText)]),(8,.box 45 [aI (0),aI (0),.str (ByteArray.empty)]),(7063,.row 45 3 (v1_0.2.map z06))]⟩
theorem zs4 {n a0 x2 k1_0_0}:z26 E0 114 (z6y n a0 x2 k1_0_0) (ztn a0 x2):=LoopA.oT fun _=>rfl
def zjc (r:z02×Int):AV:=.tup [.agg [aI (r.1.fKind),aI (r.1.fNum),.str (r.1.fText)],aI (r.2)]
theorem zv8 {n a0 a1 a2 a3 r}(hF:za5 n a0 a1 a2 a3=some r):Con E0 true 220 [.agg [aI (a0.fOp),.sl 8 (a0.fArgs.map idA),aI (a0.fVar),aI (a0.fField),aI (a0.fKind),aI (a0.fValue.fKind),aI (a0.fValue.fNum),.str (a0.fValue.fText)],.agg [.sl 1 (List.map (fun q=>AV.sl 5 (List.map z04 q)) (a1.fVars))],aI (a2),.agg [aI (a3.fSource),aI (a3.fSeq),aI (a3.fType),aI (a3.fTime),.sl 3 (a3.fValues.map z06)]] (zjc r):=by
 unfold za5 at hF
 refine Con.walk _ Tryz.func220 rfl (z08 Tryz.func220 rfl rfl) rfl (Or.inr rfl) ?_
 repeat' first
  |refine AW.step ?_;conv=>whnf
  |refine z0v.o hF (fun hF=>?_) (fun hF=>?_)
  |refine z0m.o hF ze4 (fun a h=>zg3 h) (fun a hF=>?_)
  |refine zd1.o hF zn9 (fun a h=>zz6 h) (fun _=>Or.inr rfl) (fun a hF=>?_)
  |refine IdxX.o z04 hF (fun x hF=>?_)
  |refine IdxX.o z06 hF (fun x hF=>?_)
  |refine AppX.o z06 hF (by first|exact SubR.refl _|(repeat' first|exact SubR.nil|refine SubR.cons ?_ ?_|exact SubL.nil|refine SubL.cons ?_ ?_|exact Sub.refl _|exact Sub.nil _)) (fun l hF=>?_)
  |exact ⟨_,hF,LeX.a [(7063,63)]⟩
  |refine zs4 hF (LeX.trans (LeX.adopt 10 7063 45 3 rfl rfl) (LeX.a [])) (fun m v hF=>?_);unfold z6y at hF
  |refine z0m.o hF zje (fun a h=>zva h) (fun a hF=>?_)
  |refine z0m.o hF z9l (fun a h=>zaa h) (fun a hF=>?_)
  |refine And.intro ⟨by kernel_rfl,by kernel_rfl⟩ ?_
  |exact RetX.oA hF
def zky (w2_1:Bool):AS:=⟨[(9,.bool (w2_1))],[]⟩
theorem zk8 {n}:zjk E0 13 (z1s n) zky:=AW.jT2
def zkz (a0:Int)(w1_0:Bool):AS:=⟨[(3,aI (a0)),(4,.bool (w1_0))],[]⟩
theorem zk9 {n a0}:zjk E0 13 (z1j n a0) (zkz a0):=AW.jT2
def zg7 (r:Int):AV:=aI (r)
theorem zmg {n a0 r}(hF:z87 n a0=some r):Con E0 true 231 [aI (a0)] (zg7 r):=by
 unfold z87 at hF
 refine Con.walk _ Tryz.func231 rfl (z08 Tryz.func231 rfl rfl) rfl (Or.inr rfl) ?_
 repeat' first
  |refine zk8 hF (fun hF=>?_) (fun v hF=>?_);rotate_left;unfold z1s at hF
  |refine zk9 hF (fun hF=>?_) (fun v hF=>?_);rotate_left;unfold z1j at hF
  |refine AW.regO hF (fun hF=>?_)
  |refine AW.stepU [2,3,4,7,8] ?_;conv=>whnf
  |refine z0v.o hF (fun hF=>?_) (fun hF=>?_)
  |exact ⟨_,hF,LeX.a []⟩
  |exact ⟨_,hF,LeX.a []⟩
  |exact RetX.oA hF
def zkx (a1:(List Int))(a0:Int)(v1_0:Int)(cv1_0:Int->Option (Int))(w3_1:Bool):AS:=⟨[(0,aI (a0)),(1,.sl 1 (a1.map aI)),(5,aI (v1_0)),(38,.bool (w3_1))],[]⟩
theorem zk7 {n a1 a0 v1_0 cv1_0}:z57 E0 39 (z1b n a1 a0 v1_0 cv1_0) (zkx a1 a0 v1_0 cv1_0):=AW.jT
def zkw (a1:(List Int))(a0:Int)(v1_0:Int):AS:=⟨[(0,aI (a0)),(1,.sl 1 (a1.map aI)),(5,aI (v1_0))],[]⟩
theorem zk6 {n a1 a0 k1_0_0}:z26 E0 39 (z13 n a1 a0 k1_0_0) (zkw a1 a0):=LoopA.oT fun _=>rfl
def zg6 (r:Int):AV:=aI (r)
theorem zmf {n a0 a1 r}(hF:z9v n a0 a1=some r):Con E0 true 221 [aI (a0),.sl 1 (a1.map aI)] (zg6 r):=by
 unfold z9v at hF
 refine Con.walk _ Tryz.func221 rfl (z08 Tryz.func221 rfl rfl) rfl (Or.inr rfl) ?_
 repeat' first
  |refine zk7 hF (fun hF=>?_) (fun v hF=>?_);rotate_left;unfold z1b at hF
  |refine AW.regO hF (fun hF=>?_)
  |refine AW.stepU [5] ?_;conv=>whnf
  |refine z0v.o hF (fun hF=>?_) (fun hF=>?_)
  |refine z0v.f ?_
  |refine z0m.o hF zg7 (fun a h=>zmg h) (fun a hF=>?_)
  |exact ⟨_,hF,LeX.a []⟩
  |refine IdxX.o aI hF (fun x hF=>?_)
  |exact ⟨_,hF,LeX.a []⟩
  |refine zk6 hF (LeX.a []) (fun m v hF=>?_);unfold z13 at hF
  |refine And.intro ⟨by kernel_rfl,by kernel_rfl⟩ ?_
  |exact RetX.oA hF
def z9y (r:z02):AV:=.agg [aI (r.fKind),aI (r.fNum),.str (r.fText)]
theorem zbg {n a0 r}(hF:z1a n a0=some r):Con E0 true 69 [.bool (a0)] (z9y r):=by
 unfold z1a at hF
 refine Con.walk _ Tryz.func69 rfl (z08 Tryz.func69 rfl rfl) rfl (Or.inr rfl) ?_
 repeat' first
  |refine AW.step ?_;conv=>whnf
  |refine z0v.o hF (fun hF=>?_) (fun hF=>?_)
  |exact RetX.oA hF
def zqz (w1_0:Int×Int×ByteArray):AS:=⟨[(4,.ptr 4 0)],[(4,.box 45 [aI (w1_0.1),aI (w1_0.2.1),.str (w1_0.2.2)])]⟩
theorem zpj {n}:z57 E0 100 (z3z n) zqz:=AW.jT
def zqy (w2_1:Int×Int×ByteArray):AS:=⟨[(4,.ptr 4 0)],[(4,.box 45 [aI (w2_1.1),aI (w2_1.2.1),.str (w2_1.2.2)])]⟩
theorem zpi {n}:z57 E0 100 (z3y n) zqy:=AW.jT
def zij (r:z02):AV:=.agg [aI (r.fKind),aI (r.fNum),.str (r.fText)]
theorem zsx {n a0 a1 r}(hF:z6j n a0 a1=some r):Con E0 true 222 [aI (a0),.sl 3 (a1.map z06)] (zij r):=by
 unfold z6j at hF
 refine Con.walk _ Tryz.func222 rfl (z08 Tryz.func222 rfl rfl) rfl (Or.inr rfl) ?_
 repeat' first
  |refine zpj hF (fun hF=>?_) (fun v hF=>?_);rotate_left;unfold z3z at hF
  |refine zpi hF (fun hF=>?_) (fun v hF=>?_);rotate_left;unfold z3y at hF
  |refine AW.regO hF (fun hF=>?_)
  |refine AW.stepU [13,15] ?_;conv=>whnf
  |refine z0v.o hF (fun hF=>?_) (fun hF=>?_)
  |refine IdxX.o z06 hF (fun x hF=>?_)
  |refine z0m.o hF z9y (fun a h=>zbg h) (fun a hF=>?_)
  |exact ⟨_,hF,LeX.a []⟩
  |refine And.intro ⟨by kernel_rfl,by kernel_rfl⟩ ?_
  |refine EqX.mk (by first|rfl|kernel_rfl) ?_
  |exact RetX.oA hF
def ztu (rF_tidegateref08_eval:z0k->z0i->Int->z01->Option (z02×Int))(a3:z01)(a2:Int)(a1:z0i)(a0:z0k)(v1_0:Int×(List z02)×(List Int)):AS:=⟨[(2,aI (a2)),(4,.ptr 4 0),(5,.ptr 5 0),(7,.ptr 7 0),(8,.ptr 8 0),(10,.row 7053),(11,.row 7058),(12,aI (v1_0.1))],[(4,.box 47 [aI (a0.fOp),.sl 8 (a0.fArgs.map idA),aI (a0.fVar),aI (a0.fField),aI (a0.fKind),aI (a0.fValue.fKind),aI (a0.fValue.fNum),.str (a0.fValue.fText)]),(5,.box 167 [.sl 1 (List.map (fun q=>AV.sl 5 (List.map z04 q)) (a1.fVars))]),(7,.box 66 [aI (a3.fSource),aI (a3.fSeq),aI (a3.fType),aI (a3.fTime),.sl 3 (a3.fValues.map z06)]),(8,.box 45 [aI (0),aI (0),.str (ByteArray.empty)]),(7053,.row 45 3 (v1_0.2.1.map z06)),(7058,.row 3 1 (v1_0.2.2.map aI))]⟩
theorem zsb {n rF_tidegateref08_eval a3 a2 a1 a0 k1_0_0}:z26 E0 71 (z6z n rF_tidegateref08_eval a3 a2 a1 a0 k1_0_0) (ztu rF_tidegateref08_eval a3 a2 a1 a0):=LoopA.oT fun _=>rfl
def zfk (r:z02×Int):AV:=.tup [.agg [aI (r.1.fKind),aI (r.1.fNum),.str (r.1.fText)],aI (r.2)]
theorem zvb {n a0 a1 a2 a3 r}(hF:z5h n a0 a1 a2 a3=some r):Con E0 true 206 [.agg [aI (a0.fOp),.sl 8 (a0.fArgs.map idA),aI (a0.fVar),aI (a0.fField),aI (a0.fKind),aI (a0.fValue.fKind),aI (a0.fValue.fNum),.str (a0.fValue.fText)],.agg [.sl 1 (List.map (fun q=>AV.sl 5 (List.map z04 q)) (a1.fVars))],aI (a2),.agg [aI (a3.fSource),aI (a3.fSeq),aI (a3.fType),aI (a3.fTime),.sl 3 (a3.fValues.map z06)]] (zfk r):=by
 induction n generalizing a0 a1 a2 a3 r
 case zero=>cases hF
 case succ n ih =>
 unfold z5h at hF
 refine Con.walk _ Tryz.func206 rfl (z08 Tryz.func206 rfl rfl) rfl (Or.inr rfl) ?_
 repeat' first
  |refine AW.step ?_;conv=>whnf
  |refine z0v.o hF (fun hF=>?_) (fun hF=>?_)
  |refine z0m.o hF zjc (fun a h=>zv8 h) (fun a hF=>?_)
  |refine zd1.o hF zg6 (fun a h=>zmf h) (fun _=>Or.inr rfl) (fun a hF=>?_)
  |refine zd1.o hF zij (fun a h=>zsx h) (fun _=>Or.inr rfl) (fun a hF=>?_)
  |refine IdxX.oD hF z6r (fun x hF=>?_)
  |refine z0m.o hF zfk (fun a h=>ih h) (fun a hF=>?_)
  |refine AppX.o z06 hF (by first|exact SubR.refl _|(repeat' first|exact SubR.nil|refine SubR.cons ?_ ?_|exact SubL.nil|refine SubL.cons ?_ ?_|exact Sub.refl _|exact Sub.nil _)) (fun l hF=>?_)
  |refine AppX.o aI hF (by first|exact SubR.refl _|(repeat' first|exact SubR.nil|refine SubR.cons ?_ ?_|exact SubL.nil|refine SubL.cons ?_ ?_|exact Sub.refl _|exact Sub.nil _)) (fun l hF=>?_)
  |exact ⟨_,hF,LeX.a [(7053,53),(7058,58)]⟩
  |refine zsb hF (LeX.trans (LeX.adopt 10 7053 45 3 rfl rfl) (LeX.trans (LeX.adopt 11 7058 3 1 rfl rfl) (LeX.a []))) (fun m v hF=>?_);unfold z6z at hF
  |refine And.intro ⟨by kernel_rfl,by kernel_rfl⟩ ?_
  |exact RetX.oA hF
def zjf (r:z02×Int):AV:=.tup [.agg [aI (r.1.fKind),aI (r.1.fNum),.str (r.1.fText)],aI (r.2)]
theorem zvc {n a0 a1 a2 a3 r}(hF:zck n a0 a1 a2 a3=some r):Con E0 true 194 [.agg [aI (a0.fOp),.sl 8 (a0.fArgs.map idA),aI (a0.fVar),aI (a0.fField),aI (a0.fKind),aI (a0.fValue.fKind),aI (a0.fValue.fNum),.str (a0.fValue.fText)],.agg [.sl 1 (List.map (fun q=>AV.sl 5 (List.map z04 q)) (a1.fVars))],aI (a2),.agg [aI (a3.fSource),aI (a3.fSeq),aI (a3.fType),aI (a3.fTime),.sl 3 (a3.fValues.map z06)]] (zjf r):=by
 unfold zck at hF
 refine Con.walk _ Tryz.func194 rfl (z08 Tryz.func194 rfl rfl) rfl (Or.inr rfl) ?_
 repeat' first
  |refine AW.step ?_;conv=>whnf
  |refine z0v.o hF (fun hF=>?_) (fun hF=>?_)
  |refine z0m.o hF zbl (fun a h=>zdd h) (fun a hF=>?_)
  |refine z0m.o hF zfk (fun a h=>zvb h) (fun a hF=>?_)
  |exact RetX.oA hF
def zr0 (w1_0:Bool):AS:=⟨[(8,.bool (w1_0))],[]⟩
theorem zpk {n}:z57 E0 26 (z40 n) zr0:=AW.jT
def zbi (r:Bool):AV:=.bool (r)
end Go.Proofs.YtjpknpjjcddnnaaGreat
namespace Go.Proofs.YtjpknpjjcddnnaaGreat
open Go.RowKit
theorem zdc {n a0 a1 a2 a3 r}(hF:z2f n a0 a1 a2 a3=some r):Con E0 true 164 [.agg [aI (a0.fOp),.sl 8 (a0.fArgs.map idA),aI (a0.fVar),aI (a0.fField),aI (a0.fKind),aI (a0.fValue.fKind),aI (a0.fValue.fNum),.str (a0.fValue.fText)],.agg [.sl 1 (List.map (fun q=>AV.sl 5 (List.map z04 q)) (a1.fVars))],aI (a2),.agg [aI (a3.fSource),aI (a3.fSeq),aI (a3.fType),aI (a3.fTime),.sl 3 (a3.fValues.map z06)]] (zbi r):=by
 unfold z2f at hF
 refine Con.walk _ Tryz.func164 rfl (z08 Tryz.func164 rfl rfl) rfl (Or.inr rfl) ?_
 repeat' first
  |refine zpk hF (fun hF=>?_) (fun v hF=>?_);rotate_left;unfold z40 at hF
  |refine AW.regO hF (fun hF=>?_)
  |refine AW.stepU [2] ?_;conv=>whnf
  |refine z0v.o hF (fun hF=>?_) (fun hF=>?_)
  |refine z0m.o hF zjf (fun a h=>zvc h) (fun a hF=>?_)
  |refine z0m.o hF z9y (fun a h=>zbg h) (fun a hF=>?_)
  |exact ⟨_,hF,LeX.a []⟩
  |refine And.intro ⟨by kernel_rfl,by kernel_rfl⟩ ?_
  |refine EqX.mk (by first|rfl|kernel_rfl) ?_
  |exact RetX.oA hF
def zbn (r:Int):AV:=aI (r)
theorem zdf {n a0 a1 r}(hF:z6l n a0 a1=some r):Con E0 true 49 [.agg [aI (a0.fTime),aI (a0.fSource),aI (a0.fSeq)],.agg [aI (a1.fTime),aI (a1.fSource),aI (a1.fSeq)]] (zbn r):=by
 unfold z6l at hF
 refine Con.walk _ Tryz.func49 rfl (z08 Tryz.func49 rfl rfl) rfl (Or.inr rfl) ?_
 repeat' first
  |refine AW.step ?_;conv=>whnf
  |refine z0v.o hF (fun hF=>?_) (fun hF=>?_)
  |exact RetX.oA hF
def zif (r:Int):AV:=aI (r)
theorem zss {n a0 a1 r}(hF:z9n n a0 a1=some r):Con E0 true 82 [.agg [aI (a0.fVar),aI (a0.fRef.fTime),aI (a0.fRef.fSource),aI (a0.fRef.fSeq)],.agg [aI (a1.fVar),aI (a1.fRef.fTime),aI (a1.fRef.fSource),aI (a1.fRef.fSeq)]] (zif r):=by
 unfold z9n at hF
 refine Con.walk _ Tryz.func82 rfl (z08 Tryz.func82 rfl rfl) rfl (Or.inr rfl) ?_
 repeat' first
  |refine AW.step ?_;conv=>whnf
  |refine z0v.o hF (fun hF=>?_) (fun hF=>?_)
  |refine z0m.o hF zbn (fun a h=>zdf h) (fun a hF=>?_)
  |exact RetX.oA hF
def zmu (a1:z03)(a0:z03)(v1_0:Int)(k1_0_0:Option (Int))(cv1_0:Int->Option (Int))(w3_1:Bool):AS:=⟨[(2,.ptr 2 0),(3,.ptr 3 0),(5,aI (v1_0)),(18,.bool (w3_1))],[(2,.box 83 [.sl 4 (a0.fBindings.map z0a)]),(3,.box 83 [.sl 4 (a1.fBindings.map z0a)])]⟩
theorem zm5 {n a1 a0 v1_0 k1_0_0 cv1_0}:z57 E0 49 (z2u n a1 a0 v1_0 k1_0_0 cv1_0) (zmu a1 a0 v1_0 k1_0_0 cv1_0):=AW.jT
def zmt (a1:z03)(a0:z03)(v1_0:Int):AS:=⟨[(2,.ptr 2 0),(3,.ptr 3 0),(5,aI (v1_0))],[(2,.box 83 [.sl 4 (a0.fBindings.map z0a)]),(3,.box 83 [.sl 4 (a1.fBindings.map z0a)])]⟩
theorem zm4 {n a1 a0 k1_0_0}:z26 E0 49 (z24 n a1 a0 k1_0_0) (zmt a1 a0):=LoopA.oT fun _=>rfl
def zab (r:Int):AV:=aI (r)
theorem zcb {n a0 a1 r}(hF:z2x n a0 a1=some r):Con E0 true 44 [.agg [.sl 4 (a0.fBindings.map z0a)],.agg [.sl 4 (a1.fBindings.map z0a)]] (zab r):=by
 unfold z2x at hF
 refine Con.walk _ Tryz.func44 rfl (z08 Tryz.func44 rfl rfl) rfl (Or.inr rfl) ?_
 repeat' first
  |refine zm5 hF (fun hF=>?_) (fun v hF=>?_);rotate_left;unfold z2u at hF
  |refine AW.regO hF (fun hF=>?_)
  |refine AW.stepU [2] ?_;conv=>whnf
  |refine z0v.o hF (fun hF=>?_) (fun hF=>?_)
  |refine IdxX.o z0a hF (fun x hF=>?_)
  |refine z0m.o hF zif (fun a h=>zss h) (fun a hF=>?_)
  |exact ⟨_,hF,LeX.a []⟩
  |exact ⟨_,hF,LeX.a []⟩
  |refine zm4 hF (LeX.a []) (fun m v hF=>?_);unfold z24 at hF
  |refine And.intro ⟨by kernel_rfl,by kernel_rfl⟩ ?_
  |exact RetX.oA hF
def zmr (a1:z00)(a0:z00)(v1_0:Int)(cv1_0:Int->Option (Int))(x43:z0b)(x44:z0b)(w6_2:Bool):AS:=⟨[(2,.ptr 2 0),(3,.ptr 3 0),(6,aI (v1_0)),(7,.ptr 7 0),(8,.ptr 8 0),(71,.bool (w6_2))],[(2,.box 77 [aI (a0.fState),.sl 4 (a0.fBindings.map z0a),.sl 2 (a0.fStarts.map z09)]),(3,.box 77 [aI (a1.fState),.sl 4 (a1.fBindings.map z0a),.sl 2 (a1.fStarts.map z09)]),(7,.box 120 [aI (x43.fScope),aI (x43.fTime)]),(8,.box 120 [aI (x44.fScope),aI (x44.fTime)])]⟩
theorem zm2 {n a1 a0 v1_0 cv1_0 x43 x44}:z57 E0 89 (z23 n a1 a0 v1_0 cv1_0 x43 x44) (zmr a1 a0 v1_0 cv1_0 x43 x44):=AW.jT
def zms (a1:z00)(a0:z00)(v1_0:Int)(k1_0_0:Option (Int))(cv1_0:Int->Option (Int))(w5_1:Bool):AS:=⟨[(2,.ptr 2 0),(3,.ptr 3 0),(6,aI (v1_0)),(40,.bool (w5_1))],[(2,.box 77 [aI (a0.fState),.sl 4 (a0.fBindings.map z0a),.sl 2 (a0.fStarts.map z09)]),(3,.box 77 [aI (a1.fState),.sl 4 (a1.fBindings.map z0a),.sl 2 (a1.fStarts.map z09)])]⟩
theorem zm3 {n a1 a0 v1_0 k1_0_0 cv1_0}:z57 E0 89 (z2t n a1 a0 v1_0 k1_0_0 cv1_0) (zms a1 a0 v1_0 k1_0_0 cv1_0):=AW.jT
def zmq (a1:z00)(a0:z00)(v1_0:Int):AS:=⟨[(2,.ptr 2 0),(3,.ptr 3 0),(6,aI (v1_0))],[(2,.box 77 [aI (a0.fState),.sl 4 (a0.fBindings.map z0a),.sl 2 (a0.fStarts.map z09)]),(3,.box 77 [aI (a1.fState),.sl 4 (a1.fBindings.map z0a),.sl 2 (a1.fStarts.map z09)])]⟩
theorem zm1 {n a1 a0 k1_0_0}:z26 E0 89 (z21 n a1 a0 k1_0_0) (zmq a1 a0):=LoopA.oT fun _=>rfl
def zdm (r:Int):AV:=aI (r)
theorem zfp {n a0 a1 r}(hF:z4s n a0 a1=some r):Con E0 true 28 [.agg [aI (a0.fState),.sl 4 (a0.fBindings.map z0a),.sl 2 (a0.fStarts.map z09)],.agg [aI (a1.fState),.sl 4 (a1.fBindings.map z0a),.sl 2 (a1.fStarts.map z09)]] (zdm r):=by
 unfold z4s at hF
 refine Con.walk _ Tryz.func28 rfl (z08 Tryz.func28 rfl rfl) rfl (Or.inr rfl) ?_
 repeat' first
  |refine zm2 hF (fun hF=>?_) (fun v hF=>?_);rotate_left;unfold z23 at hF
  |refine zm3 hF (fun hF=>?_) (fun v hF=>?_);rotate_left;unfold z2t at hF
  |refine AW.regO hF (fun hF=>?_)
  |refine AW.stepU [9,12] ?_;conv=>whnf
  |refine z0v.o hF (fun hF=>?_) (fun hF=>?_)
  |refine z0m.o hF zab (fun a h=>zcb h) (fun a hF=>?_)
  |refine IdxX.o z09 hF (fun x hF=>?_)
  |exact ⟨_,hF,LeX.a []⟩
  |exact ⟨_,hF,LeX.a []⟩
  |exact ⟨_,hF,LeX.a []⟩
  |refine zm1 hF (LeX.a []) (fun m v hF=>?_);unfold z21 at hF
  |refine And.intro ⟨by kernel_rfl,by kernel_rfl⟩ ?_
  |refine EqX.mk (by first|rfl|kernel_rfl) ?_
  |exact RetX.oA hF
def zvm (a1:z00)(a0:(List z00))(k1_0_0y:Int)(w3_1:Bool):AS:=⟨[(0,.sl 3 (a0.map z0e)),(3,.ptr 3 0),(5,aI (k1_0_0y)),(34,.bool (w3_1))],[(3,.box 77 [aI (a1.fState),.sl 4 (a1.fBindings.map z0a),.sl 2 (a1.fStarts.map z09)])]⟩
theorem zuc {n a1 a0 k1_0_0y}:z57 E0 49 (z5l n a1 a0 k1_0_0y) (zvm a1 a0 k1_0_0y):=AW.jT
def zvl (a1:z00)(a0:(List z00))(v1_0:Int)(k1_0_0:Int->Option ((List z00)))(cv1_0:Int->Option ((List z00)))(w4_2:Bool):AS:=⟨[(0,.sl 3 (a0.map z0e)),(3,.ptr 3 0),(5,aI (v1_0)),(19,.bool (w4_2))],[(3,.box 77 [aI (a1.fState),.sl 4 (a1.fBindings.map z0a),.sl 2 (a1.fStarts.map z09)])]⟩
theorem zub {n a1 a0 v1_0 k1_0_0 cv1_0}:z57 E0 49 (z5k n a1 a0 v1_0 k1_0_0 cv1_0) (zvl a1 a0 v1_0 k1_0_0 cv1_0):=AW.jT
def zvk (a1:z00)(a0:(List z00))(v1_0:Int):AS:=⟨[(0,.sl 3 (a0.map z0e)),(3,.ptr 3 0),(5,aI (v1_0))],[(3,.box 77 [aI (a1.fState),.sl 4 (a1.fBindings.map z0a),.sl 2 (a1.fStarts.map z09)])]⟩
theorem zua {n a1 a0 k1_0_0}:z26 E0 49 (z3o n a1 a0 k1_0_0) (zvk a1 a0):=LoopA.oT fun _=>rfl
def zdk (r:(List z00)):AV:=.sl 3 (r.map z0e)
theorem zef {n a0 a1 r}(hF:z80 n a0 a1=some r):Con E0 false 91 [.sl 3 (a0.map z0e),.agg [aI (a1.fState),.sl 4 (a1.fBindings.map z0a),.sl 2 (a1.fStarts.map z09)]] (zdk r):=by
 unfold z80 at hF
 refine Con.walk _ Tryz.func91 rfl (z08 Tryz.func91 rfl rfl) rfl (Or.inl rfl) ?_
 repeat' first
  |refine zuc hF (fun hF=>?_) (fun v hF=>?_);rotate_left;unfold z5l at hF
  |refine zub hF (fun hF=>?_) (fun v hF=>?_);rotate_left;unfold z5k at hF
  |refine AW.regO hF (fun hF=>?_)
  |refine AW.stepU [2,4] ?_;conv=>whnf
  |refine z0v.o hF (fun hF=>?_) (fun hF=>?_)
  |refine SlsX.o z0e hF (fun l hF=>?_)
  |refine AppX.o0 z0e hF (by first|exact SubR.refl _|(repeat' first|exact SubR.nil|refine SubR.cons ?_ ?_|exact SubL.nil|refine SubL.cons ?_ ?_|exact Sub.refl _|exact Sub.nil _)) (fun l hF=>?_)
  |refine AppX.o z0e hF (by first|exact SubR.refl _|(repeat' first|exact SubR.nil|refine SubR.cons ?_ ?_|exact SubL.nil|refine SubL.cons ?_ ?_|exact Sub.refl _|exact Sub.nil _)) (fun l hF=>?_)
  |refine IdxX.o z0e hF (fun x hF=>?_)
  |refine z0m.o hF zdm (fun a h=>zfp h) (fun a hF=>?_)
  |exact ⟨_,hF,LeX.a []⟩
  |exact ⟨_,hF,LeX.a []⟩
  |refine zua hF (LeX.a []) (fun m v hF=>?_);unfold z3o at hF
  |refine And.intro ⟨by kernel_rfl,by kernel_rfl⟩ ?_
  |exact RetX.oA hF
def zzv (w1_0:Bool):AS:=⟨[(2,.bool (w1_0))],[]⟩
theorem zzm {n}:z57 E0 9 (z5i n) zzv:=AW.jT
def zhw (r:Bool):AV:=.bool (r)
theorem zks {n a0 r}(hF:zao n a0=some r):Con E0 true 236 [aI (a0)] (zhw r):=by
 unfold zao at hF
 refine Con.walk _ Tryz.func236 rfl (z08 Tryz.func236 rfl rfl) rfl (Or.inr rfl) ?_
 repeat' first
  |refine zzm hF (fun hF=>?_) (fun v hF=>?_);rotate_left;unfold z5i at hF
  |refine AW.regO hF (fun hF=>?_)
  |refine AW.stepU [1] ?_;conv=>whnf
  |refine z0v.o hF (fun hF=>?_) (fun hF=>?_)
  |exact ⟨_,hF,LeX.a []⟩
  |exact RetX.oA hF
def zzu (w1_0:Bool):AS:=⟨[(4,.bool (w1_0))],[]⟩
theorem zzl {n}:z57 E0 20 (z3v n) zzu:=AW.jT
def zhv (r:Bool):AV:=.bool (r)
theorem zkr {n a0 a1 r}(hF:zan n a0 a1=some r):Con E0 true 246 [aI (a0),.agg [aI (a1.fKind),aI (a1.fNum),.str (a1.fText)]] (zhv r):=by
 unfold zan at hF
 refine Con.walk _ Tryz.func246 rfl (z08 Tryz.func246 rfl rfl) rfl (Or.inr rfl) ?_
 repeat' first
  |refine zzl hF (fun hF=>?_) (fun v hF=>?_);rotate_left;unfold z3v at hF
  |refine AW.regO hF (fun hF=>?_)
  |refine AW.stepU [1] ?_;conv=>whnf
  |refine z0v.o hF (fun hF=>?_) (fun hF=>?_)
  |refine z0v.f ?_
  |exact ⟨_,hF,LeX.a []⟩
  |exact RetX.oA hF
def zhu (r:Int):AV:=aI (r)
theorem zkq {n a0 a1 r}(hF:z9i n a0 a1=some r):Con E0 true 237 [aI (a0),.agg [aI (a1.fKind),aI (a1.fNum),.str (a1.fText)]] (zhu r):=by
 unfold z9i at hF
 refine Con.walk _ Tryz.func237 rfl (z08 Tryz.func237 rfl rfl) rfl (Or.inr rfl) ?_
 repeat' first
  |refine AW.step ?_;conv=>whnf
  |refine z0v.o hF (fun hF=>?_) (fun hF=>?_)
  |refine z0m.o hF zgp (fun a h=>zgf h) (fun a hF=>?_)
  |refine z0m.o hF zhv (fun a h=>zkr h) (fun a hF=>?_)
  |exact RetX.oA hF
def zng (r:z02):AV:=.agg [aI (r.fKind),aI (r.fNum),.str (r.fText)]
theorem zzb {n a0 a1 r}(hF:zeb n a0 a1=some r):Con E0 true 241 [aI (a0),.agg [aI (a1.fKind),aI (a1.fNum),.str (a1.fText)]] (zng r):=by
 unfold zeb at hF
 refine Con.walk _ Tryz.func241 rfl (z08 Tryz.func241 rfl rfl) rfl (Or.inr rfl) ?_
 repeat' first
  |refine AW.step ?_;conv=>whnf
  |refine z0v.o hF (fun hF=>?_) (fun hF=>?_)
  |exact RetX.oA hF
def zio (r:z02):AV:=.agg [aI (r.fKind),aI (r.fNum),.str (r.fText)]
theorem zt8 {n r}(hF:zc9 n=some r):Con E0 true 249 [] (zio r):=by
 unfold zc9 at hF
 refine Con.walk _ Tryz.func249 rfl (z08 Tryz.func249 rfl rfl) rfl (Or.inr rfl) ?_
 repeat' first
  |refine AW.step ?_;conv=>whnf
  |exact RetX.oA hF
def zyp (m0:z02)(m1:z02):List (Nat×Ent):=[(100000,.box 45 [aI (m0.fKind),aI (m0.fNum),.str (m0.fText)]),(100001,.box 45 [aI (m1.fKind),aI (m1.fNum),.str (m1.fText)])]
def zbu (r:z02×z02×z02):List (Nat×Ent):=[(2,.box 45 [aI (r.1.fKind),aI (r.1.fNum),.str (r.1.fText)]),(100000,.box 45 [aI (r.2.1.fKind),aI (r.2.1.fNum),.str (r.2.1.fText)]),(100001,.box 45 [aI (r.2.2.fKind),aI (r.2.2.fNum),.str (r.2.2.fText)])]
def zev (r:z02×z02×z02):AV:=.agg [aI (r.1.fKind),aI (r.1.fNum),.str (r.1.fText)]
def zxz (r:z02×z02×z02):AS:=⟨[(2,.ptr 2 0),(0,.ptr 100000 0),(1,.ptr 100001 0)],zbu r⟩
end Go.Proofs.YtjpknpjjcddnnaaGreat
