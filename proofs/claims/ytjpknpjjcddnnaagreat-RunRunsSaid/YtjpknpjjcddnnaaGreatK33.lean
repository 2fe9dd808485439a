/- What some functions compute, over plain values. Printed by a program of mine (gen_fun.lean). -/
import Derived.Test.YtjpknpjjcddnnaaGreatK32
set_option linter.unusedVariables false
set_option linter.unusedSimpArgs false
set_option maxRecDepth 100000
set_option maxHeartbeats 8000000
namespace Go.Proofs.YtjpknpjjcddnnaaGreat
open Go.RowKit
theorem zo2 {n x5 x23}:z5l E0 108 (z1b n x5 x23) (zph x5 x23):=AW.jT
def zhd (r:Bool):AV:=.bool (r)
theorem zr1 {n r}(hF:z7p n=some r):Con E0 true 8 [] (zhd r):=by
 unfold z7p at hF
 refine Con.walk _ Tryz.func8 rfl (z06 Tryz.func8 rfl rfl) rfl (Or.inr rfl) ?_
 repeat' first
  |refine zo1 hF (fun hF=>?_) (fun v hF=>?_);rotate_left;unfold z5y at hF
  |refine zo2 hF (fun hF=>?_) (fun v hF=>?_);rotate_left;unfold z1b at hF
  |refine AW.regO hF (fun hF=>?_)
  |refine AW.frzO hF 23000000 rfl (fun hF=>?_)
  |refine AW.frzO hF 23000001 rfl (fun hF=>?_)
  |refine AW.frzO hF 44000000 rfl (fun hF=>?_)
  |refine AW.frzO hF 44000001 rfl (fun hF=>?_)
  |refine AW.stepU [5,8,9,11] ?_;conv=>whnf
  |refine z0v.o hF (fun hF=>?_) (fun hF=>?_)
  |refine z0v.t ?_
  |refine z0m.o hF zdq (fun a h=>zfh h) (fun a hF=>?_)
  |refine z0m.o hF zfo (fun a h=>zme h) (fun a hF=>?_)
  |refine z0m.o hF zzr (fun a h=>zyf h) (fun a hF=>?_)
  |refine z0m.oM (zcq 22 hF) [] [(261002,23000000),(261003,23000001),(0,23000002)] _ _ z5j z7w [] (fun a h=>ConG.up (zcd h)) (z06 Tryz.func37 rfl rfl) rfl rfl rfl trivial (fun a=>⟨rfl,rfl,rfl,rfl,rfl,rfl,rfl,rfl⟩) (fun a hF=>?_)
  |refine NatX.o hF (fun m hF=>?_)
  |refine LtX.o hF (fun hF=>?_)
  |refine EltX.o z0d hF (fun x hF=>?_)
  |refine SetX.o z0c hF (fun x=>rfl) (fun x=>(by first|exact SubL.refl _|(repeat' first|exact SubL.nil|refine SubL.cons ?_ ?_|exact Sub.refl _|exact Sub.nil _|refine Sub.agg ?_))) (fun l hF=>?_)
  |refine z0m.o hF zs4 (fun a h=>zv3 h) (fun a hF=>?_)
  |refine z0m.oM (zcq 43 hF) [] [(261002,44000000),(261003,44000001),(0,44000002)] _ _ z5j z7w [] (fun a h=>ConG.up (zcd h)) (z06 Tryz.func37 rfl rfl) rfl rfl rfl trivial (fun a=>⟨rfl,rfl,rfl,rfl,rfl,rfl,rfl,rfl⟩) (fun a hF=>?_)
  |refine SetX.o z0d hF (fun x=>rfl) (fun x=>(by first|exact SubL.refl _|(repeat' first|exact SubL.nil|refine SubL.cons ?_ ?_|exact Sub.refl _|exact Sub.nil _|refine Sub.agg ?_))) (fun l hF=>?_)
  |refine z0m.o hF zi2 (fun a h=>ztg h) (fun a hF=>?_)
  |refine z0m.o hF zei (fun a h=>zg3 h) (fun a hF=>?_)
  |exact ⟨_,hF,LeX.a []⟩
  |exact ⟨_,hF,LeX.a []⟩
  |refine IdxX.o z0e hF (fun x hF=>?_)
  |refine And.intro ⟨by kernel_rfl,by kernel_rfl⟩ ?_
  |exact RetX.oA hF
def zrf (a1:(List z00))(a0:(List z00))(v1_0:Int):AS:=⟨[(0,.sl 3 (a0.map z0e)),(1,.sl 3 (a1.map z0e)),(5,aI (v1_0))],[]⟩
theorem zpx {n a1 a0 k1_0_0}:z2d E0 27 (z6f n a1 a0 k1_0_0) (zrf a1 a0):=LoopA.oT fun _=>rfl
def zht (r:Bool):AV:=.bool (r)
theorem zt6 {n a0 a1 r}(hF:z9d n a0 a1=some r):Con E0 true 12 [.sl 3 (a0.map z0e),.sl 3 (a1.map z0e)] (zht r):=by
 unfold z9d at hF
 refine Con.walk _ Tryz.func12 rfl (z06 Tryz.func12 rfl rfl) rfl (Or.inr rfl) ?_
 repeat' first
  |refine AW.step ?_;conv=>whnf
  |refine z0v.o hF (fun hF=>?_) (fun hF=>?_)
  |refine IdxX.o z0e hF (fun x hF=>?_)
  |refine z0m.o hF zct (fun a h=>zen h) (fun a hF=>?_)
  |exact ⟨_,hF,LeX.a []⟩
  |refine zpx hF (LeX.a []) (fun m v hF=>?_);unfold z6f at hF
  |refine And.intro ⟨by kernel_rfl,by kernel_rfl⟩ ?_
  |exact RetX.oA hF
def zu3 (w1_0:Bool):AS:=⟨[(2,.bool (w1_0))],[]⟩
theorem zsv {n}:z5l E0 11 (z5e n) zu3:=AW.jT
def zex (r:Bool):AV:=.bool (r)
theorem zgx {n a0 r}(hF:z7g n a0=some r):Con E0 true 65 [.agg [aI (a0.fOp),.sl 8 (a0.fArgs.map idA),aI (a0.fVar),aI (a0.fField),aI (a0.fKind),aI (a0.fValue.fKind),aI (a0.fValue.fNum),.str (a0.fValue.fText)]] (zex r):=by
 unfold z7g at hF
 refine Con.walk _ Tryz.func65 rfl (z06 Tryz.func65 rfl rfl) rfl (Or.inr rfl) ?_
 repeat' first
  |refine zsv hF (fun hF=>?_) (fun v hF=>?_);rotate_left;unfold z5e at hF
  |refine AW.regO hF (fun hF=>?_)
  |refine AW.stepU [1] ?_;conv=>whnf
  |refine z0v.o hF (fun hF=>?_) (fun hF=>?_)
  |refine z0m.o hF zax (fun a h=>zfd h) (fun a hF=>?_)
  |refine z0m.o hF zaw (fun a h=>zfc h) (fun a hF=>?_)
  |exact ⟨_,hF,LeX.a []⟩
  |exact RetX.oA hF
def ztv (a0:(List z0o))(v1_0:Int):AS:=⟨[(0,.sl 11 (a0.map z0r)),(3,aI (v1_0))],[]⟩
theorem zsn {n a0 k1_0_0}:z2d E0 17 (z6z n a0 k1_0_0) (ztv a0):=LoopA.oT fun _=>rfl
def zjn (r:Bool):AV:=.bool (r)
theorem zux {n a0 r}(hF:za7 n a0=some r):Con E0 true 64 [.sl 11 (a0.map z0r)] (zjn r):=by
 unfold za7 at hF
 refine Con.walk _ Tryz.func64 rfl (z06 Tryz.func64 rfl rfl) rfl (Or.inr rfl) ?_
 repeat' first
  |refine AW.step ?_;conv=>whnf
  |refine z0v.o hF (fun hF=>?_) (fun hF=>?_)
  |refine IdxX.o z0r hF (fun x hF=>?_)
  |refine z0m.o hF zex (fun a h=>zgx h) (fun a hF=>?_)
  |exact ⟨_,hF,LeX.a []⟩
  |refine zsn hF (LeX.a []) (fun m v hF=>?_);unfold z6z at hF
  |exact RetX.oA hF
def ztz (w9_2:Bool):AS:=⟨[(2,.bool (w9_2))],[]⟩
theorem zsr {n}:z5l E0 130 (z5b n) ztz:=AW.jT
def ztw (a0:z05)(v2_1:Int)(x83:z0j)(v3_5:Int):AS:=⟨[(1,.ptr 1 0),(4,aI (v2_1)),(5,.ptr 5 0),(6,aI (v3_5))],[(1,.box 25 [aI (a0.fVars),aI (a0.fScopes),.sl 1 (a0.fStates.map z0c),.sl 17 (a0.fEdges.map z0d)]),(5,.box 51 [aI (x83.fFrom),aI (x83.fTo),aI (x83.fVar),aI (x83.fType),aI (x83.fCond.fOp),.sl 8 (x83.fCond.fArgs.map idA),aI (x83.fCond.fVar),aI (x83.fCond.fField),aI (x83.fCond.fKind),aI (x83.fCond.fValue.fKind),aI (x83.fCond.fValue.fNum),.str (x83.fCond.fValue.fText),.sl 1 (x83.fOpens.map aI),.sl 1 (x83.fCloses.map aI),.sl 8 (x83.fChecks.map idA),.sl 2 (x83.fLimits.map z0p),.sl 1 (x83.fInside.map aI)])]⟩
theorem zso {n a0 v2_1 x83 k3_5_0}:z2d E0 130 (z71 n a0 v2_1 x83 k3_5_0) (ztw a0 v2_1 x83):=LoopA.oT fun _=>rfl
def zrl (a0:z05)(v2_1:Int)(cv2_1:Int->Option (Bool))(x83:z0j)(w11_4:Bool):AS:=⟨[(1,.ptr 1 0),(4,aI (v2_1)),(5,.ptr 5 0),(105,.bool (w11_4))],[(1,.box 25 [aI (a0.fVars),aI (a0.fScopes),.sl 1 (a0.fStates.map z0c),.sl 17 (a0.fEdges.map z0d)]),(5,.box 51 [aI (x83.fFrom),aI (x83.fTo),aI (x83.fVar),aI (x83.fType),aI (x83.fCond.fOp),.sl 8 (x83.fCond.fArgs.map idA),aI (x83.fCond.fVar),aI (x83.fCond.fField),aI (x83.fCond.fKind),aI (x83.fCond.fValue.fKind),aI (x83.fCond.fValue.fNum),.str (x83.fCond.fValue.fText),.sl 1 (x83.fOpens.map aI),.sl 1 (x83.fCloses.map aI),.sl 8 (x83.fChecks.map idA),.sl 2 (x83.fLimits.map z0p),.sl 1 (x83.fInside.map aI)])]⟩
theorem zq3 {n a0 v2_1 cv2_1 x83}:z5l E0 130 (z1f n a0 v2_1 cv2_1 x83) (zrl a0 v2_1 cv2_1 x83):=AW.jT
def zrm (a0:z05)(v2_1:Int)(k2_1_0:Option (Bool))(cv2_1:Int->Option (Bool))(w10_3:Bool):AS:=⟨[(1,.ptr 1 0),(4,aI (v2_1)),(64,.bool (w10_3))],[(1,.box 25 [aI (a0.fVars),aI (a0.fScopes),.sl 1 (a0.fStates.map z0c),.sl 17 (a0.fEdges.map z0d)])]⟩
theorem zq4 {n a0 v2_1 k2_1_0 cv2_1}:z5l E0 130 (z4h n a0 v2_1 k2_1_0 cv2_1) (zrm a0 v2_1 k2_1_0 cv2_1):=AW.jT
def ztx (a0:z05)(v2_1:Int):AS:=⟨[(1,.ptr 1 0),(4,aI (v2_1))],[(1,.box 25 [aI (a0.fVars),aI (a0.fScopes),.sl 1 (a0.fStates.map z0c),.sl 17 (a0.fEdges.map z0d)])]⟩
theorem zsp {n a0 k2_1_0}:z2d E0 130 (z3e n a0 k2_1_0) (ztx a0):=LoopA.oT fun _=>rfl
def zrj (a0:z05)(v1_0:Int)(cv1_0:Int->Option (Bool))(w13_7:Bool):AS:=⟨[(1,.ptr 1 0),(3,aI (v1_0)),(55,.bool (w13_7))],[(1,.box 25 [aI (a0.fVars),aI (a0.fScopes),.sl 1 (a0.fStates.map z0c),.sl 17 (a0.fEdges.map z0d)])]⟩
theorem zq1 {n a0 v1_0 cv1_0}:z5l E0 130 (z1n n a0 v1_0 cv1_0) (zrj a0 v1_0 cv1_0):=AW.jT
def zrk (a0:z05)(v1_0:Int)(k1_0_0:Option (Bool))(cv1_0:Int->Option (Bool))(w12_6:Bool):AS:=⟨[(1,.ptr 1 0),(3,aI (v1_0)),(15,.bool (w12_6))],[(1,.box 25 [aI (a0.fVars),aI (a0.fScopes),.sl 1 (a0.fStates.map z0c),.sl 17 (a0.fEdges.map z0d)])]⟩
theorem zq2 {n a0 v1_0 k1_0_0 cv1_0}:z5l E0 130 (z4g n a0 v1_0 k1_0_0 cv1_0) (zrk a0 v1_0 k1_0_0 cv1_0):=AW.jT
def zty (a0:z05)(v1_0:Int):AS:=⟨[(1,.ptr 1 0),(3,aI (v1_0))],[(1,.box 25 [aI (a0.fVars),aI (a0.fScopes),.sl 1 (a0.fStates.map z0c),.sl 17 (a0.fEdges.map z0d)])]⟩
theorem zsq {n a0 k1_0_0}:z2d E0 130 (z3f n a0 k1_0_0) (zty a0):=LoopA.oT fun _=>rfl
def zjo (r:Bool):AV:=.bool (r)
theorem zuy {n a0 r}(hF:za8 n a0=some r):Con E0 true 32 [.agg [aI (a0.fVars),aI (a0.fScopes),.sl 1 (a0.fStates.map z0c),.sl 17 (a0.fEdges.map z0d)]] (zjo r):=by
 unfold za8 at hF
 refine Con.walk _ Tryz.func32 rfl (z06 Tryz.func32 rfl rfl) rfl (Or.inr rfl) ?_
 repeat' first
  |refine zsr hF (fun hF=>?_) (fun v hF=>?_);rotate_left;unfold z5b at hF
  |refine zq3 hF (fun hF=>?_) (fun v hF=>?_);rotate_left;unfold z1f at hF
  |refine zq4 hF (fun hF=>?_) (fun v hF=>?_);rotate_left;unfold z4h at hF
  |refine zq1 hF (fun hF=>?_) (fun v hF=>?_);rotate_left;unfold z1n at hF
  |refine zq2 hF (fun hF=>?_) (fun v hF=>?_);rotate_left;unfold z4g at hF
  |refine AW.regO hF (fun hF=>?_)
  |refine AW.stepU [2,4,7,10,17] ?_;conv=>whnf
  |refine z0v.o hF (fun hF=>?_) (fun hF=>?_)
  |refine z0v.t ?_
  |refine z0v.f ?_
  |exact ⟨_,hF,LeX.a []⟩
  |refine IdxX.o z0d hF (fun x hF=>?_)
  |exact ⟨_,hF,LeX.a []⟩
  |refine IdxX.oD hF z6b (fun x hF=>?_)
  |refine z0m.o hF zex (fun a h=>zgx h) (fun a hF=>?_)
  |exact ⟨_,hF,LeX.a []⟩
  |refine zso hF (LeX.a []) (fun m v hF=>?_);unfold z71 at hF
  |exact ⟨_,hF,LeX.a []⟩
  |refine zsp hF (LeX.a []) (fun m v hF=>?_);unfold z3e at hF
  |refine IdxX.o z0c hF (fun x hF=>?_)
  |refine z0m.o hF zjn (fun a h=>zux h) (fun a hF=>?_)
  |refine zsq hF (LeX.a []) (fun m v hF=>?_);unfold z3f at hF
  |exact RetX.oA hF
def zu6 (a0:(List z02))(v1_0:Int):AS:=⟨[(0,.sl 3 (a0.map z07)),(3,aI (v1_0))],[]⟩
theorem zsy {n a0 k1_0_0}:z2d E0 24 (z74 n a0 k1_0_0) (zu6 a0):=LoopA.oT fun _=>rfl
def zjr (r:Bool):AV:=.bool (r)
theorem zv1 {n a0 r}(hF:zab n a0=some r):Con E0 true 66 [.sl 3 (a0.map z07)] (zjr r):=by
 unfold zab at hF
 refine Con.walk _ Tryz.func66 rfl (z06 Tryz.func66 rfl rfl) rfl (Or.inr rfl) ?_
 repeat' first
  |refine AW.step ?_;conv=>whnf
  |refine z0v.o hF (fun hF=>?_) (fun hF=>?_)
  |refine z0v.f ?_
  |refine IdxX.o z07 hF (fun x hF=>?_)
  |exact ⟨_,hF,LeX.a []⟩
  |refine zsy hF (LeX.a []) (fun m v hF=>?_);unfold z74 at hF
  |exact RetX.oA hF
def zu5 (a0:(List z01))(v1_0:Int):AS:=⟨[(0,.sl 5 (a0.map z04)),(3,aI (v1_0))],[]⟩
theorem zsx {n a0 k1_0_0}:z2d E0 33 (z73 n a0 k1_0_0) (zu5 a0):=LoopA.oT fun _=>rfl
def zjq (r:Bool):AV:=.bool (r)
theorem zv0 {n a0 r}(hF:zaa n a0=some r):Con E0 true 33 [.sl 5 (a0.map z04)] (zjq r):=by
 unfold zaa at hF
 refine Con.walk _ Tryz.func33 rfl (z06 Tryz.func33 rfl rfl) rfl (Or.inr rfl) ?_
 repeat' first
  |refine AW.step ?_;conv=>whnf
  |refine z0v.o hF (fun hF=>?_) (fun hF=>?_)
  |refine z0v.t ?_
  |refine z0v.f ?_
  |refine IdxX.o z04 hF (fun x hF=>?_)
  |refine z0m.o hF zjr (fun a h=>zv1 h) (fun a hF=>?_)
  |exact ⟨_,hF,LeX.a []⟩
  |refine zsx hF (LeX.a []) (fun m v hF=>?_);unfold z73 at hF
  |exact RetX.oA hF
def zg9 (r:Bool):AV:=.bool (r)
theorem zof {n a0 r}(hF:z8g n a0=some r):Con E0 true 48 [.agg [aI (a0.fSource),aI (a0.fSeq),aI (a0.fType),aI (a0.fTime),.sl 3 (a0.fValues.map z07)]] (zg9 r):=by
 unfold z8g at hF
 refine Con.walk _ Tryz.func48 rfl (z06 Tryz.func48 rfl rfl) rfl (Or.inr rfl) ?_
 repeat' first
  |refine AW.step ?_;conv=>whnf
  |refine z0v.o hF (fun hF=>?_) (fun hF=>?_)
  |refine z0v.f ?_
  |exact RetX.oA hF
def zi1 (r:Bool):AV:=.bool (r)
theorem ztf {n a0 a1 r}(hF:z87 n a0 a1=some r):Con E0 true 51 [.agg [aI (a0.fSource),aI (a0.fSeq),aI (a0.fType),aI (a0.fTime),.sl 3 (a0.fValues.map z07)],.agg [aI (a1.fSource),aI (a1.fSeq),aI (a1.fType),aI (a1.fTime),.sl 3 (a1.fValues.map z07)]] (zi1 r):=by
 unfold z87 at hF
 refine Con.walk _ Tryz.func51 rfl (z06 Tryz.func51 rfl rfl) rfl (Or.inr rfl) ?_
 repeat' first
  |refine AW.step ?_;conv=>whnf
  |refine z0v.o hF (fun hF=>?_) (fun hF=>?_)
  |exact RetX.oA hF
def zpe (a0:(List z01))(v1_0:Int)(v2_1:Int):AS:=⟨[(0,.sl 5 (a0.map z04)),(3,aI (v1_0)),(4,aI (v2_1))],[]⟩
theorem znz {n a0 v1_0 k2_1_0}:z2d E0 51 (z5x n a0 v1_0 k2_1_0) (zpe a0 v1_0):=LoopA.oT fun _=>rfl
def zpd (a0:(List z01))(v1_0:Int)(v3_2:Int):AS:=⟨[(0,.sl 5 (a0.map z04)),(3,aI (v1_0)),(4,aI (v3_2))],[]⟩
theorem zny {n a0 v1_0 k3_2_0}:z2d E0 51 (z5w n a0 v1_0 k3_2_0) (zpd a0 v1_0):=LoopA.oT fun _=>rfl
def zpf (a0:(List z01))(v1_0:Int):AS:=⟨[(0,.sl 5 (a0.map z04)),(3,aI (v1_0))],[]⟩
end Go.Proofs.YtjpknpjjcddnnaaGreat
namespace Go.Proofs.YtjpknpjjcddnnaaGreat
open Go.RowKit
theorem zo0 {n a0 k1_0_0}:z2d E0 51 (z1u n a0 k1_0_0) (zpf a0):=LoopA.oT fun _=>rfl
def zhc (r:Int):AV:=aI (r)
theorem zr0 {n a0 r}(hF:z91 n a0=some r):Con E0 true 15 [.sl 5 (a0.map z04)] (zhc r):=by
 unfold z91 at hF
 refine Con.walk _ Tryz.func15 rfl (z06 Tryz.func15 rfl rfl) rfl (Or.inr rfl) ?_
 repeat' first
  |refine AW.step ?_;conv=>whnf
  |refine z0v.o hF (fun hF=>?_) (fun hF=>?_)
  |refine z0v.f ?_
  |refine IdxX.o z04 hF (fun x hF=>?_)
  |refine z0m.o hF zg9 (fun a h=>zof h) (fun a hF=>?_)
  |refine z0m.o hF za2 (fun a h=>zas h) (fun a hF=>?_)
  |refine z0m.o hF zdp (fun a h=>zfg h) (fun a hF=>?_)
  |exact ⟨_,hF,LeX.a []⟩
  |refine z0m.o hF zi1 (fun a h=>ztf h) (fun a hF=>?_)
  |exact ⟨_,hF,LeX.a []⟩
  |refine znz hF (LeX.a []) (fun m v hF=>?_);unfold z5x at hF
  |refine zny hF (LeX.a []) (fun m v hF=>?_);unfold z5w at hF
  |refine zo0 hF (LeX.a []) (fun m v hF=>?_);unfold z1u at hF
  |refine And.intro ⟨by kernel_rfl,by kernel_rfl⟩ ?_
  |exact RetX.oA hF
def zeh (r:Int):AV:=aI (r)
theorem zg2 {n a0 a1 r}(hF:z3j n a0 a1=some r):Con E0 true 34 [.agg [aI (a0.fVars),aI (a0.fScopes),.sl 1 (a0.fStates.map z0c),.sl 17 (a0.fEdges.map z0d)],.sl 5 (a1.map z04)] (zeh r):=by
 unfold z3j at hF
 refine Con.walk _ Tryz.func34 rfl (z06 Tryz.func34 rfl rfl) rfl (Or.inr rfl) ?_
 repeat' first
  |refine AW.step ?_;conv=>whnf
  |refine z0v.o hF (fun hF=>?_) (fun hF=>?_)
  |refine z0m.o hF zh6 (fun a h=>zqt h) (fun a hF=>?_)
  |refine z0m.o hF zhc (fun a h=>zr0 h) (fun a hF=>?_)
  |exact RetX.oA hF
def zh4 (r:z00):AV:=.agg [aI (r.fState),.sl 4 (r.fBindings.map z0a),.sl 2 (r.fStarts.map z08)]
theorem zqr {n r}(hF:zb6 n=some r):Con E0 false 67 [] (zh4 r):=by
 unfold zb6 at hF
 refine Con.walk _ Tryz.func67 rfl (z06 Tryz.func67 rfl rfl) rfl (Or.inl rfl) ?_
 repeat' first
  |refine AW.step ?_;conv=>whnf
  |exact RetX.oA hF
def zox (a1:z1h)(a0:(List z01))(v1_0:Int):AS:=⟨[(0,.sl 5 (a0.map z04)),(3,.ptr 3 0),(4,.ptr 4 0),(6,aI (v1_0))],[(3,.box 108 [aI (a1.fTime),aI (a1.fSource),aI (a1.fSeq)]),(4,.box 66 [aI (0),aI (0),aI (0),aI (0),.nils])]⟩
theorem zni {n a1 a0 k1_0_0}:z2d E0 25 (z5t n a1 a0 k1_0_0) (zox a1 a0):=LoopA.oT fun _=>rfl
def zh8 (r:z01×Bool):AV:=.tup [.agg [aI (r.1.fSource),aI (r.1.fSeq),aI (r.1.fType),aI (r.1.fTime),.sl 3 (r.1.fValues.map z07)],.bool (r.2)]
theorem zqv {n a0 a1 r}(hF:z8z n a0 a1=some r):Con E0 false 205 [.sl 5 (a0.map z04),.agg [aI (a1.fTime),aI (a1.fSource),aI (a1.fSeq)]] (zh8 r):=by
 unfold z8z at hF
 refine Con.walk _ Tryz.func205 rfl (z06 Tryz.func205 rfl rfl) rfl (Or.inl rfl) ?_
 repeat' first
  |refine AW.step ?_;conv=>whnf
  |refine z0v.o hF (fun hF=>?_) (fun hF=>?_)
  |refine IdxX.o z04 hF (fun x hF=>?_)
  |refine z0m.o hF za2 (fun a h=>zas h) (fun a hF=>?_)
  |exact ⟨_,hF,LeX.a []⟩
  |refine zni hF (LeX.a []) (fun m v hF=>?_);unfold z5t at hF
  |refine And.intro ⟨by kernel_rfl,by kernel_rfl⟩ ?_
  |refine EqX.mk (by first|rfl|kernel_rfl) ?_
  |exact RetX.oA hF
def zoy (a2:(List z0u))(a1:Int)(a0:(List z01))(x1:Nat)(v1_0:Int×(List (List z01))):AS:=⟨[(0,.sl 5 (a0.map z04)),(1,aI (a1)),(2,.sl 4 (a2.map z0a)),(6,.ptr 6 0),(7,.ptr 7 0),(8,aI (v1_0.1))],[(6,.box 167 [.nils]),(7,.box 167 [.cont (x1) 13]),(13,.nest 26 (List.map (enR z04 66 5) (v1_0.2)))]⟩
theorem znj {n a2 a1 a0 x1 k1_0_0}:z2d E0 59 (z1j n a2 a1 a0 x1 k1_0_0) (zoy a2 a1 a0 x1):=LoopA.oT fun _=>rfl
def zh9 (r:z0h):AV:=.agg [.sl 1 (List.map (fun q=>AV.sl 5 (List.map z04 q)) (r.fVars))]
theorem zqw {n a0 a1 a2 r}(hF:zb7 n a0 a1 a2=some r):Con E0 false 193 [.sl 5 (a0.map z04),aI (a1),.sl 4 (a2.map z0a)] (zh9 r):=by
 unfold zb7 at hF
 refine Con.walk _ Tryz.func193 rfl (z06 Tryz.func193 rfl rfl) rfl (Or.inl rfl) ?_
 repeat' first
  |refine AW.nstO (er:=z04) 66 5 hF 13 rfl (fun hF=>?_)
  |refine AW.frrO (ety:=66) (sz:=5) z04 hF 13 rfl (fun hF=>?_)
  |refine AW.regO hF (fun hF=>?_)
  |refine AW.stepU [9,7,2] ?_;conv=>whnf
  |refine z0v.o hF (fun hF=>?_) (fun hF=>?_)
  |refine z0v.f ?_
  |refine MakX.on hF (fun m hF=>?_)
  |refine IdxX.o z0a hF (fun x hF=>?_)
  |refine z0m.o hF zh8 (fun a h=>zqv h) (fun a hF=>?_)
  |refine OpX.ixc hF rfl rfl rfl rfl rfl rfl rfl rfl (fun hF=>?_)
  |refine OpX.ntk z04 hF rfl rfl rfl rfl rfl rfl rfl rfl rfl rfl (fun q hF=>?_)
  |refine AppX.o z04 hF (by first|exact SubR.refl _|(repeat' first|exact SubR.nil|refine SubR.cons ?_ ?_|exact SubL.nil|refine SubL.cons ?_ ?_|exact Sub.refl _|exact Sub.nil _)) (fun l hF=>?_)
  |refine OpX.npt z04 hF rfl rfl rfl rfl rfl rfl rfl rfl rfl rfl rfl (fun l hF=>?_)
  |exact ⟨_,hF,LeX.a []⟩
  |refine znj hF (LeX.a []) (fun m v hF=>?_);unfold z1j at hF
  |refine And.intro ⟨by kernel_rfl,by kernel_rfl⟩ ?_
  |refine EqX.mk (by first|rfl|kernel_rfl) ?_
  |exact RetX.oA hF
def zcs (r:z0h):AV:=.agg [.sl 1 (List.map (fun q=>AV.sl 5 (List.map z04 q)) (r.fVars))]
theorem zdk {n a0 a1 r}(hF:z7e n a0 a1=some r):Con E0 false 161 [.sl 5 (a0.map z04),.agg [aI (a1.fState),.sl 4 (a1.fBindings.map z0a),.sl 2 (a1.fStarts.map z08)]] (zcs r):=by
 unfold z7e at hF
 refine Con.walk _ Tryz.func161 rfl (z06 Tryz.func161 rfl rfl) rfl (Or.inl rfl) ?_
 repeat' first
  |refine AW.step ?_;conv=>whnf
  |refine z0m.o hF zh9 (fun a h=>zqw h) (fun a hF=>?_)
  |exact RetX.oA hF
def zjc (w1_0:Bool):AS:=⟨[(6,.bool (w1_0))],[]⟩
theorem zim {n}:z5l E0 21 (z2e n) zjc:=AW.jT
def zc0 (r:Bool):AV:=.bool (r)
theorem zec {n a0 a1 a2 r}(hF:z5o n a0 a1 a2=some r):Con E0 true 162 [.agg [aI (a0.fScope),aI (a0.fType),aI (a0.fVar),aI (a0.fCond.fOp),.sl 8 (a0.fCond.fArgs.map idA),aI (a0.fCond.fVar),aI (a0.fCond.fField),aI (a0.fCond.fKind),aI (a0.fCond.fValue.fKind),aI (a0.fCond.fValue.fNum),.str (a0.fCond.fValue.fText)],.agg [.sl 1 (List.map (fun q=>AV.sl 5 (List.map z04 q)) (a1.fVars))],.agg [aI (a2.fSource),aI (a2.fSeq),aI (a2.fType),aI (a2.fTime),.sl 3 (a2.fValues.map z07)]] (zc0 r):=by
 unfold z5o at hF
 refine Con.walk _ Tryz.func162 rfl (z06 Tryz.func162 rfl rfl) rfl (Or.inr rfl) ?_
 repeat' first
  |refine zim hF (fun hF=>?_) (fun v hF=>?_);rotate_left;unfold z2e at hF
  |refine AW.regO hF (fun hF=>?_)
  |refine AW.stepU [1] ?_;conv=>whnf
  |refine z0v.o hF (fun hF=>?_) (fun hF=>?_)
  |refine z0m.o hF zav (fun a h=>zcl h) (fun a hF=>?_)
  |exact ⟨_,hF,LeX.a []⟩
  |exact RetX.oA hF
def zop (a3:z01)(x1:z0h)(x2:za1)(v1_0:Int):AS:=⟨[(7,.ptr 7 0),(9,.ptr 9 0),(10,.sl 11 (x2.fGuards.map z0r)),(11,aI (v1_0))],[(7,.box 66 [aI (a3.fSource),aI (a3.fSeq),aI (a3.fType),aI (a3.fTime),.sl 3 (a3.fValues.map z07)]),(9,.box 167 [.sl 1 (List.map (fun q=>AV.sl 5 (List.map z04 q)) (x1.fVars))])]⟩
theorem zna {n a3 x1 x2 k1_0_0}:z2d E0 35 (z5p n a3 x1 x2 k1_0_0) (zop a3 x1 x2):=LoopA.oT fun _=>rfl
def zh3 (r:Bool):AV:=.bool (r)
theorem zqq {n a0 a1 a2 a3 r}(hF:z8x n a0 a1 a2 a3=some r):Con E0 true 120 [.agg [aI (a0.fVars),aI (a0.fScopes),.sl 1 (a0.fStates.map z0c),.sl 17 (a0.fEdges.map z0d)],.sl 5 (a1.map z04),.agg [aI (a2.fState),.sl 4 (a2.fBindings.map z0a),.sl 2 (a2.fStarts.map z08)],.agg [aI (a3.fSource),aI (a3.fSeq),aI (a3.fType),aI (a3.fTime),.sl 3 (a3.fValues.map z07)]] (zh3 r):=by
 unfold z8x at hF
 refine Con.walk _ Tryz.func120 rfl (z06 Tryz.func120 rfl rfl) rfl (Or.inr rfl) ?_
 repeat' first
  |refine AW.step ?_;conv=>whnf
  |refine z0v.o hF (fun hF=>?_) (fun hF=>?_)
  |refine z0m.o hF zcs (fun a h=>zdk h) (fun a hF=>?_)
  |refine IdxX.o z0c hF (fun x hF=>?_)
  |refine IdxX.o z0r hF (fun x hF=>?_)
  |refine z0m.o hF zc0 (fun a h=>zec h) (fun a hF=>?_)
  |exact ⟨_,hF,LeX.a []⟩
  |refine zna hF (LeX.a []) (fun m v hF=>?_);unfold z5p at hF
  |refine And.intro ⟨by kernel_rfl,by kernel_rfl⟩ ?_
  |exact RetX.oA hF
def zri (a1:Int)(a0:z05)(v1_0:Int×(List z0j)):AS:=⟨[(1,aI (a1)),(2,.ptr 2 0),(5,.row 7029),(6,aI (v1_0.1))],[(2,.box 25 [aI (a0.fVars),aI (a0.fScopes),.sl 1 (a0.fStates.map z0c),.sl 17 (a0.fEdges.map z0d)]),(7029,.row 51 17 (v1_0.2.map z0d))]⟩
theorem zq0 {n a1 a0 k1_0_0}:z2d E0 31 (z4f n a1 a0 k1_0_0) (zri a1 a0):=LoopA.oT fun _=>rfl
def zhv (r:(List z0j)):AV:=.sl 17 (r.map z0d)
theorem zt8 {n a0 a1 r}(hF:z9f n a0 a1=some r):Con E0 false 121 [.agg [aI (a0.fVars),aI (a0.fScopes),.sl 1 (a0.fStates.map z0c),.sl 17 (a0.fEdges.map z0d)],aI (a1)] (zhv r):=by
 unfold z9f at hF
 refine Con.walk _ Tryz.func121 rfl (z06 Tryz.func121 rfl rfl) rfl (Or.inl rfl) ?_
 repeat' first
  |refine AW.regO hF (fun hF=>?_)
  |refine AW.stepU [5] ?_;conv=>whnf
  |refine z0v.o hF (fun hF=>?_) (fun hF=>?_)
  |refine IdxX.o z0d hF (fun x hF=>?_)
  |refine AppX.o z0d hF (by first|exact SubR.refl _|(repeat' first|exact SubR.nil|refine SubR.cons ?_ ?_|exact SubL.nil|refine SubL.cons ?_ ?_|exact Sub.refl _|exact Sub.nil _)) (fun l hF=>?_)
  |exact ⟨_,hF,LeX.a [(7029,29)]⟩
  |exact ⟨_,hF,LeX.a []⟩
  |refine zq0 hF (LeX.trans (LeX.adopt 5 7029 51 17 rfl rfl) (LeX.a [])) (fun m v hF=>?_);unfold z4f at hF
  |exact RetX.oA hF
def ztl (a1:Int)(a0:(List Int))(v1_0:Int):AS:=⟨[(0,.sl 1 (a0.map aI)),(1,aI (a1)),(5,aI (v1_0))],[]⟩
theorem zsd {n a1 a0 k1_0_0}:z2d E0 18 (z6s n a1 a0 k1_0_0) (ztl a1 a0):=LoopA.oT fun _=>rfl
def zjj (r:Bool):AV:=.bool (r)
theorem zut {n a0 a1 r}(hF:za4 n a0 a1=some r):Con E0 true 163 [.sl 1 (a0.map aI),aI (a1)] (zjj r):=by
 unfold za4 at hF
 refine Con.walk _ Tryz.func163 rfl (z06 Tryz.func163 rfl rfl) rfl (Or.inr rfl) ?_
 repeat' first
  |refine AW.step ?_;conv=>whnf
  |refine z0v.o hF (fun hF=>?_) (fun hF=>?_)
  |refine IdxX.o aI hF (fun x hF=>?_)
  |exact ⟨_,hF,LeX.a []⟩
  |refine zsd hF (LeX.a []) (fun m v hF=>?_);unfold z6s at hF
  |exact RetX.oA hF
def zmr (a1:Int)(a0:(List z0b))(v1_0:Int×(List z0b)):AS:=⟨[(0,.sl 2 (a0.map z08)),(1,aI (a1)),(5,.row 7026),(6,aI (v1_0.1))],[(7026,.row 120 2 (v1_0.2.map z08))]⟩
theorem zlv {n a1 a0 k1_0_0}:z2d E0 28 (z30 n a1 a0 k1_0_0) (zmr a1 a0):=LoopA.oT fun _=>rfl
def zd9 (r:(List z0b)):AV:=.sl 2 (r.map z08)
theorem zf0 {n a0 a1 r}(hF:z6t n a0 a1=some r):Con E0 false 167 [.sl 2 (a0.map z08),aI (a1)] (zd9 r):=by
 unfold z6t at hF
 refine Con.walk _ Tryz.func167 rfl (z06 Tryz.func167 rfl rfl) rfl (Or.inl rfl) ?_
 repeat' first
  |refine AW.regO hF (fun hF=>?_)
  |refine AW.stepU [5] ?_;conv=>whnf
  |refine z0v.o hF (fun hF=>?_) (fun hF=>?_)
  |refine IdxX.o z08 hF (fun x hF=>?_)
  |refine AppX.o z08 hF (by first|exact SubR.refl _|(repeat' first|exact SubR.nil|refine SubR.cons ?_ ?_|exact SubL.nil|refine SubL.cons ?_ ?_|exact Sub.refl _|exact Sub.nil _)) (fun l hF=>?_)
  |exact ⟨_,hF,LeX.a [(7026,26)]⟩
  |exact ⟨_,hF,LeX.a []⟩
  |refine zlv hF (LeX.trans (LeX.adopt 5 7026 120 2 rfl rfl) (LeX.a [])) (fun m v hF=>?_);unfold z30 at hF
  |exact RetX.oA hF
def zmq (a2:Int)(a1:Int)(x1:(List z0b))(v1_0:Int×(List z0b))(k1_0_0:(List z0b)->Int->(List z0b)->Option ((List z0b)))(cv1_0:(Int×(List z0b))->Option ((List z0b)))(w3_1:Bool):AS:=⟨[(0,.sl 2 (x1.map z08)),(1,aI (a1)),(2,aI (a2)),(7,.row 7031),(8,aI (v1_0.1)),(24,.bool (w3_1))],[(7031,.row 120 2 (v1_0.2.map z08))]⟩
theorem zlu {n a2 a1 x1 v1_0 k1_0_0 cv1_0}:z5l E0 45 (z2z n a2 a1 x1 v1_0 k1_0_0 cv1_0) (zmq a2 a1 x1 v1_0 k1_0_0 cv1_0):=AW.jT
def zmp (a2:Int)(a1:Int)(x1:(List z0b))(v1_0:Int×(List z0b)):AS:=⟨[(0,.sl 2 (x1.map z08)),(1,aI (a1)),(2,aI (a2)),(7,.row 7031),(8,aI (v1_0.1))],[(7031,.row 120 2 (v1_0.2.map z08))]⟩
theorem zlt {n a2 a1 x1 k1_0_0}:z2d E0 45 (z26 n a2 a1 x1 k1_0_0) (zmp a2 a1 x1):=LoopA.oT fun _=>rfl
def zg5 (r:(List z0b)):AV:=.sl 2 (r.map z08)
theorem zob {n a0 a1 a2 r}(hF:z8e n a0 a1 a2=some r):Con E0 false 165 [.sl 2 (a0.map z08),aI (a1),aI (a2)] (zg5 r):=by
 unfold z8e at hF
 refine Con.walk _ Tryz.func165 rfl (z06 Tryz.func165 rfl rfl) rfl (Or.inl rfl) ?_
 repeat' first
  |refine zlu hF (fun hF=>?_) (fun v hF=>?_);rotate_left;unfold z2z at hF
  |refine AW.regO hF (fun hF=>?_)
  |refine AW.stepU [4] ?_;conv=>whnf
  |refine z0v.o hF (fun hF=>?_) (fun hF=>?_)
  |refine z0m.o hF zd9 (fun a h=>zf0 h) (fun a hF=>?_)
  |refine AppX.o z08 hF (by first|exact SubR.refl _|(repeat' first|exact SubR.nil|refine SubR.cons ?_ ?_|exact SubL.nil|refine SubL.cons ?_ ?_|exact Sub.refl _|exact Sub.nil _)) (fun l hF=>?_)
  |refine SlsX.o z08 hF (fun l hF=>?_)
  |refine IdxX.o z08 hF (fun x hF=>?_)
  |exact ⟨_,hF,LeX.a [(7031,31)]⟩
  |exact ⟨_,hF,LeX.a []⟩
  |refine zlt hF (LeX.trans (LeX.adopt 7 7031 120 2 rfl rfl) (LeX.a [])) (fun m v hF=>?_);unfold z26 at hF
  |exact RetX.oA hF
def zre (a2:Int)(a1:z0y)(a0:(List z0b))(v1_0:Int):AS:=⟨[(0,.sl 2 (a0.map z08)),(2,aI (a2)),(4,.ptr 4 0),(7,aI (v1_0))],[(4,.box 92 [aI (a1.fScope),aI (a1.fSpan)])]⟩
theorem zpw {n a2 a1 a0 k1_0_0}:z2d E0 32 (z6e n a2 a1 a0 k1_0_0) (zre a2 a1 a0):=LoopA.oT fun _=>rfl
def zhs (r:Bool):AV:=.bool (r)
theorem zt5 {n a0 a1 a2 r}(hF:z9c n a0 a1 a2=some r):Con E0 true 166 [.sl 2 (a0.map z08),.agg [aI (a1.fScope),aI (a1.fSpan)],aI (a2)] (zhs r):=by
 unfold z9c at hF
 refine Con.walk _ Tryz.func166 rfl (z06 Tryz.func166 rfl rfl) rfl (Or.inr rfl) ?_
 repeat' first
  |refine AW.step ?_;conv=>whnf
  |refine z0v.o hF (fun hF=>?_) (fun hF=>?_)
  |refine IdxX.o z08 hF (fun x hF=>?_)
  |exact ⟨_,hF,LeX.a []⟩
  |refine zpw hF (LeX.a []) (fun m v hF=>?_);unfold z6e at hF
  |refine And.intro ⟨by kernel_rfl,by kernel_rfl⟩ ?_
  |exact RetX.oA hF
def zku (a3:z0j)(k4_4_0y:(List z0u))(v5_5:Int×(List z0b)):AS:=⟨[(8,.ptr 8 0),(10,.ptr 10 0),(15,.ptr 15 0),(20,aI (v5_5.1))],[(8,.box 51 [aI (a3.fFrom),aI (a3.fTo),aI (a3.fVar),aI (a3.fType),aI (a3.fCond.fOp),.sl 8 (a3.fCond.fArgs.map idA),aI (a3.fCond.fVar),aI (a3.fCond.fField),aI (a3.fCond.fKind),aI (a3.fCond.fValue.fKind),aI (a3.fCond.fValue.fNum),.str (a3.fCond.fValue.fText),.sl 1 (a3.fOpens.map aI),.sl 1 (a3.fCloses.map aI),.sl 8 (a3.fChecks.map idA),.sl 2 (a3.fLimits.map z0p),.sl 1 (a3.fInside.map aI)]),(10,.box 77 [aI (0),.nils,.nils]),(15,.box 77 [aI (a3.fTo),.sl 4 (k4_4_0y.map z0a),.sl 2 (v5_5.2.map z08)])]⟩
theorem zk8 {n a3 k4_4_0y k5_5_0}:z2d E0b 167 (z42 n a3 k4_4_0y k5_5_0) (zku a3 k4_4_0y):=LoopA.oT fun _=>rfl
def zkv (a3:z0j)(k2_2_0y:(List z0b))(x130:(List z0u))(x133:z0h)(v4_4:Int):AS:=⟨[(8,.ptr 8 0),(10,.ptr 10 0),(15,.ptr 15 0),(18,.ptr 18 0),(19,aI (v4_4))],[(8,.box 51 [aI (a3.fFrom),aI (a3.fTo),aI (a3.fVar),aI (a3.fType),aI (a3.fCond.fOp),.sl 8 (a3.fCond.fArgs.map idA),aI (a3.fCond.fVar),aI (a3.fCond.fField),aI (a3.fCond.fKind),aI (a3.fCond.fValue.fKind),aI (a3.fCond.fValue.fNum),.str (a3.fCond.fValue.fText),.sl 1 (a3.fOpens.map aI),.sl 1 (a3.fCloses.map aI),.sl 8 (a3.fChecks.map idA),.sl 2 (a3.fLimits.map z0p),.sl 1 (a3.fInside.map aI)]),(10,.box 77 [aI (0),.nils,.nils]),(15,.box 77 [aI (a3.fTo),.sl 4 (x130.map z0a),.sl 2 (k2_2_0y.map z08)]),(18,.box 167 [.sl 1 (List.map (fun q=>AV.sl 5 (List.map z04 q)) (x133.fVars))])]⟩
theorem zk9 {n a3 k2_2_0y x130 x133 k4_4_0}:z2d E0b 167 (z43 n a3 k2_2_0y x130 x133 k4_4_0) (zkv a3 k2_2_0y x130 x133):=LoopA.oT fun _=>rfl
def zkw (a4:z01)(a3:z0j)(a2:z00)(a1:(List z01))(k2_2_0y:(List z0b))(v3_3:Int):AS:=⟨[(1,.sl 5 (a1.map z04)),(7,.ptr 7 0),(8,.ptr 8 0),(9,.ptr 9 0),(10,.ptr 10 0),(15,.ptr 15 0),(17,aI (v3_3))],[(7,.box 77 [aI (a2.fState),.sl 4 (a2.fBindings.map z0a),.sl 2 (a2.fStarts.map z08)]),(8,.box 51 [aI (a3.fFrom),aI (a3.fTo),aI (a3.fVar),aI (a3.fType),aI (a3.fCond.fOp),.sl 8 (a3.fCond.fArgs.map idA),aI (a3.fCond.fVar),aI (a3.fCond.fField),aI (a3.fCond.fKind),aI (a3.fCond.fValue.fKind),aI (a3.fCond.fValue.fNum),.str (a3.fCond.fValue.fText),.sl 1 (a3.fOpens.map aI),.sl 1 (a3.fCloses.map aI),.sl 8 (a3.fChecks.map idA),.sl 2 (a3.fLimits.map z0p),.sl 1 (a3.fInside.map aI)]),(9,.box 66 [aI (a4.fSource),aI (a4.fSeq),aI (a4.fType),aI (a4.fTime),.sl 3 (a4.fValues.map z07)]),(10,.box 77 [aI (0),.nils,.nils]),(15,.box 77 [aI (a3.fTo),.nils,.sl 2 (k2_2_0y.map z08)])]⟩
theorem zka {n a4 a3 a2 a1 k2_2_0y k3_3_0}:z2d E0b 167 (z44 n a4 a3 a2 a1 k2_2_0y k3_3_0) (zkw a4 a3 a2 a1 k2_2_0y):=LoopA.oT fun _=>rfl
end Go.Proofs.YtjpknpjjcddnnaaGreat
