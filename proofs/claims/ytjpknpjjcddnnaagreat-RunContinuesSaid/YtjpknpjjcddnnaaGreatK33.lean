/- What some functions compute, over plain values. Printed by a program of mine (gen_fun.lean). -/
import Derived.Test.YtjpknpjjcddnnaaGreatK32
set_option linter.unusedVariables false
set_option linter.unusedSimpArgs false
set_option maxRecDepth 100000
set_option maxHeartbeats 8000000
namespace Go.Proofs.YtjpknpjjcddnnaaGreat
open Go.RowKit
theorem zpt {n x5 x23}:z3v E0 108 (z1f n x5 x23) (zrc x5 x23):=AW.jT
def zit (r:Bool):AV:=.bool (r)
theorem zsz {n r}(hF:z88 n=some r):Con E0 true 8 [] (zit r):=by
 unfold z88 at hF
 refine Con.walk _ Tryz.func8 rfl (z08 Tryz.func8 rfl rfl) rfl (Or.inr rfl) ?_
 repeat' first
  |refine zps hF (fun hF=>?_) (fun v hF=>?_);rotate_left;unfold z6e at hF
  |refine zpt hF (fun hF=>?_) (fun v hF=>?_);rotate_left;unfold z1f at hF
  |refine AW.regO hF (fun hF=>?_)
  |refine AW.frzO hF 23000000 rfl (fun hF=>?_)
  |refine AW.frzO hF 23000001 rfl (fun hF=>?_)
  |refine AW.frzO hF 44000000 rfl (fun hF=>?_)
  |refine AW.frzO hF 44000001 rfl (fun hF=>?_)
  |refine AW.stepU [5,8,9,11] ?_;conv=>whnf
  |refine z0v.o hF (fun hF=>?_) (fun hF=>?_)
  |refine z0v.t ?_
  |refine z0m.o hF zek (fun a h=>zgl h) (fun a hF=>?_)
  |refine z0m.o hF zgs (fun a h=>zo3 h) (fun a hF=>?_)
  |refine z0m.o hF y1x (fun a h=>y0m h) (fun a hF=>?_)
  |refine z0m.oM (zcu 22 hF) [] [(261002,23000000),(261003,23000001),(0,23000002)] _ _ z5z z8g [] (fun a h=>ConG.up (zda h)) (z08 Tryz.func37 rfl rfl) rfl rfl rfl trivial (fun a=>⟨rfl,rfl,rfl,rfl,rfl,rfl,rfl,rfl⟩) (fun a hF=>?_)
  |refine NatX.o hF (fun m hF=>?_)
  |refine LtX.o hF (fun hF=>?_)
  |refine EltX.o z0e hF (fun x hF=>?_)
  |refine SetX.o z0d hF (fun x=>rfl) (fun x=>(by first|exact SubL.refl _|(repeat' first|exact SubL.nil|refine SubL.cons ?_ ?_|exact Sub.refl _|exact Sub.nil _|refine Sub.agg ?_))) (fun l hF=>?_)
  |refine z0m.o hF y1y (fun a h=>con_run_Matches h) (fun a hF=>?_)
  |refine z0m.oM (zcu 43 hF) [] [(261002,44000000),(261003,44000001),(0,44000002)] _ _ z5z z8g [] (fun a h=>ConG.up (zda h)) (z08 Tryz.func37 rfl rfl) rfl rfl rfl trivial (fun a=>⟨rfl,rfl,rfl,rfl,rfl,rfl,rfl,rfl⟩) (fun a hF=>?_)
  |refine SetX.o z0e hF (fun x=>rfl) (fun x=>(by first|exact SubL.refl _|(repeat' first|exact SubL.nil|refine SubL.cons ?_ ?_|exact Sub.refl _|exact Sub.nil _|refine Sub.agg ?_))) (fun l hF=>?_)
  |refine z0m.o hF zjk (fun a h=>zvj h) (fun a hF=>?_)
  |refine z0m.o hF zff (fun a h=>zh5 h) (fun a hF=>?_)
  |exact ⟨_,hF,LeX.a []⟩
  |exact ⟨_,hF,LeX.a []⟩
  |refine IdxX.o z0b hF (fun x hF=>?_)
  |refine And.intro ⟨by kernel_rfl,by kernel_rfl⟩ ?_
  |exact RetX.oA hF
def ztd (a1:(List z00))(a0:(List z00))(v1_0:Int):AS:=⟨[(0,.sl 3 (a0.map z0b)),(1,.sl 3 (a1.map z0b)),(5,aI (v1_0))],[]⟩
theorem zrt {n a1 a0 k1_0_0}:z27 E0 27 (z6x n a1 a0 k1_0_0) (ztd a1 a0):=LoopA.oT fun _=>rfl
def zjb (r:Bool):AV:=.bool (r)
theorem zv9 {n a0 a1 r}(hF:z8s n a0 a1=some r):Con E0 true 12 [.sl 3 (a0.map z0b),.sl 3 (a1.map z0b)] (zjb r):=by
 unfold z8s at hF
 refine Con.walk _ Tryz.func12 rfl (z08 Tryz.func12 rfl rfl) rfl (Or.inr rfl) ?_
 repeat' first
  |refine AW.step ?_;conv=>whnf
  |refine z0v.o hF (fun hF=>?_) (fun hF=>?_)
  |refine IdxX.o z0b hF (fun x hF=>?_)
  |refine z0m.o hF zad (fun a h=>zci h) (fun a hF=>?_)
  |exact ⟨_,hF,LeX.a []⟩
  |refine zrt hF (LeX.a []) (fun m v hF=>?_);unfold z6x at hF
  |refine And.intro ⟨by kernel_rfl,by kernel_rfl⟩ ?_
  |exact RetX.oA hF
def zw6 (w1_0:Bool):AS:=⟨[(2,.bool (w1_0))],[]⟩
theorem zuv {n}:z3v E0 11 (z5t n) zw6:=AW.jT
def zfy (r:Bool):AV:=.bool (r)
theorem zib {n a0 r}(hF:z7y n a0=some r):Con E0 true 65 [.agg [aI (a0.fOp),.sl 8 (a0.fArgs.map idA),aI (a0.fVar),aI (a0.fField),aI (a0.fKind),aI (a0.fValue.fKind),aI (a0.fValue.fNum),.str (a0.fValue.fText)]] (zfy r):=by
 unfold z7y at hF
 refine Con.walk _ Tryz.func65 rfl (z08 Tryz.func65 rfl rfl) rfl (Or.inr rfl) ?_
 repeat' first
  |refine zuv hF (fun hF=>?_) (fun v hF=>?_);rotate_left;unfold z5t at hF
  |refine AW.regO hF (fun hF=>?_)
  |refine AW.stepU [1] ?_;conv=>whnf
  |refine z0v.o hF (fun hF=>?_) (fun hF=>?_)
  |refine z0m.o hF zbt (fun a h=>zgg h) (fun a hF=>?_)
  |refine z0m.o hF zbs (fun a h=>zgf h) (fun a hF=>?_)
  |exact ⟨_,hF,LeX.a []⟩
  |exact RetX.oA hF
def zvy (a0:(List z0q))(v1_0:Int):AS:=⟨[(0,.sl 11 (a0.map z0t)),(3,aI (v1_0))],[]⟩
theorem zun {n a0 k1_0_0}:z27 E0 17 (z7l n a0 k1_0_0) (zvy a0):=LoopA.oT fun _=>rfl
def zl7 (r:Bool):AV:=.bool (r)
theorem zx3 {n a0 r}(hF:zb1 n a0=some r):Con E0 true 64 [.sl 11 (a0.map z0t)] (zl7 r):=by
 unfold zb1 at hF
 refine Con.walk _ Tryz.func64 rfl (z08 Tryz.func64 rfl rfl) rfl (Or.inr rfl) ?_
 repeat' first
  |refine AW.step ?_;conv=>whnf
  |refine z0v.o hF (fun hF=>?_) (fun hF=>?_)
  |refine IdxX.o z0t hF (fun x hF=>?_)
  |refine z0m.o hF zfy (fun a h=>zib h) (fun a hF=>?_)
  |exact ⟨_,hF,LeX.a []⟩
  |refine zun hF (LeX.a []) (fun m v hF=>?_);unfold z7l at hF
  |exact RetX.oA hF
def zw2 (w9_2:Bool):AS:=⟨[(2,.bool (w9_2))],[]⟩
theorem zur {n}:z3v E0 130 (z5q n) zw2:=AW.jT
def zvz (a0:z05)(v2_1:Int)(x83:z0j)(v3_5:Int):AS:=⟨[(1,.ptr 1 0),(4,aI (v2_1)),(5,.ptr 5 0),(6,aI (v3_5))],[(1,.box 25 [aI (a0.fVars),aI (a0.fScopes),.sl 1 (a0.fStates.map z0d),.sl 17 (a0.fEdges.map z0e)]),(5,.box 51 [aI (x83.fFrom),aI (x83.fTo),aI (x83.fVar),aI (x83.fType),aI (x83.fCond.fOp),.sl 8 (x83.fCond.fArgs.map idA),aI (x83.fCond.fVar),aI (x83.fCond.fField),aI (x83.fCond.fKind),aI (x83.fCond.fValue.fKind),aI (x83.fCond.fValue.fNum),.str (x83.fCond.fValue.fText),.sl 1 (x83.fOpens.map aI),.sl 1 (x83.fCloses.map aI),.sl 8 (x83.fChecks.map idA),.sl 2 (x83.fLimits.map z0r),.sl 1 (x83.fInside.map aI)])]⟩
theorem zuo {n a0 v2_1 x83 k3_5_0}:z27 E0 130 (z7m n a0 v2_1 x83 k3_5_0) (zvz a0 v2_1 x83):=LoopA.oT fun _=>rfl
def ztj (a0:z05)(v2_1:Int)(cv2_1:Int->Option (Bool))(x83:z0j)(w11_4:Bool):AS:=⟨[(1,.ptr 1 0),(4,aI (v2_1)),(5,.ptr 5 0),(105,.bool (w11_4))],[(1,.box 25 [aI (a0.fVars),aI (a0.fScopes),.sl 1 (a0.fStates.map z0d),.sl 17 (a0.fEdges.map z0e)]),(5,.box 51 [aI (x83.fFrom),aI (x83.fTo),aI (x83.fVar),aI (x83.fType),aI (x83.fCond.fOp),.sl 8 (x83.fCond.fArgs.map idA),aI (x83.fCond.fVar),aI (x83.fCond.fField),aI (x83.fCond.fKind),aI (x83.fCond.fValue.fKind),aI (x83.fCond.fValue.fNum),.str (x83.fCond.fValue.fText),.sl 1 (x83.fOpens.map aI),.sl 1 (x83.fCloses.map aI),.sl 8 (x83.fChecks.map idA),.sl 2 (x83.fLimits.map z0r),.sl 1 (x83.fInside.map aI)])]⟩
theorem zrz {n a0 v2_1 cv2_1 x83}:z3v E0 130 (z1k n a0 v2_1 cv2_1 x83) (ztj a0 v2_1 cv2_1 x83):=AW.jT
def ztk (a0:z05)(v2_1:Int)(k2_1_0:Option (Bool))(cv2_1:Int->Option (Bool))(w10_3:Bool):AS:=⟨[(1,.ptr 1 0),(4,aI (v2_1)),(64,.bool (w10_3))],[(1,.box 25 [aI (a0.fVars),aI (a0.fScopes),.sl 1 (a0.fStates.map z0d),.sl 17 (a0.fEdges.map z0e)])]⟩
theorem zs0 {n a0 v2_1 k2_1_0 cv2_1}:z3v E0 130 (z4s n a0 v2_1 k2_1_0 cv2_1) (ztk a0 v2_1 k2_1_0 cv2_1):=AW.jT
def zw0 (a0:z05)(v2_1:Int):AS:=⟨[(1,.ptr 1 0),(4,aI (v2_1))],[(1,.box 25 [aI (a0.fVars),aI (a0.fScopes),.sl 1 (a0.fStates.map z0d),.sl 17 (a0.fEdges.map z0e)])]⟩
theorem zup {n a0 k2_1_0}:z27 E0 130 (z3p n a0 k2_1_0) (zw0 a0):=LoopA.oT fun _=>rfl
def zth (a0:z05)(v1_0:Int)(cv1_0:Int->Option (Bool))(w13_7:Bool):AS:=⟨[(1,.ptr 1 0),(3,aI (v1_0)),(55,.bool (w13_7))],[(1,.box 25 [aI (a0.fVars),aI (a0.fScopes),.sl 1 (a0.fStates.map z0d),.sl 17 (a0.fEdges.map z0e)])]⟩
theorem zrx {n a0 v1_0 cv1_0}:z3v E0 130 (z1s n a0 v1_0 cv1_0) (zth a0 v1_0 cv1_0):=AW.jT
def zti (a0:z05)(v1_0:Int)(k1_0_0:Option (Bool))(cv1_0:Int->Option (Bool))(w12_6:Bool):AS:=⟨[(1,.ptr 1 0),(3,aI (v1_0)),(15,.bool (w12_6))],[(1,.box 25 [aI (a0.fVars),aI (a0.fScopes),.sl 1 (a0.fStates.map z0d),.sl 17 (a0.fEdges.map z0e)])]⟩
theorem zry {n a0 v1_0 k1_0_0 cv1_0}:z3v E0 130 (z4r n a0 v1_0 k1_0_0 cv1_0) (zti a0 v1_0 k1_0_0 cv1_0):=AW.jT
def zw1 (a0:z05)(v1_0:Int):AS:=⟨[(1,.ptr 1 0),(3,aI (v1_0))],[(1,.box 25 [aI (a0.fVars),aI (a0.fScopes),.sl 1 (a0.fStates.map z0d),.sl 17 (a0.fEdges.map z0e)])]⟩
theorem zuq {n a0 k1_0_0}:z27 E0 130 (z3q n a0 k1_0_0) (zw1 a0):=LoopA.oT fun _=>rfl
def zl8 (r:Bool):AV:=.bool (r)
theorem zx4 {n a0 r}(hF:zb2 n a0=some r):Con E0 true 32 [.agg [aI (a0.fVars),aI (a0.fScopes),.sl 1 (a0.fStates.map z0d),.sl 17 (a0.fEdges.map z0e)]] (zl8 r):=by
 unfold zb2 at hF
 refine Con.walk _ Tryz.func32 rfl (z08 Tryz.func32 rfl rfl) rfl (Or.inr rfl) ?_
 repeat' first
  |refine zur hF (fun hF=>?_) (fun v hF=>?_);rotate_left;unfold z5q at hF
  |refine zrz hF (fun hF=>?_) (fun v hF=>?_);rotate_left;unfold z1k at hF
  |refine zs0 hF (fun hF=>?_) (fun v hF=>?_);rotate_left;unfold z4s at hF
  |refine zrx hF (fun hF=>?_) (fun v hF=>?_);rotate_left;unfold z1s at hF
  |refine zry hF (fun hF=>?_) (fun v hF=>?_);rotate_left;unfold z4r at hF
  |refine AW.regO hF (fun hF=>?_)
  |refine AW.stepU [2,4,7,10,17] ?_;conv=>whnf
  |refine z0v.o hF (fun hF=>?_) (fun hF=>?_)
  |refine z0v.t ?_
  |refine z0v.f ?_
  |exact ⟨_,hF,LeX.a []⟩
  |refine IdxX.o z0e hF (fun x hF=>?_)
  |exact ⟨_,hF,LeX.a []⟩
  |refine IdxX.oD hF z6u (fun x hF=>?_)
  |refine z0m.o hF zfy (fun a h=>zib h) (fun a hF=>?_)
  |exact ⟨_,hF,LeX.a []⟩
  |refine zuo hF (LeX.a []) (fun m v hF=>?_);unfold z7m at hF
  |exact ⟨_,hF,LeX.a []⟩
  |refine zup hF (LeX.a []) (fun m v hF=>?_);unfold z3p at hF
  |refine IdxX.o z0d hF (fun x hF=>?_)
  |refine z0m.o hF zl7 (fun a h=>zx3 h) (fun a hF=>?_)
  |refine zuq hF (LeX.a []) (fun m v hF=>?_);unfold z3q at hF
  |exact RetX.oA hF
def zw9 (a0:(List z03))(v1_0:Int):AS:=⟨[(0,.sl 3 (a0.map z0a)),(3,aI (v1_0))],[]⟩
theorem zuy {n a0 k1_0_0}:z27 E0 24 (z7p n a0 k1_0_0) (zw9 a0):=LoopA.oT fun _=>rfl
def zlb (r:Bool):AV:=.bool (r)
theorem zx7 {n a0 r}(hF:zb5 n a0=some r):Con E0 true 66 [.sl 3 (a0.map z0a)] (zlb r):=by
 unfold zb5 at hF
 refine Con.walk _ Tryz.func66 rfl (z08 Tryz.func66 rfl rfl) rfl (Or.inr rfl) ?_
 repeat' first
  |refine AW.step ?_;conv=>whnf
  |refine z0v.o hF (fun hF=>?_) (fun hF=>?_)
  |refine z0v.f ?_
  |refine IdxX.o z0a hF (fun x hF=>?_)
  |exact ⟨_,hF,LeX.a []⟩
  |refine zuy hF (LeX.a []) (fun m v hF=>?_);unfold z7p at hF
  |exact RetX.oA hF
def zw8 (a0:(List z01))(v1_0:Int):AS:=⟨[(0,.sl 5 (a0.map z04)),(3,aI (v1_0))],[]⟩
theorem zux {n a0 k1_0_0}:z27 E0 33 (z7o n a0 k1_0_0) (zw8 a0):=LoopA.oT fun _=>rfl
def zla (r:Bool):AV:=.bool (r)
theorem zx6 {n a0 r}(hF:zb4 n a0=some r):Con E0 true 33 [.sl 5 (a0.map z04)] (zla r):=by
 unfold zb4 at hF
 refine Con.walk _ Tryz.func33 rfl (z08 Tryz.func33 rfl rfl) rfl (Or.inr rfl) ?_
 repeat' first
  |refine AW.step ?_;conv=>whnf
  |refine z0v.o hF (fun hF=>?_) (fun hF=>?_)
  |refine z0v.t ?_
  |refine z0v.f ?_
  |refine IdxX.o z04 hF (fun x hF=>?_)
  |refine z0m.o hF zlb (fun a h=>zx7 h) (fun a hF=>?_)
  |exact ⟨_,hF,LeX.a []⟩
  |refine zux hF (LeX.a []) (fun m v hF=>?_);unfold z7o at hF
  |exact RetX.oA hF
def zhd (r:Bool):AV:=.bool (r)
theorem zq8 {n a0 r}(hF:z95 n a0=some r):Con E0 true 48 [.agg [aI (a0.fSource),aI (a0.fSeq),aI (a0.fType),aI (a0.fTime),.sl 3 (a0.fValues.map z0a)]] (zhd r):=by
 unfold z95 at hF
 refine Con.walk _ Tryz.func48 rfl (z08 Tryz.func48 rfl rfl) rfl (Or.inr rfl) ?_
 repeat' first
  |refine AW.step ?_;conv=>whnf
  |refine z0v.o hF (fun hF=>?_) (fun hF=>?_)
  |refine z0v.f ?_
  |exact RetX.oA hF
def zjj (r:Bool):AV:=.bool (r)
theorem zvi {n a0 a1 r}(hF:z8u n a0 a1=some r):Con E0 true 51 [.agg [aI (a0.fSource),aI (a0.fSeq),aI (a0.fType),aI (a0.fTime),.sl 3 (a0.fValues.map z0a)],.agg [aI (a1.fSource),aI (a1.fSeq),aI (a1.fType),aI (a1.fTime),.sl 3 (a1.fValues.map z0a)]] (zjj r):=by
 unfold z8u at hF
 refine Con.walk _ Tryz.func51 rfl (z08 Tryz.func51 rfl rfl) rfl (Or.inr rfl) ?_
 repeat' first
  |refine AW.step ?_;conv=>whnf
  |refine z0v.o hF (fun hF=>?_) (fun hF=>?_)
  |exact RetX.oA hF
def zr9 (a0:(List z01))(v1_0:Int)(v2_1:Int):AS:=⟨[(0,.sl 5 (a0.map z04)),(3,aI (v1_0)),(4,aI (v2_1))],[]⟩
theorem zpq {n a0 v1_0 k2_1_0}:z27 E0 51 (z6d n a0 v1_0 k2_1_0) (zr9 a0 v1_0):=LoopA.oT fun _=>rfl
def zr8 (a0:(List z01))(v1_0:Int)(v3_2:Int):AS:=⟨[(0,.sl 5 (a0.map z04)),(3,aI (v1_0)),(4,aI (v3_2))],[]⟩
theorem zpp {n a0 v1_0 k3_2_0}:z27 E0 51 (z6c n a0 v1_0 k3_2_0) (zr8 a0 v1_0):=LoopA.oT fun _=>rfl
def zra (a0:(List z01))(v1_0:Int):AS:=⟨[(0,.sl 5 (a0.map z04)),(3,aI (v1_0))],[]⟩
end Go.Proofs.YtjpknpjjcddnnaaGreat
namespace Go.Proofs.YtjpknpjjcddnnaaGreat
open Go.RowKit
theorem zpr {n a0 k1_0_0}:z27 E0 51 (z1z n a0 k1_0_0) (zra a0):=LoopA.oT fun _=>rfl
def zej (r:Int):AV:=aI (r)
theorem zgk {n a0 r}(hF:z87 n a0=some r):Con E0 true 15 [.sl 5 (a0.map z04)] (zej r):=by
 unfold z87 at hF
 refine Con.walk _ Tryz.func15 rfl (z08 Tryz.func15 rfl rfl) rfl (Or.inr rfl) ?_
 repeat' first
  |refine AW.step ?_;conv=>whnf
  |refine z0v.o hF (fun hF=>?_) (fun hF=>?_)
  |refine z0v.f ?_
  |refine IdxX.o z04 hF (fun x hF=>?_)
  |refine z0m.o hF zhd (fun a h=>zq8 h) (fun a hF=>?_)
  |refine z0m.o hF zaw (fun a h=>zbp h) (fun a hF=>?_)
  |refine z0m.o hF zei (fun a h=>zgj h) (fun a hF=>?_)
  |exact ⟨_,hF,LeX.a []⟩
  |refine z0m.o hF zjj (fun a h=>zvi h) (fun a hF=>?_)
  |exact ⟨_,hF,LeX.a []⟩
  |refine zpq hF (LeX.a []) (fun m v hF=>?_);unfold z6d at hF
  |refine zpp hF (LeX.a []) (fun m v hF=>?_);unfold z6c at hF
  |refine zpr hF (LeX.a []) (fun m v hF=>?_);unfold z1z at hF
  |refine And.intro ⟨by kernel_rfl,by kernel_rfl⟩ ?_
  |exact RetX.oA hF
def zja (r:Int):AV:=aI (r)
theorem zv8 {n a0 a1 r}(hF:z2q n a0 a1=some r):Con E0 true 34 [.agg [aI (a0.fVars),aI (a0.fScopes),.sl 1 (a0.fStates.map z0d),.sl 17 (a0.fEdges.map z0e)],.sl 5 (a1.map z04)] (zja r):=by
 unfold z2q at hF
 refine Con.walk _ Tryz.func34 rfl (z08 Tryz.func34 rfl rfl) rfl (Or.inr rfl) ?_
 repeat' first
  |refine AW.step ?_;conv=>whnf
  |refine z0v.o hF (fun hF=>?_) (fun hF=>?_)
  |refine z0m.o hF zee (fun a h=>zge h) (fun a hF=>?_)
  |refine z0m.o hF zej (fun a h=>zgk h) (fun a hF=>?_)
  |exact RetX.oA hF
def zil (r:z00):AV:=.agg [aI (r.fState),.sl 4 (r.fBindings.map z06),.sl 2 (r.fStarts.map z07)]
theorem zsr {n r}(hF:zc3 n=some r):Con E0 false 67 [] (zil r):=by
 unfold zc3 at hF
 refine Con.walk _ Tryz.func67 rfl (z08 Tryz.func67 rfl rfl) rfl (Or.inl rfl) ?_
 repeat' first
  |refine AW.step ?_;conv=>whnf
  |exact RetX.oA hF
def zqs (a1:z13)(a0:(List z01))(v1_0:Int):AS:=⟨[(0,.sl 5 (a0.map z04)),(3,.ptr 3 0),(4,.ptr 4 0),(6,aI (v1_0))],[(3,.box 108 [aI (a1.fTime),aI (a1.fSource),aI (a1.fSeq)]),(4,.box 66 [aI (0),aI (0),aI (0),aI (0),.nils])]⟩
theorem zp9 {n a1 a0 k1_0_0}:z27 E0 25 (z69 n a1 a0 k1_0_0) (zqs a1 a0):=LoopA.oT fun _=>rfl
def zio (r:z01×Bool):AV:=.tup [.agg [aI (r.1.fSource),aI (r.1.fSeq),aI (r.1.fType),aI (r.1.fTime),.sl 3 (r.1.fValues.map z0a)],.bool (r.2)]
theorem zsu {n a0 a1 r}(hF:z9p n a0 a1=some r):Con E0 false 205 [.sl 5 (a0.map z04),.agg [aI (a1.fTime),aI (a1.fSource),aI (a1.fSeq)]] (zio r):=by
 unfold z9p at hF
 refine Con.walk _ Tryz.func205 rfl (z08 Tryz.func205 rfl rfl) rfl (Or.inl rfl) ?_
 repeat' first
  |refine AW.step ?_;conv=>whnf
  |refine z0v.o hF (fun hF=>?_) (fun hF=>?_)
  |refine IdxX.o z04 hF (fun x hF=>?_)
  |refine z0m.o hF zaw (fun a h=>zbp h) (fun a hF=>?_)
  |exact ⟨_,hF,LeX.a []⟩
  |refine zp9 hF (LeX.a []) (fun m v hF=>?_);unfold z69 at hF
  |refine And.intro ⟨by kernel_rfl,by kernel_rfl⟩ ?_
  |refine EqX.mk (by first|rfl|kernel_rfl) ?_
  |exact RetX.oA hF
def zqt (a2:(List z0p))(a1:Int)(a0:(List z01))(x1:Nat)(v1_0:Int×(List (List z01))):AS:=⟨[(0,.sl 5 (a0.map z04)),(1,aI (a1)),(2,.sl 4 (a2.map z06)),(6,.ptr 6 0),(7,.ptr 7 0),(8,aI (v1_0.1))],[(6,.box 167 [.nils]),(7,.box 167 [.cont (x1) 13]),(13,.nest 26 (List.map (enR z04 66 5) (v1_0.2)))]⟩
theorem zpa {n a2 a1 a0 x1 k1_0_0}:z27 E0 59 (z1n n a2 a1 a0 x1 k1_0_0) (zqt a2 a1 a0 x1):=LoopA.oT fun _=>rfl
def ziq (r:z0h):AV:=.agg [.sl 1 (List.map (fun q=>AV.sl 5 (List.map z04 q)) (r.fVars))]
theorem zsv {n a0 a1 a2 r}(hF:zc4 n a0 a1 a2=some r):Con E0 false 193 [.sl 5 (a0.map z04),aI (a1),.sl 4 (a2.map z06)] (ziq r):=by
 unfold zc4 at hF
 refine Con.walk _ Tryz.func193 rfl (z08 Tryz.func193 rfl rfl) rfl (Or.inl rfl) ?_
 repeat' first
  |refine AW.nstO (er:=z04) 66 5 hF 13 rfl (fun hF=>?_)
  |refine AW.frrO (ety:=66) (sz:=5) z04 hF 13 rfl (fun hF=>?_)
  |refine AW.regO hF (fun hF=>?_)
  |refine AW.stepU [9,7,2] ?_;conv=>whnf
  |refine z0v.o hF (fun hF=>?_) (fun hF=>?_)
  |refine z0v.f ?_
  |refine MakX.on hF (fun m hF=>?_)
  |refine IdxX.o z06 hF (fun x hF=>?_)
  |refine z0m.o hF zio (fun a h=>zsu h) (fun a hF=>?_)
  |refine OpX.ixc hF rfl rfl rfl rfl rfl rfl rfl rfl (fun hF=>?_)
  |refine OpX.ntk z04 hF rfl rfl rfl rfl rfl rfl rfl rfl rfl rfl (fun q hF=>?_)
  |refine AppX.o z04 hF (by first|exact SubR.refl _|(repeat' first|exact SubR.nil|refine SubR.cons ?_ ?_|exact SubL.nil|refine SubL.cons ?_ ?_|exact Sub.refl _|exact Sub.nil _)) (fun l hF=>?_)
  |refine OpX.npt z04 hF rfl rfl rfl rfl rfl rfl rfl rfl rfl rfl rfl (fun l hF=>?_)
  |exact ⟨_,hF,LeX.a []⟩
  |refine zpa hF (LeX.a []) (fun m v hF=>?_);unfold z1n at hF
  |refine And.intro ⟨by kernel_rfl,by kernel_rfl⟩ ?_
  |refine EqX.mk (by first|rfl|kernel_rfl) ?_
  |exact RetX.oA hF
def zdq (r:z0h):AV:=.agg [.sl 1 (List.map (fun q=>AV.sl 5 (List.map z04 q)) (r.fVars))]
theorem zed {n a0 a1 r}(hF:z7x n a0 a1=some r):Con E0 false 161 [.sl 5 (a0.map z04),.agg [aI (a1.fState),.sl 4 (a1.fBindings.map z06),.sl 2 (a1.fStarts.map z07)]] (zdq r):=by
 unfold z7x at hF
 refine Con.walk _ Tryz.func161 rfl (z08 Tryz.func161 rfl rfl) rfl (Or.inl rfl) ?_
 repeat' first
  |refine AW.step ?_;conv=>whnf
  |refine z0m.o hF ziq (fun a h=>zsv h) (fun a hF=>?_)
  |exact RetX.oA hF
def zkx (w1_0:Bool):AS:=⟨[(6,.bool (w1_0))],[]⟩
theorem zk6 {n}:z3v E0 21 (z2l n) zkx:=AW.jT
def zcx (r:Bool):AV:=.bool (r)
theorem zfa {n a0 a1 a2 r}(hF:z63 n a0 a1 a2=some r):Con E0 true 162 [.agg [aI (a0.fScope),aI (a0.fType),aI (a0.fVar),aI (a0.fCond.fOp),.sl 8 (a0.fCond.fArgs.map idA),aI (a0.fCond.fVar),aI (a0.fCond.fField),aI (a0.fCond.fKind),aI (a0.fCond.fValue.fKind),aI (a0.fCond.fValue.fNum),.str (a0.fCond.fValue.fText)],.agg [.sl 1 (List.map (fun q=>AV.sl 5 (List.map z04 q)) (a1.fVars))],.agg [aI (a2.fSource),aI (a2.fSeq),aI (a2.fType),aI (a2.fTime),.sl 3 (a2.fValues.map z0a)]] (zcx r):=by
 unfold z63 at hF
 refine Con.walk _ Tryz.func162 rfl (z08 Tryz.func162 rfl rfl) rfl (Or.inr rfl) ?_
 repeat' first
  |refine zk6 hF (fun hF=>?_) (fun v hF=>?_);rotate_left;unfold z2l at hF
  |refine AW.regO hF (fun hF=>?_)
  |refine AW.stepU [1] ?_;conv=>whnf
  |refine z0v.o hF (fun hF=>?_) (fun hF=>?_)
  |refine z0m.o hF zbr (fun a h=>zdj h) (fun a hF=>?_)
  |exact ⟨_,hF,LeX.a []⟩
  |exact RetX.oA hF
def zqk (a3:z01)(x1:z0h)(x2:z9b)(v1_0:Int):AS:=⟨[(7,.ptr 7 0),(9,.ptr 9 0),(10,.sl 11 (x2.fGuards.map z0t)),(11,aI (v1_0))],[(7,.box 66 [aI (a3.fSource),aI (a3.fSeq),aI (a3.fType),aI (a3.fTime),.sl 3 (a3.fValues.map z0a)]),(9,.box 167 [.sl 1 (List.map (fun q=>AV.sl 5 (List.map z04 q)) (x1.fVars))])]⟩
theorem zp1 {n a3 x1 x2 k1_0_0}:z27 E0 35 (z64 n a3 x1 x2 k1_0_0) (zqk a3 x1 x2):=LoopA.oT fun _=>rfl
def zik (r:Bool):AV:=.bool (r)
theorem zsq {n a0 a1 a2 a3 r}(hF:z9n n a0 a1 a2 a3=some r):Con E0 true 120 [.agg [aI (a0.fVars),aI (a0.fScopes),.sl 1 (a0.fStates.map z0d),.sl 17 (a0.fEdges.map z0e)],.sl 5 (a1.map z04),.agg [aI (a2.fState),.sl 4 (a2.fBindings.map z06),.sl 2 (a2.fStarts.map z07)],.agg [aI (a3.fSource),aI (a3.fSeq),aI (a3.fType),aI (a3.fTime),.sl 3 (a3.fValues.map z0a)]] (zik r):=by
 unfold z9n at hF
 refine Con.walk _ Tryz.func120 rfl (z08 Tryz.func120 rfl rfl) rfl (Or.inr rfl) ?_
 repeat' first
  |refine AW.step ?_;conv=>whnf
  |refine z0v.o hF (fun hF=>?_) (fun hF=>?_)
  |refine z0m.o hF zdq (fun a h=>zed h) (fun a hF=>?_)
  |refine IdxX.o z0d hF (fun x hF=>?_)
  |refine IdxX.o z0t hF (fun x hF=>?_)
  |refine z0m.o hF zcx (fun a h=>zfa h) (fun a hF=>?_)
  |exact ⟨_,hF,LeX.a []⟩
  |refine zp1 hF (LeX.a []) (fun m v hF=>?_);unfold z64 at hF
  |refine And.intro ⟨by kernel_rfl,by kernel_rfl⟩ ?_
  |exact RetX.oA hF
def ztg (a1:Int)(a0:z05)(v1_0:Int×(List z0j)):AS:=⟨[(1,aI (a1)),(2,.ptr 2 0),(5,.row 7029),(6,aI (v1_0.1))],[(2,.box 25 [aI (a0.fVars),aI (a0.fScopes),.sl 1 (a0.fStates.map z0d),.sl 17 (a0.fEdges.map z0e)]),(7029,.row 51 17 (v1_0.2.map z0e))]⟩
theorem zrw {n a1 a0 k1_0_0}:z27 E0 31 (z4q n a1 a0 k1_0_0) (ztg a1 a0):=LoopA.oT fun _=>rfl
def zjd (r:(List z0j)):AV:=.sl 17 (r.map z0e)
theorem zvb {n a0 a1 r}(hF:za6 n a0 a1=some r):Con E0 false 121 [.agg [aI (a0.fVars),aI (a0.fScopes),.sl 1 (a0.fStates.map z0d),.sl 17 (a0.fEdges.map z0e)],aI (a1)] (zjd r):=by
 unfold za6 at hF
 refine Con.walk _ Tryz.func121 rfl (z08 Tryz.func121 rfl rfl) rfl (Or.inl rfl) ?_
 repeat' first
  |refine AW.regO hF (fun hF=>?_)
  |refine AW.stepU [5] ?_;conv=>whnf
  |refine z0v.o hF (fun hF=>?_) (fun hF=>?_)
  |refine IdxX.o z0e hF (fun x hF=>?_)
  |refine AppX.o z0e hF (by first|exact SubR.refl _|(repeat' first|exact SubR.nil|refine SubR.cons ?_ ?_|exact SubL.nil|refine SubL.cons ?_ ?_|exact Sub.refl _|exact Sub.nil _)) (fun l hF=>?_)
  |exact ⟨_,hF,LeX.a [(7029,29)]⟩
  |exact ⟨_,hF,LeX.a []⟩
  |refine zrw hF (LeX.trans (LeX.adopt 5 7029 51 17 rfl rfl) (LeX.a [])) (fun m v hF=>?_);unfold z4q at hF
  |exact RetX.oA hF
def zvo (a1:Int)(a0:(List Int))(v1_0:Int):AS:=⟨[(0,.sl 1 (a0.map aI)),(1,aI (a1)),(5,aI (v1_0))],[]⟩
theorem zud {n a1 a0 k1_0_0}:z27 E0 18 (z7e n a1 a0 k1_0_0) (zvo a1 a0):=LoopA.oT fun _=>rfl
def zl4 (r:Bool):AV:=.bool (r)
theorem zx0 {n a0 a1 r}(hF:zay n a0 a1=some r):Con E0 true 163 [.sl 1 (a0.map aI),aI (a1)] (zl4 r):=by
 unfold zay at hF
 refine Con.walk _ Tryz.func163 rfl (z08 Tryz.func163 rfl rfl) rfl (Or.inr rfl) ?_
 repeat' first
  |refine AW.step ?_;conv=>whnf
  |refine z0v.o hF (fun hF=>?_) (fun hF=>?_)
  |refine IdxX.o aI hF (fun x hF=>?_)
  |exact ⟨_,hF,LeX.a []⟩
  |refine zud hF (LeX.a []) (fun m v hF=>?_);unfold z7e at hF
  |exact RetX.oA hF
def zof (a1:Int)(a0:(List z0c))(v1_0:Int×(List z0c)):AS:=⟨[(0,.sl 2 (a0.map z07)),(1,aI (a1)),(5,.row 7026),(6,aI (v1_0.1))],[(7026,.row 120 2 (v1_0.2.map z07))]⟩
theorem znh {n a1 a0 k1_0_0}:z27 E0 28 (z3c n a1 a0 k1_0_0) (zof a1 a0):=LoopA.oT fun _=>rfl
def ze2 (r:(List z0c)):AV:=.sl 2 (r.map z07)
theorem zg2 {n a0 a1 r}(hF:z7f n a0 a1=some r):Con E0 false 167 [.sl 2 (a0.map z07),aI (a1)] (ze2 r):=by
 unfold z7f at hF
 refine Con.walk _ Tryz.func167 rfl (z08 Tryz.func167 rfl rfl) rfl (Or.inl rfl) ?_
 repeat' first
  |refine AW.regO hF (fun hF=>?_)
  |refine AW.stepU [5] ?_;conv=>whnf
  |refine z0v.o hF (fun hF=>?_) (fun hF=>?_)
  |refine IdxX.o z07 hF (fun x hF=>?_)
  |refine AppX.o z07 hF (by first|exact SubR.refl _|(repeat' first|exact SubR.nil|refine SubR.cons ?_ ?_|exact SubL.nil|refine SubL.cons ?_ ?_|exact Sub.refl _|exact Sub.nil _)) (fun l hF=>?_)
  |exact ⟨_,hF,LeX.a [(7026,26)]⟩
  |exact ⟨_,hF,LeX.a []⟩
  |refine znh hF (LeX.trans (LeX.adopt 5 7026 120 2 rfl rfl) (LeX.a [])) (fun m v hF=>?_);unfold z3c at hF
  |exact RetX.oA hF
def zoe (a2:Int)(a1:Int)(x1:(List z0c))(v1_0:Int×(List z0c))(k1_0_0:(List z0c)->Int->(List z0c)->Option ((List z0c)))(cv1_0:(Int×(List z0c))->Option ((List z0c)))(w3_1:Bool):AS:=⟨[(0,.sl 2 (x1.map z07)),(1,aI (a1)),(2,aI (a2)),(7,.row 7031),(8,aI (v1_0.1)),(24,.bool (w3_1))],[(7031,.row 120 2 (v1_0.2.map z07))]⟩
theorem zng {n a2 a1 x1 v1_0 k1_0_0 cv1_0}:z3v E0 45 (z3b n a2 a1 x1 v1_0 k1_0_0 cv1_0) (zoe a2 a1 x1 v1_0 k1_0_0 cv1_0):=AW.jT
def zod (a2:Int)(a1:Int)(x1:(List z0c))(v1_0:Int×(List z0c)):AS:=⟨[(0,.sl 2 (x1.map z07)),(1,aI (a1)),(2,aI (a2)),(7,.row 7031),(8,aI (v1_0.1))],[(7031,.row 120 2 (v1_0.2.map z07))]⟩
theorem znf {n a2 a1 x1 k1_0_0}:z27 E0 45 (z2e n a2 a1 x1 k1_0_0) (zod a2 a1 x1):=LoopA.oT fun _=>rfl
def zh7 (r:(List z0c)):AV:=.sl 2 (r.map z07)
theorem zq2 {n a0 a1 a2 r}(hF:z92 n a0 a1 a2=some r):Con E0 false 165 [.sl 2 (a0.map z07),aI (a1),aI (a2)] (zh7 r):=by
 unfold z92 at hF
 refine Con.walk _ Tryz.func165 rfl (z08 Tryz.func165 rfl rfl) rfl (Or.inl rfl) ?_
 repeat' first
  |refine zng hF (fun hF=>?_) (fun v hF=>?_);rotate_left;unfold z3b at hF
  |refine AW.regO hF (fun hF=>?_)
  |refine AW.stepU [4] ?_;conv=>whnf
  |refine z0v.o hF (fun hF=>?_) (fun hF=>?_)
  |refine z0m.o hF ze2 (fun a h=>zg2 h) (fun a hF=>?_)
  |refine AppX.o z07 hF (by first|exact SubR.refl _|(repeat' first|exact SubR.nil|refine SubR.cons ?_ ?_|exact SubL.nil|refine SubL.cons ?_ ?_|exact Sub.refl _|exact Sub.nil _)) (fun l hF=>?_)
  |refine SlsX.o z07 hF (fun l hF=>?_)
  |refine IdxX.o z07 hF (fun x hF=>?_)
  |exact ⟨_,hF,LeX.a [(7031,31)]⟩
  |exact ⟨_,hF,LeX.a []⟩
  |refine znf hF (LeX.trans (LeX.adopt 7 7031 120 2 rfl rfl) (LeX.a [])) (fun m v hF=>?_);unfold z2e at hF
  |exact RetX.oA hF
def ztc (a2:Int)(a1:z0z)(a0:(List z0c))(v1_0:Int):AS:=⟨[(0,.sl 2 (a0.map z07)),(2,aI (a2)),(4,.ptr 4 0),(7,aI (v1_0))],[(4,.box 92 [aI (a1.fScope),aI (a1.fSpan)])]⟩
theorem zrs {n a2 a1 a0 k1_0_0}:z27 E0 32 (z6w n a2 a1 a0 k1_0_0) (ztc a2 a1 a0):=LoopA.oT fun _=>rfl
def zj9 (r:Bool):AV:=.bool (r)
theorem zv7 {n a0 a1 a2 r}(hF:za4 n a0 a1 a2=some r):Con E0 true 166 [.sl 2 (a0.map z07),.agg [aI (a1.fScope),aI (a1.fSpan)],aI (a2)] (zj9 r):=by
 unfold za4 at hF
 refine Con.walk _ Tryz.func166 rfl (z08 Tryz.func166 rfl rfl) rfl (Or.inr rfl) ?_
 repeat' first
  |refine AW.step ?_;conv=>whnf
  |refine z0v.o hF (fun hF=>?_) (fun hF=>?_)
  |refine IdxX.o z07 hF (fun x hF=>?_)
  |exact ⟨_,hF,LeX.a []⟩
  |refine zrs hF (LeX.a []) (fun m v hF=>?_);unfold z6w at hF
  |refine And.intro ⟨by kernel_rfl,by kernel_rfl⟩ ?_
  |exact RetX.oA hF
def zmf (a3:z0j)(k4_4_0y:(List z0p))(v5_5:Int×(List z0c)):AS:=⟨[(8,.ptr 8 0),(10,.ptr 10 0),(15,.ptr 15 0),(20,aI (v5_5.1))],[(8,.box 51 [aI (a3.fFrom),aI (a3.fTo),aI (a3.fVar),aI (a3.fType),aI (a3.fCond.fOp),.sl 8 (a3.fCond.fArgs.map idA),aI (a3.fCond.fVar),aI (a3.fCond.fField),aI (a3.fCond.fKind),aI (a3.fCond.fValue.fKind),aI (a3.fCond.fValue.fNum),.str (a3.fCond.fValue.fText),.sl 1 (a3.fOpens.map aI),.sl 1 (a3.fCloses.map aI),.sl 8 (a3.fChecks.map idA),.sl 2 (a3.fLimits.map z0r),.sl 1 (a3.fInside.map aI)]),(10,.box 77 [aI (0),.nils,.nils]),(15,.box 77 [aI (a3.fTo),.sl 4 (k4_4_0y.map z06),.sl 2 (v5_5.2.map z07)])]⟩
theorem zlu {n a3 k4_4_0y k5_5_0}:z27 E0b 167 (z4f n a3 k4_4_0y k5_5_0) (zmf a3 k4_4_0y):=LoopA.oT fun _=>rfl
def zmg (a3:z0j)(k2_2_0y:(List z0c))(x130:(List z0p))(x133:z0h)(v4_4:Int):AS:=⟨[(8,.ptr 8 0),(10,.ptr 10 0),(15,.ptr 15 0),(18,.ptr 18 0),(19,aI (v4_4))],[(8,.box 51 [aI (a3.fFrom),aI (a3.fTo),aI (a3.fVar),aI (a3.fType),aI (a3.fCond.fOp),.sl 8 (a3.fCond.fArgs.map idA),aI (a3.fCond.fVar),aI (a3.fCond.fField),aI (a3.fCond.fKind),aI (a3.fCond.fValue.fKind),aI (a3.fCond.fValue.fNum),.str (a3.fCond.fValue.fText),.sl 1 (a3.fOpens.map aI),.sl 1 (a3.fCloses.map aI),.sl 8 (a3.fChecks.map idA),.sl 2 (a3.fLimits.map z0r),.sl 1 (a3.fInside.map aI)]),(10,.box 77 [aI (0),.nils,.nils]),(15,.box 77 [aI (a3.fTo),.sl 4 (x130.map z06),.sl 2 (k2_2_0y.map z07)]),(18,.box 167 [.sl 1 (List.map (fun q=>AV.sl 5 (List.map z04 q)) (x133.fVars))])]⟩
theorem zlv {n a3 k2_2_0y x130 x133 k4_4_0}:z27 E0b 167 (z4g n a3 k2_2_0y x130 x133 k4_4_0) (zmg a3 k2_2_0y x130 x133):=LoopA.oT fun _=>rfl
def zmh (a4:z01)(a3:z0j)(a2:z00)(a1:(List z01))(k2_2_0y:(List z0c))(v3_3:Int):AS:=⟨[(1,.sl 5 (a1.map z04)),(7,.ptr 7 0),(8,.ptr 8 0),(9,.ptr 9 0),(10,.ptr 10 0),(15,.ptr 15 0),(17,aI (v3_3))],[(7,.box 77 [aI (a2.fState),.sl 4 (a2.fBindings.map z06),.sl 2 (a2.fStarts.map z07)]),(8,.box 51 [aI (a3.fFrom),aI (a3.fTo),aI (a3.fVar),aI (a3.fType),aI (a3.fCond.fOp),.sl 8 (a3.fCond.fArgs.map idA),aI (a3.fCond.fVar),aI (a3.fCond.fField),aI (a3.fCond.fKind),aI (a3.fCond.fValue.fKind),aI (a3.fCond.fValue.fNum),.str (a3.fCond.fValue.fText),.sl 1 (a3.fOpens.map aI),.sl 1 (a3.fCloses.map aI),.sl 8 (a3.fChecks.map idA),.sl 2 (a3.fLimits.map z0r),.sl 1 (a3.fInside.map aI)]),(9,.box 66 [aI (a4.fSource),aI (a4.fSeq),aI (a4.fType),aI (a4.fTime),.sl 3 (a4.fValues.map z0a)]),(10,.box 77 [aI (0),.nils,.nils]),(15,.box 77 [aI (a3.fTo),.nils,.sl 2 (k2_2_0y.map z07)])]⟩
theorem zlw {n a4 a3 a2 a1 k2_2_0y k3_3_0}:z27 E0b 167 (z4h n a4 a3 a2 a1 k2_2_0y k3_3_0) (zmh a4 a3 a2 a1 k2_2_0y):=LoopA.oT fun _=>rfl
end Go.Proofs.YtjpknpjjcddnnaaGreat
