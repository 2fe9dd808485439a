/- What some functions compute, over plain values. Printed by a program of mine (gen_fun.lean). -/
import Derived.Test.YtjpknpjjcddnnaaGreatK32
set_option linter.unusedVariables false
set_option linter.unusedSimpArgs false
set_option maxRecDepth 100000
set_option maxHeartbeats 8000000
namespace Go.Proofs.YtjpknpjjcddnnaaGreat
open Go.RowKit
theorem zpx {n x5 x23}:z57 E0 108 (z1d n x5 x23) (zrd x5 x23):=AW.jT
def zik (r:Bool):AV:=.bool (r)
theorem zsy {n r}(hF:z4a n=some r):Con E0 true 8 [] (zik r):=by
 unfold z4a at hF
 refine Con.walk _ Tryz.func8 rfl (z08 Tryz.func8 rfl rfl) rfl (Or.inr rfl) ?_
 repeat' first
  |refine zpw hF (fun hF=>?_) (fun v hF=>?_);rotate_left;unfold z6b at hF
  |refine zpx hF (fun hF=>?_) (fun v hF=>?_);rotate_left;unfold z1d at hF
  |refine AW.regO hF (fun hF=>?_)
  |refine AW.frzO hF 23000000 rfl (fun hF=>?_)
  |refine AW.frzO hF 23000001 rfl (fun hF=>?_)
  |refine AW.frzO hF 44000000 rfl (fun hF=>?_)
  |refine AW.frzO hF 44000001 rfl (fun hF=>?_)
  |refine AW.stepU [5,8,9,11] ?_;conv=>whnf
  |refine z0v.o hF (fun hF=>?_) (fun hF=>?_)
  |refine z0v.t ?_
  |refine z0m.o hF zen (fun a h=>zgm h) (fun a hF=>?_)
  |refine z0m.o hF zgs (fun a h=>zo7 h) (fun a hF=>?_)
  |refine z0m.o hF y1u (fun a h=>y0m h) (fun a hF=>?_)
  |refine z0m.oM (zdj 22 hF) [] [(261002,23000000),(261003,23000001),(0,23000002)] _ _ z5w z8j [] (fun a h=>ConG.up (zd3 h)) (z08 Tryz.func37 rfl rfl) rfl rfl rfl trivial (fun a=>⟨rfl,rfl,rfl,rfl,rfl,rfl,rfl,rfl⟩) (fun a hF=>?_)
  |refine NatX.o hF (fun m hF=>?_)
  |refine LtX.o hF (fun hF=>?_)
  |refine EltX.o z0d hF (fun x hF=>?_)
  |refine SetX.o z0c hF (fun x=>rfl) (fun x=>(by first|exact SubL.refl _|(repeat' first|exact SubL.nil|refine SubL.cons ?_ ?_|exact Sub.refl _|exact Sub.nil _|refine Sub.agg ?_))) (fun l hF=>?_)
  |refine z0m.o hF y1v (fun a h=>con_run_Matches h) (fun a hF=>?_)
  |refine z0m.oM (zdj 43 hF) [] [(261002,44000000),(261003,44000001),(0,44000002)] _ _ z5w z8j [] (fun a h=>ConG.up (zd3 h)) (z08 Tryz.func37 rfl rfl) rfl rfl rfl trivial (fun a=>⟨rfl,rfl,rfl,rfl,rfl,rfl,rfl,rfl⟩) (fun a hF=>?_)
  |refine SetX.o z0d hF (fun x=>rfl) (fun x=>(by first|exact SubL.refl _|(repeat' first|exact SubL.nil|refine SubL.cons ?_ ?_|exact Sub.refl _|exact Sub.nil _|refine Sub.agg ?_))) (fun l hF=>?_)
  |refine z0m.o hF zjh (fun a h=>zve h) (fun a hF=>?_)
  |refine z0m.o hF zfj (fun a h=>zha h) (fun a hF=>?_)
  |exact ⟨_,hF,LeX.a []⟩
  |exact ⟨_,hF,LeX.a []⟩
  |refine IdxX.o z0e hF (fun x hF=>?_)
  |refine And.intro ⟨by kernel_rfl,by kernel_rfl⟩ ?_
  |exact RetX.oA hF
def ztc (a1:(List z00))(a0:(List z00))(v1_0:Int):AS:=⟨[(0,.sl 3 (a0.map z0e)),(1,.sl 3 (a1.map z0e)),(5,aI (v1_0))],[]⟩
theorem zrt {n a1 a0 k1_0_0}:z26 E0 27 (z6v n a1 a0 k1_0_0) (ztc a1 a0):=LoopA.oT fun _=>rfl
def zj8 (r:Bool):AV:=.bool (r)
theorem zv4 {n a0 a1 r}(hF:za1 n a0 a1=some r):Con E0 true 12 [.sl 3 (a0.map z0e),.sl 3 (a1.map z0e)] (zj8 r):=by
 unfold za1 at hF
 refine Con.walk _ Tryz.func12 rfl (z08 Tryz.func12 rfl rfl) rfl (Or.inr rfl) ?_
 repeat' first
  |refine AW.step ?_;conv=>whnf
  |refine z0v.o hF (fun hF=>?_) (fun hF=>?_)
  |refine IdxX.o z0e hF (fun x hF=>?_)
  |refine z0m.o hF zdm (fun a h=>zfp h) (fun a hF=>?_)
  |exact ⟨_,hF,LeX.a []⟩
  |refine zrt hF (LeX.a []) (fun m v hF=>?_);unfold z6v at hF
  |refine And.intro ⟨by kernel_rfl,by kernel_rfl⟩ ?_
  |exact RetX.oA hF
def zw1 (w1_0:Bool):AS:=⟨[(2,.bool (w1_0))],[]⟩
theorem zur {n}:z57 E0 11 (z5r n) zw1:=AW.jT
def zfz (r:Bool):AV:=.bool (r)
theorem zi4 {n a0 r}(hF:z83 n a0=some r):Con E0 true 65 [.agg [aI (a0.fOp),.sl 8 (a0.fArgs.map idA),aI (a0.fVar),aI (a0.fField),aI (a0.fKind),aI (a0.fValue.fKind),aI (a0.fValue.fNum),.str (a0.fValue.fText)]] (zfz r):=by
 unfold z83 at hF
 refine Con.walk _ Tryz.func65 rfl (z08 Tryz.func65 rfl rfl) rfl (Or.inr rfl) ?_
 repeat' first
  |refine zur hF (fun hF=>?_) (fun v hF=>?_);rotate_left;unfold z5r at hF
  |refine AW.regO hF (fun hF=>?_)
  |refine AW.stepU [1] ?_;conv=>whnf
  |refine z0v.o hF (fun hF=>?_) (fun hF=>?_)
  |refine z0m.o hF zbk (fun a h=>zgi h) (fun a hF=>?_)
  |refine z0m.o hF zbj (fun a h=>zgh h) (fun a hF=>?_)
  |exact ⟨_,hF,LeX.a []⟩
  |exact RetX.oA hF
def zvt (a0:(List z0j))(v1_0:Int):AS:=⟨[(0,.sl 11 (a0.map z0q)),(3,aI (v1_0))],[]⟩
theorem zuj {n a0 k1_0_0}:z26 E0 17 (z7m n a0 k1_0_0) (zvt a0):=LoopA.oT fun _=>rfl
def zl6 (r:Bool):AV:=.bool (r)
theorem zx1 {n a0 r}(hF:zau n a0=some r):Con E0 true 64 [.sl 11 (a0.map z0q)] (zl6 r):=by
 unfold zau at hF
 refine Con.walk _ Tryz.func64 rfl (z08 Tryz.func64 rfl rfl) rfl (Or.inr rfl) ?_
 repeat' first
  |refine AW.step ?_;conv=>whnf
  |refine z0v.o hF (fun hF=>?_) (fun hF=>?_)
  |refine IdxX.o z0q hF (fun x hF=>?_)
  |refine z0m.o hF zfz (fun a h=>zi4 h) (fun a hF=>?_)
  |exact ⟨_,hF,LeX.a []⟩
  |refine zuj hF (LeX.a []) (fun m v hF=>?_);unfold z7m at hF
  |exact RetX.oA hF
def zvx (w9_2:Bool):AS:=⟨[(2,.bool (w9_2))],[]⟩
theorem zun {n}:z57 E0 130 (z5o n) zvx:=AW.jT
def zvu (a0:z05)(v2_1:Int)(x83:z0h)(v3_5:Int):AS:=⟨[(1,.ptr 1 0),(4,aI (v2_1)),(5,.ptr 5 0),(6,aI (v3_5))],[(1,.box 25 [aI (a0.fVars),aI (a0.fScopes),.sl 1 (a0.fStates.map z0c),.sl 17 (a0.fEdges.map z0d)]),(5,.box 51 [aI (x83.fFrom),aI (x83.fTo),aI (x83.fVar),aI (x83.fType),aI (x83.fCond.fOp),.sl 8 (x83.fCond.fArgs.map idA),aI (x83.fCond.fVar),aI (x83.fCond.fField),aI (x83.fCond.fKind),aI (x83.fCond.fValue.fKind),aI (x83.fCond.fValue.fNum),.str (x83.fCond.fValue.fText),.sl 1 (x83.fOpens.map aI),.sl 1 (x83.fCloses.map aI),.sl 8 (x83.fChecks.map idA),.sl 2 (x83.fLimits.map z0p),.sl 1 (x83.fInside.map aI)])]⟩
theorem zuk {n a0 v2_1 x83 k3_5_0}:z26 E0 130 (z7n n a0 v2_1 x83 k3_5_0) (zvu a0 v2_1 x83):=LoopA.oT fun _=>rfl
def zti (a0:z05)(v2_1:Int)(cv2_1:Int->Option (Bool))(x83:z0h)(w11_4:Bool):AS:=⟨[(1,.ptr 1 0),(4,aI (v2_1)),(5,.ptr 5 0),(105,.bool (w11_4))],[(1,.box 25 [aI (a0.fVars),aI (a0.fScopes),.sl 1 (a0.fStates.map z0c),.sl 17 (a0.fEdges.map z0d)]),(5,.box 51 [aI (x83.fFrom),aI (x83.fTo),aI (x83.fVar),aI (x83.fType),aI (x83.fCond.fOp),.sl 8 (x83.fCond.fArgs.map idA),aI (x83.fCond.fVar),aI (x83.fCond.fField),aI (x83.fCond.fKind),aI (x83.fCond.fValue.fKind),aI (x83.fCond.fValue.fNum),.str (x83.fCond.fValue.fText),.sl 1 (x83.fOpens.map aI),.sl 1 (x83.fCloses.map aI),.sl 8 (x83.fChecks.map idA),.sl 2 (x83.fLimits.map z0p),.sl 1 (x83.fInside.map aI)])]⟩
theorem zrz {n a0 v2_1 cv2_1 x83}:z57 E0 130 (z1i n a0 v2_1 cv2_1 x83) (zti a0 v2_1 cv2_1 x83):=AW.jT
def ztj (a0:z05)(v2_1:Int)(k2_1_0:Option (Bool))(cv2_1:Int->Option (Bool))(w10_3:Bool):AS:=⟨[(1,.ptr 1 0),(4,aI (v2_1)),(64,.bool (w10_3))],[(1,.box 25 [aI (a0.fVars),aI (a0.fScopes),.sl 1 (a0.fStates.map z0c),.sl 17 (a0.fEdges.map z0d)])]⟩
theorem zs0 {n a0 v2_1 k2_1_0 cv2_1}:z57 E0 130 (z4v n a0 v2_1 k2_1_0 cv2_1) (ztj a0 v2_1 k2_1_0 cv2_1):=AW.jT
def zvv (a0:z05)(v2_1:Int):AS:=⟨[(1,.ptr 1 0),(4,aI (v2_1))],[(1,.box 25 [aI (a0.fVars),aI (a0.fScopes),.sl 1 (a0.fStates.map z0c),.sl 17 (a0.fEdges.map z0d)])]⟩
theorem zul {n a0 k2_1_0}:z26 E0 130 (z3q n a0 k2_1_0) (zvv a0):=LoopA.oT fun _=>rfl
def ztg (a0:z05)(v1_0:Int)(cv1_0:Int->Option (Bool))(w13_7:Bool):AS:=⟨[(1,.ptr 1 0),(3,aI (v1_0)),(55,.bool (w13_7))],[(1,.box 25 [aI (a0.fVars),aI (a0.fScopes),.sl 1 (a0.fStates.map z0c),.sl 17 (a0.fEdges.map z0d)])]⟩
theorem zrx {n a0 v1_0 cv1_0}:z57 E0 130 (z1r n a0 v1_0 cv1_0) (ztg a0 v1_0 cv1_0):=AW.jT
def zth (a0:z05)(v1_0:Int)(k1_0_0:Option (Bool))(cv1_0:Int->Option (Bool))(w12_6:Bool):AS:=⟨[(1,.ptr 1 0),(3,aI (v1_0)),(15,.bool (w12_6))],[(1,.box 25 [aI (a0.fVars),aI (a0.fScopes),.sl 1 (a0.fStates.map z0c),.sl 17 (a0.fEdges.map z0d)])]⟩
theorem zry {n a0 v1_0 k1_0_0 cv1_0}:z57 E0 130 (z4u n a0 v1_0 k1_0_0 cv1_0) (zth a0 v1_0 k1_0_0 cv1_0):=AW.jT
def zvw (a0:z05)(v1_0:Int):AS:=⟨[(1,.ptr 1 0),(3,aI (v1_0))],[(1,.box 25 [aI (a0.fVars),aI (a0.fScopes),.sl 1 (a0.fStates.map z0c),.sl 17 (a0.fEdges.map z0d)])]⟩
theorem zum {n a0 k1_0_0}:z26 E0 130 (z3r n a0 k1_0_0) (zvw a0):=LoopA.oT fun _=>rfl
def zl7 (r:Bool):AV:=.bool (r)
theorem zx2 {n a0 r}(hF:zav n a0=some r):Con E0 true 32 [.agg [aI (a0.fVars),aI (a0.fScopes),.sl 1 (a0.fStates.map z0c),.sl 17 (a0.fEdges.map z0d)]] (zl7 r):=by
 unfold zav at hF
 refine Con.walk _ Tryz.func32 rfl (z08 Tryz.func32 rfl rfl) rfl (Or.inr rfl) ?_
 repeat' first
  |refine zun hF (fun hF=>?_) (fun v hF=>?_);rotate_left;unfold z5o at hF
  |refine zrz hF (fun hF=>?_) (fun v hF=>?_);rotate_left;unfold z1i at hF
  |refine zs0 hF (fun hF=>?_) (fun v hF=>?_);rotate_left;unfold z4v at hF
  |refine zrx hF (fun hF=>?_) (fun v hF=>?_);rotate_left;unfold z1r at hF
  |refine zry hF (fun hF=>?_) (fun v hF=>?_);rotate_left;unfold z4u at hF
  |refine AW.regO hF (fun hF=>?_)
  |refine AW.stepU [2,4,7,10,17] ?_;conv=>whnf
  |refine z0v.o hF (fun hF=>?_) (fun hF=>?_)
  |refine z0v.t ?_
  |refine z0v.f ?_
  |exact ⟨_,hF,LeX.a []⟩
  |refine IdxX.o z0d hF (fun x hF=>?_)
  |exact ⟨_,hF,LeX.a []⟩
  |refine IdxX.oD hF z6r (fun x hF=>?_)
  |refine z0m.o hF zfz (fun a h=>zi4 h) (fun a hF=>?_)
  |exact ⟨_,hF,LeX.a []⟩
  |refine zuk hF (LeX.a []) (fun m v hF=>?_);unfold z7n at hF
  |exact ⟨_,hF,LeX.a []⟩
  |refine zul hF (LeX.a []) (fun m v hF=>?_);unfold z3q at hF
  |refine IdxX.o z0c hF (fun x hF=>?_)
  |refine z0m.o hF zl6 (fun a h=>zx1 h) (fun a hF=>?_)
  |refine zum hF (LeX.a []) (fun m v hF=>?_);unfold z3r at hF
  |exact RetX.oA hF
def zw6 (a0:(List z02))(v1_0:Int):AS:=⟨[(0,.sl 3 (a0.map z06)),(3,aI (v1_0))],[]⟩
theorem zuw {n a0 k1_0_0}:z26 E0 24 (z7t n a0 k1_0_0) (zw6 a0):=LoopA.oT fun _=>rfl
def zlc (r:Bool):AV:=.bool (r)
theorem zx7 {n a0 r}(hF:zb0 n a0=some r):Con E0 true 66 [.sl 3 (a0.map z06)] (zlc r):=by
 unfold zb0 at hF
 refine Con.walk _ Tryz.func66 rfl (z08 Tryz.func66 rfl rfl) rfl (Or.inr rfl) ?_
 repeat' first
  |refine AW.step ?_;conv=>whnf
  |refine z0v.o hF (fun hF=>?_) (fun hF=>?_)
  |refine z0v.f ?_
  |refine IdxX.o z06 hF (fun x hF=>?_)
  |exact ⟨_,hF,LeX.a []⟩
  |refine zuw hF (LeX.a []) (fun m v hF=>?_);unfold z7t at hF
  |exact RetX.oA hF
def zw5 (a0:(List z01))(v1_0:Int):AS:=⟨[(0,.sl 5 (a0.map z04)),(3,aI (v1_0))],[]⟩
theorem zuv {n a0 k1_0_0}:z26 E0 33 (z7s n a0 k1_0_0) (zw5 a0):=LoopA.oT fun _=>rfl
def zlb (r:Bool):AV:=.bool (r)
theorem zx6 {n a0 r}(hF:zaz n a0=some r):Con E0 true 33 [.sl 5 (a0.map z04)] (zlb r):=by
 unfold zaz at hF
 refine Con.walk _ Tryz.func33 rfl (z08 Tryz.func33 rfl rfl) rfl (Or.inr rfl) ?_
 repeat' first
  |refine AW.step ?_;conv=>whnf
  |refine z0v.o hF (fun hF=>?_) (fun hF=>?_)
  |refine z0v.t ?_
  |refine z0v.f ?_
  |refine IdxX.o z04 hF (fun x hF=>?_)
  |refine z0m.o hF zlc (fun a h=>zx7 h) (fun a hF=>?_)
  |exact ⟨_,hF,LeX.a []⟩
  |refine zuv hF (LeX.a []) (fun m v hF=>?_);unfold z7s at hF
  |exact RetX.oA hF
def ze5 (r:Bool):AV:=.bool (r)
theorem zg4 {n a0 r}(hF:z7q n a0=some r):Con E0 true 48 [.agg [aI (a0.fSource),aI (a0.fSeq),aI (a0.fType),aI (a0.fTime),.sl 3 (a0.fValues.map z06)]] (ze5 r):=by
 unfold z7q at hF
 refine Con.walk _ Tryz.func48 rfl (z08 Tryz.func48 rfl rfl) rfl (Or.inr rfl) ?_
 repeat' first
  |refine AW.step ?_;conv=>whnf
  |refine z0v.o hF (fun hF=>?_) (fun hF=>?_)
  |refine z0v.f ?_
  |exact RetX.oA hF
def zfm (r:Bool):AV:=.bool (r)
theorem zhc {n a0 a1 r}(hF:z7b n a0 a1=some r):Con E0 true 51 [.agg [aI (a0.fSource),aI (a0.fSeq),aI (a0.fType),aI (a0.fTime),.sl 3 (a0.fValues.map z06)],.agg [aI (a1.fSource),aI (a1.fSeq),aI (a1.fType),aI (a1.fTime),.sl 3 (a1.fValues.map z06)]] (zfm r):=by
 unfold z7b at hF
 refine Con.walk _ Tryz.func51 rfl (z08 Tryz.func51 rfl rfl) rfl (Or.inr rfl) ?_
 repeat' first
  |refine AW.step ?_;conv=>whnf
  |refine z0v.o hF (fun hF=>?_) (fun hF=>?_)
  |exact RetX.oA hF
def zra (a0:(List z01))(v1_0:Int)(v2_1:Int):AS:=⟨[(0,.sl 5 (a0.map z04)),(3,aI (v1_0)),(4,aI (v2_1))],[]⟩
theorem zpu {n a0 v1_0 k2_1_0}:z26 E0 51 (z6a n a0 v1_0 k2_1_0) (zra a0 v1_0):=LoopA.oT fun _=>rfl
def zr9 (a0:(List z01))(v1_0:Int)(v3_2:Int):AS:=⟨[(0,.sl 5 (a0.map z04)),(3,aI (v1_0)),(4,aI (v3_2))],[]⟩
theorem zpt {n a0 v1_0 k3_2_0}:z26 E0 51 (z69 n a0 v1_0 k3_2_0) (zr9 a0 v1_0):=LoopA.oT fun _=>rfl
def zrb (a0:(List z01))(v1_0:Int):AS:=⟨[(0,.sl 5 (a0.map z04)),(3,aI (v1_0))],[]⟩
end Go.Proofs.YtjpknpjjcddnnaaGreat
namespace Go.Proofs.YtjpknpjjcddnnaaGreat
open Go.RowKit
theorem zpv {n a0 k1_0_0}:z26 E0 51 (z1y n a0 k1_0_0) (zrb a0):=LoopA.oT fun _=>rfl
def zbo (r:Int):AV:=aI (r)
theorem zdg {n a0 r}(hF:z6m n a0=some r):Con E0 true 15 [.sl 5 (a0.map z04)] (zbo r):=by
 unfold z6m at hF
 refine Con.walk _ Tryz.func15 rfl (z08 Tryz.func15 rfl rfl) rfl (Or.inr rfl) ?_
 repeat' first
  |refine AW.step ?_;conv=>whnf
  |refine z0v.o hF (fun hF=>?_) (fun hF=>?_)
  |refine z0v.f ?_
  |refine IdxX.o z04 hF (fun x hF=>?_)
  |refine z0m.o hF ze5 (fun a h=>zg4 h) (fun a hF=>?_)
  |refine z0m.o hF z7z (fun a h=>z85 h) (fun a hF=>?_)
  |refine z0m.o hF zbn (fun a h=>zdf h) (fun a hF=>?_)
  |exact ⟨_,hF,LeX.a []⟩
  |refine z0m.o hF zfm (fun a h=>zhc h) (fun a hF=>?_)
  |exact ⟨_,hF,LeX.a []⟩
  |refine zpu hF (LeX.a []) (fun m v hF=>?_);unfold z6a at hF
  |refine zpt hF (LeX.a []) (fun m v hF=>?_);unfold z69 at hF
  |refine zpv hF (LeX.a []) (fun m v hF=>?_);unfold z1y at hF
  |refine And.intro ⟨by kernel_rfl,by kernel_rfl⟩ ?_
  |exact RetX.oA hF
def zj7 (r:Int):AV:=aI (r)
theorem zv3 {n a0 a1 r}(hF:z1k n a0 a1=some r):Con E0 true 34 [.agg [aI (a0.fVars),aI (a0.fScopes),.sl 1 (a0.fStates.map z0c),.sl 17 (a0.fEdges.map z0d)],.sl 5 (a1.map z04)] (zj7 r):=by
 unfold z1k at hF
 refine Con.walk _ Tryz.func34 rfl (z08 Tryz.func34 rfl rfl) rfl (Or.inr rfl) ?_
 repeat' first
  |refine AW.step ?_;conv=>whnf
  |refine z0v.o hF (fun hF=>?_) (fun hF=>?_)
  |refine z0m.o hF zei (fun a h=>zgg h) (fun a hF=>?_)
  |refine z0m.o hF zbo (fun a h=>zdg h) (fun a hF=>?_)
  |exact RetX.oA hF
def zid (r:z00):AV:=.agg [aI (r.fState),.sl 4 (r.fBindings.map z0a),.sl 2 (r.fStarts.map z09)]
theorem zsq {n r}(hF:zbv n=some r):Con E0 false 67 [] (zid r):=by
 unfold zbv at hF
 refine Con.walk _ Tryz.func67 rfl (z08 Tryz.func67 rfl rfl) rfl (Or.inl rfl) ?_
 repeat' first
  |refine AW.step ?_;conv=>whnf
  |exact RetX.oA hF
def zqt (a1:z1g)(a0:(List z01))(v1_0:Int):AS:=⟨[(0,.sl 5 (a0.map z04)),(3,.ptr 3 0),(4,.ptr 4 0),(6,aI (v1_0))],[(3,.box 108 [aI (a1.fTime),aI (a1.fSource),aI (a1.fSeq)]),(4,.box 66 [aI (0),aI (0),aI (0),aI (0),.nils])]⟩
theorem zpd {n a1 a0 k1_0_0}:z26 E0 25 (z65 n a1 a0 k1_0_0) (zqt a1 a0):=LoopA.oT fun _=>rfl
def zig (r:z01×Bool):AV:=.tup [.agg [aI (r.1.fSource),aI (r.1.fSeq),aI (r.1.fType),aI (r.1.fTime),.sl 3 (r.1.fValues.map z06)],.bool (r.2)]
theorem zst {n a0 a1 r}(hF:z9o n a0 a1=some r):Con E0 false 205 [.sl 5 (a0.map z04),.agg [aI (a1.fTime),aI (a1.fSource),aI (a1.fSeq)]] (zig r):=by
 unfold z9o at hF
 refine Con.walk _ Tryz.func205 rfl (z08 Tryz.func205 rfl rfl) rfl (Or.inl rfl) ?_
 repeat' first
  |refine AW.step ?_;conv=>whnf
  |refine z0v.o hF (fun hF=>?_) (fun hF=>?_)
  |refine IdxX.o z04 hF (fun x hF=>?_)
  |refine z0m.o hF z7z (fun a h=>z85 h) (fun a hF=>?_)
  |exact ⟨_,hF,LeX.a []⟩
  |refine zpd hF (LeX.a []) (fun m v hF=>?_);unfold z65 at hF
  |refine And.intro ⟨by kernel_rfl,by kernel_rfl⟩ ?_
  |refine EqX.mk (by first|rfl|kernel_rfl) ?_
  |exact RetX.oA hF
def zqu (a2:(List z0u))(a1:Int)(a0:(List z01))(x1:Nat)(v1_0:Int×(List (List z01))):AS:=⟨[(0,.sl 5 (a0.map z04)),(1,aI (a1)),(2,.sl 4 (a2.map z0a)),(6,.ptr 6 0),(7,.ptr 7 0),(8,aI (v1_0.1))],[(6,.box 167 [.nils]),(7,.box 167 [.cont (x1) 13]),(13,.nest 26 (List.map (enR z04 66 5) (v1_0.2)))]⟩
theorem zpe {n a2 a1 a0 x1 k1_0_0}:z26 E0 59 (z1m n a2 a1 a0 x1 k1_0_0) (zqu a2 a1 a0 x1):=LoopA.oT fun _=>rfl
def zih (r:z0i):AV:=.agg [.sl 1 (List.map (fun q=>AV.sl 5 (List.map z04 q)) (r.fVars))]
theorem zsu {n a0 a1 a2 r}(hF:zbw n a0 a1 a2=some r):Con E0 false 193 [.sl 5 (a0.map z04),aI (a1),.sl 4 (a2.map z0a)] (zih r):=by
 unfold zbw at hF
 refine Con.walk _ Tryz.func193 rfl (z08 Tryz.func193 rfl rfl) rfl (Or.inl rfl) ?_
 repeat' first
  |refine AW.nstO (er:=z04) 66 5 hF 13 rfl (fun hF=>?_)
  |refine AW.frrO (ety:=66) (sz:=5) z04 hF 13 rfl (fun hF=>?_)
  |refine AW.regO hF (fun hF=>?_)
  |refine AW.stepU [9,7,2] ?_;conv=>whnf
  |refine z0v.o hF (fun hF=>?_) (fun hF=>?_)
  |refine z0v.f ?_
  |refine MakX.on hF (fun m hF=>?_)
  |refine IdxX.o z0a hF (fun x hF=>?_)
  |refine z0m.o hF zig (fun a h=>zst h) (fun a hF=>?_)
  |refine OpX.ixc hF rfl rfl rfl rfl rfl rfl rfl rfl (fun hF=>?_)
  |refine OpX.ntk z04 hF rfl rfl rfl rfl rfl rfl rfl rfl rfl rfl (fun q hF=>?_)
  |refine AppX.o z04 hF (by first|exact SubR.refl _|(repeat' first|exact SubR.nil|refine SubR.cons ?_ ?_|exact SubL.nil|refine SubL.cons ?_ ?_|exact Sub.refl _|exact Sub.nil _)) (fun l hF=>?_)
  |refine OpX.npt z04 hF rfl rfl rfl rfl rfl rfl rfl rfl rfl rfl rfl (fun l hF=>?_)
  |exact ⟨_,hF,LeX.a []⟩
  |refine zpe hF (LeX.a []) (fun m v hF=>?_);unfold z1m at hF
  |refine And.intro ⟨by kernel_rfl,by kernel_rfl⟩ ?_
  |refine EqX.mk (by first|rfl|kernel_rfl) ?_
  |exact RetX.oA hF
def zdl (r:z0i):AV:=.agg [.sl 1 (List.map (fun q=>AV.sl 5 (List.map z04 q)) (r.fVars))]
theorem zeg {n a0 a1 r}(hF:z81 n a0 a1=some r):Con E0 false 161 [.sl 5 (a0.map z04),.agg [aI (a1.fState),.sl 4 (a1.fBindings.map z0a),.sl 2 (a1.fStarts.map z09)]] (zdl r):=by
 unfold z81 at hF
 refine Con.walk _ Tryz.func161 rfl (z08 Tryz.func161 rfl rfl) rfl (Or.inl rfl) ?_
 repeat' first
  |refine AW.step ?_;conv=>whnf
  |refine z0m.o hF zih (fun a h=>zsu h) (fun a hF=>?_)
  |exact RetX.oA hF
def zkv (w1_0:Bool):AS:=⟨[(6,.bool (w1_0))],[]⟩
theorem zk5 {n}:z57 E0 21 (z2j n) zkv:=AW.jT
def zcp (r:Bool):AV:=.bool (r)
theorem zfa {n a0 a1 a2 r}(hF:z60 n a0 a1 a2=some r):Con E0 true 162 [.agg [aI (a0.fScope),aI (a0.fType),aI (a0.fVar),aI (a0.fCond.fOp),.sl 8 (a0.fCond.fArgs.map idA),aI (a0.fCond.fVar),aI (a0.fCond.fField),aI (a0.fCond.fKind),aI (a0.fCond.fValue.fKind),aI (a0.fCond.fValue.fNum),.str (a0.fCond.fValue.fText)],.agg [.sl 1 (List.map (fun q=>AV.sl 5 (List.map z04 q)) (a1.fVars))],.agg [aI (a2.fSource),aI (a2.fSeq),aI (a2.fType),aI (a2.fTime),.sl 3 (a2.fValues.map z06)]] (zcp r):=by
 unfold z60 at hF
 refine Con.walk _ Tryz.func162 rfl (z08 Tryz.func162 rfl rfl) rfl (Or.inr rfl) ?_
 repeat' first
  |refine zk5 hF (fun hF=>?_) (fun v hF=>?_);rotate_left;unfold z2j at hF
  |refine AW.regO hF (fun hF=>?_)
  |refine AW.stepU [1] ?_;conv=>whnf
  |refine z0v.o hF (fun hF=>?_) (fun hF=>?_)
  |refine z0m.o hF zbi (fun a h=>zdc h) (fun a hF=>?_)
  |exact ⟨_,hF,LeX.a []⟩
  |exact RetX.oA hF
def zql (a3:z01)(x1:z0i)(x2:z2r)(v1_0:Int):AS:=⟨[(7,.ptr 7 0),(9,.ptr 9 0),(10,.sl 11 (x2.fGuards.map z0q)),(11,aI (v1_0))],[(7,.box 66 [aI (a3.fSource),aI (a3.fSeq),aI (a3.fType),aI (a3.fTime),.sl 3 (a3.fValues.map z06)]),(9,.box 167 [.sl 1 (List.map (fun q=>AV.sl 5 (List.map z04 q)) (x1.fVars))])]⟩
theorem zp5 {n a3 x1 x2 k1_0_0}:z26 E0 35 (z61 n a3 x1 x2 k1_0_0) (zql a3 x1 x2):=LoopA.oT fun _=>rfl
def zic (r:Bool):AV:=.bool (r)
theorem zsp {n a0 a1 a2 a3 r}(hF:z9m n a0 a1 a2 a3=some r):Con E0 true 120 [.agg [aI (a0.fVars),aI (a0.fScopes),.sl 1 (a0.fStates.map z0c),.sl 17 (a0.fEdges.map z0d)],.sl 5 (a1.map z04),.agg [aI (a2.fState),.sl 4 (a2.fBindings.map z0a),.sl 2 (a2.fStarts.map z09)],.agg [aI (a3.fSource),aI (a3.fSeq),aI (a3.fType),aI (a3.fTime),.sl 3 (a3.fValues.map z06)]] (zic r):=by
 unfold z9m at hF
 refine Con.walk _ Tryz.func120 rfl (z08 Tryz.func120 rfl rfl) rfl (Or.inr rfl) ?_
 repeat' first
  |refine AW.step ?_;conv=>whnf
  |refine z0v.o hF (fun hF=>?_) (fun hF=>?_)
  |refine z0m.o hF zdl (fun a h=>zeg h) (fun a hF=>?_)
  |refine IdxX.o z0c hF (fun x hF=>?_)
  |refine IdxX.o z0q hF (fun x hF=>?_)
  |refine z0m.o hF zcp (fun a h=>zfa h) (fun a hF=>?_)
  |exact ⟨_,hF,LeX.a []⟩
  |refine zp5 hF (LeX.a []) (fun m v hF=>?_);unfold z61 at hF
  |refine And.intro ⟨by kernel_rfl,by kernel_rfl⟩ ?_
  |exact RetX.oA hF
def ztf (a1:Int)(a0:z05)(v1_0:Int×(List z0h)):AS:=⟨[(1,aI (a1)),(2,.ptr 2 0),(5,.row 7029),(6,aI (v1_0.1))],[(2,.box 25 [aI (a0.fVars),aI (a0.fScopes),.sl 1 (a0.fStates.map z0c),.sl 17 (a0.fEdges.map z0d)]),(7029,.row 51 17 (v1_0.2.map z0d))]⟩
theorem zrw {n a1 a0 k1_0_0}:z26 E0 31 (z4t n a1 a0 k1_0_0) (ztf a1 a0):=LoopA.oT fun _=>rfl
def zja (r:(List z0h)):AV:=.sl 17 (r.map z0d)
theorem zv6 {n a0 a1 r}(hF:za3 n a0 a1=some r):Con E0 false 121 [.agg [aI (a0.fVars),aI (a0.fScopes),.sl 1 (a0.fStates.map z0c),.sl 17 (a0.fEdges.map z0d)],aI (a1)] (zja r):=by
 unfold za3 at hF
 refine Con.walk _ Tryz.func121 rfl (z08 Tryz.func121 rfl rfl) rfl (Or.inl rfl) ?_
 repeat' first
  |refine AW.regO hF (fun hF=>?_)
  |refine AW.stepU [5] ?_;conv=>whnf
  |refine z0v.o hF (fun hF=>?_) (fun hF=>?_)
  |refine IdxX.o z0d hF (fun x hF=>?_)
  |refine AppX.o z0d hF (by first|exact SubR.refl _|(repeat' first|exact SubR.nil|refine SubR.cons ?_ ?_|exact SubL.nil|refine SubL.cons ?_ ?_|exact Sub.refl _|exact Sub.nil _)) (fun l hF=>?_)
  |exact ⟨_,hF,LeX.a [(7029,29)]⟩
  |exact ⟨_,hF,LeX.a []⟩
  |refine zrw hF (LeX.trans (LeX.adopt 5 7029 51 17 rfl rfl) (LeX.a [])) (fun m v hF=>?_);unfold z4t at hF
  |exact RetX.oA hF
def zvj (a1:Int)(a0:(List Int))(v1_0:Int):AS:=⟨[(0,.sl 1 (a0.map aI)),(1,aI (a1)),(5,aI (v1_0))],[]⟩
theorem zu9 {n a1 a0 k1_0_0}:z26 E0 18 (z7f n a1 a0 k1_0_0) (zvj a1 a0):=LoopA.oT fun _=>rfl
def zl3 (r:Bool):AV:=.bool (r)
theorem zwy {n a0 a1 r}(hF:zar n a0 a1=some r):Con E0 true 163 [.sl 1 (a0.map aI),aI (a1)] (zl3 r):=by
 unfold zar at hF
 refine Con.walk _ Tryz.func163 rfl (z08 Tryz.func163 rfl rfl) rfl (Or.inr rfl) ?_
 repeat' first
  |refine AW.step ?_;conv=>whnf
  |refine z0v.o hF (fun hF=>?_) (fun hF=>?_)
  |refine IdxX.o aI hF (fun x hF=>?_)
  |exact ⟨_,hF,LeX.a []⟩
  |refine zu9 hF (LeX.a []) (fun m v hF=>?_);unfold z7f at hF
  |exact RetX.oA hF
def zom (a1:Int)(a0:(List z0b))(v1_0:Int×(List z0b)):AS:=⟨[(0,.sl 2 (a0.map z09)),(1,aI (a1)),(5,.row 7026),(6,aI (v1_0.1))],[(7026,.row 120 2 (v1_0.2.map z09))]⟩
theorem zno {n a1 a0 k1_0_0}:z26 E0 28 (z3a n a1 a0 k1_0_0) (zom a1 a0):=LoopA.oT fun _=>rfl
def ze3 (r:(List z0b)):AV:=.sl 2 (r.map z09)
theorem zg2 {n a0 a1 r}(hF:z7g n a0 a1=some r):Con E0 false 167 [.sl 2 (a0.map z09),aI (a1)] (ze3 r):=by
 unfold z7g at hF
 refine Con.walk _ Tryz.func167 rfl (z08 Tryz.func167 rfl rfl) rfl (Or.inl rfl) ?_
 repeat' first
  |refine AW.regO hF (fun hF=>?_)
  |refine AW.stepU [5] ?_;conv=>whnf
  |refine z0v.o hF (fun hF=>?_) (fun hF=>?_)
  |refine IdxX.o z09 hF (fun x hF=>?_)
  |refine AppX.o z09 hF (by first|exact SubR.refl _|(repeat' first|exact SubR.nil|refine SubR.cons ?_ ?_|exact SubL.nil|refine SubL.cons ?_ ?_|exact Sub.refl _|exact Sub.nil _)) (fun l hF=>?_)
  |exact ⟨_,hF,LeX.a [(7026,26)]⟩
  |exact ⟨_,hF,LeX.a []⟩
  |refine zno hF (LeX.trans (LeX.adopt 5 7026 120 2 rfl rfl) (LeX.a [])) (fun m v hF=>?_);unfold z3a at hF
  |exact RetX.oA hF
def zol (a2:Int)(a1:Int)(x1:(List z0b))(v1_0:Int×(List z0b))(k1_0_0:(List z0b)->Int->(List z0b)->Option ((List z0b)))(cv1_0:(Int×(List z0b))->Option ((List z0b)))(w3_1:Bool):AS:=⟨[(0,.sl 2 (x1.map z09)),(1,aI (a1)),(2,aI (a2)),(7,.row 7031),(8,aI (v1_0.1)),(24,.bool (w3_1))],[(7031,.row 120 2 (v1_0.2.map z09))]⟩
theorem znn {n a2 a1 x1 v1_0 k1_0_0 cv1_0}:z57 E0 45 (z38 n a2 a1 x1 v1_0 k1_0_0 cv1_0) (zol a2 a1 x1 v1_0 k1_0_0 cv1_0):=AW.jT
def zok (a2:Int)(a1:Int)(x1:(List z0b))(v1_0:Int×(List z0b)):AS:=⟨[(0,.sl 2 (x1.map z09)),(1,aI (a1)),(2,aI (a2)),(7,.row 7031),(8,aI (v1_0.1))],[(7031,.row 120 2 (v1_0.2.map z09))]⟩
theorem znm {n a2 a1 x1 k1_0_0}:z26 E0 45 (z2c n a2 a1 x1 k1_0_0) (zok a2 a1 x1):=LoopA.oT fun _=>rfl
def zhd (r:(List z0b)):AV:=.sl 2 (r.map z09)
theorem zq6 {n a0 a1 a2 r}(hF:z96 n a0 a1 a2=some r):Con E0 false 165 [.sl 2 (a0.map z09),aI (a1),aI (a2)] (zhd r):=by
 unfold z96 at hF
 refine Con.walk _ Tryz.func165 rfl (z08 Tryz.func165 rfl rfl) rfl (Or.inl rfl) ?_
 repeat' first
  |refine znn hF (fun hF=>?_) (fun v hF=>?_);rotate_left;unfold z38 at hF
  |refine AW.regO hF (fun hF=>?_)
  |refine AW.stepU [4] ?_;conv=>whnf
  |refine z0v.o hF (fun hF=>?_) (fun hF=>?_)
  |refine z0m.o hF ze3 (fun a h=>zg2 h) (fun a hF=>?_)
  |refine AppX.o z09 hF (by first|exact SubR.refl _|(repeat' first|exact SubR.nil|refine SubR.cons ?_ ?_|exact SubL.nil|refine SubL.cons ?_ ?_|exact Sub.refl _|exact Sub.nil _)) (fun l hF=>?_)
  |refine SlsX.o z09 hF (fun l hF=>?_)
  |refine IdxX.o z09 hF (fun x hF=>?_)
  |exact ⟨_,hF,LeX.a [(7031,31)]⟩
  |exact ⟨_,hF,LeX.a []⟩
  |refine znm hF (LeX.trans (LeX.adopt 7 7031 120 2 rfl rfl) (LeX.a [])) (fun m v hF=>?_);unfold z2c at hF
  |exact RetX.oA hF
def ztb (a2:Int)(a1:z0y)(a0:(List z0b))(v1_0:Int):AS:=⟨[(0,.sl 2 (a0.map z09)),(2,aI (a2)),(4,.ptr 4 0),(7,aI (v1_0))],[(4,.box 92 [aI (a1.fScope),aI (a1.fSpan)])]⟩
theorem zrs {n a2 a1 a0 k1_0_0}:z26 E0 32 (z6u n a2 a1 a0 k1_0_0) (ztb a2 a1 a0):=LoopA.oT fun _=>rfl
def zj6 (r:Bool):AV:=.bool (r)
theorem zv2 {n a0 a1 a2 r}(hF:za0 n a0 a1 a2=some r):Con E0 true 166 [.sl 2 (a0.map z09),.agg [aI (a1.fScope),aI (a1.fSpan)],aI (a2)] (zj6 r):=by
 unfold za0 at hF
 refine Con.walk _ Tryz.func166 rfl (z08 Tryz.func166 rfl rfl) rfl (Or.inr rfl) ?_
 repeat' first
  |refine AW.step ?_;conv=>whnf
  |refine z0v.o hF (fun hF=>?_) (fun hF=>?_)
  |refine IdxX.o z09 hF (fun x hF=>?_)
  |exact ⟨_,hF,LeX.a []⟩
  |refine zrs hF (LeX.a []) (fun m v hF=>?_);unfold z6u at hF
  |refine And.intro ⟨by kernel_rfl,by kernel_rfl⟩ ?_
  |exact RetX.oA hF
def zmj (a3:z0h)(k4_4_0y:(List z0u))(v5_5:Int×(List z0b)):AS:=⟨[(8,.ptr 8 0),(10,.ptr 10 0),(15,.ptr 15 0),(20,aI (v5_5.1))],[(8,.box 51 [aI (a3.fFrom),aI (a3.fTo),aI (a3.fVar),aI (a3.fType),aI (a3.fCond.fOp),.sl 8 (a3.fCond.fArgs.map idA),aI (a3.fCond.fVar),aI (a3.fCond.fField),aI (a3.fCond.fKind),aI (a3.fCond.fValue.fKind),aI (a3.fCond.fValue.fNum),.str (a3.fCond.fValue.fText),.sl 1 (a3.fOpens.map aI),.sl 1 (a3.fCloses.map aI),.sl 8 (a3.fChecks.map idA),.sl 2 (a3.fLimits.map z0p),.sl 1 (a3.fInside.map aI)]),(10,.box 77 [aI (0),.nils,.nils]),(15,.box 77 [aI (a3.fTo),.sl 4 (k4_4_0y.map z0a),.sl 2 (v5_5.2.map z09)])]⟩
theorem zlu {n a3 k4_4_0y k5_5_0}:z26 E0b 167 (z4d n a3 k4_4_0y k5_5_0) (zmj a3 k4_4_0y):=LoopA.oT fun _=>rfl
def zmk (a3:z0h)(k2_2_0y:(List z0b))(x130:(List z0u))(x133:z0i)(v4_4:Int):AS:=⟨[(8,.ptr 8 0),(10,.ptr 10 0),(15,.ptr 15 0),(18,.ptr 18 0),(19,aI (v4_4))],[(8,.box 51 [aI (a3.fFrom),aI (a3.fTo),aI (a3.fVar),aI (a3.fType),aI (a3.fCond.fOp),.sl 8 (a3.fCond.fArgs.map idA),aI (a3.fCond.fVar),aI (a3.fCond.fField),aI (a3.fCond.fKind),aI (a3.fCond.fValue.fKind),aI (a3.fCond.fValue.fNum),.str (a3.fCond.fValue.fText),.sl 1 (a3.fOpens.map aI),.sl 1 (a3.fCloses.map aI),.sl 8 (a3.fChecks.map idA),.sl 2 (a3.fLimits.map z0p),.sl 1 (a3.fInside.map aI)]),(10,.box 77 [aI (0),.nils,.nils]),(15,.box 77 [aI (a3.fTo),.sl 4 (x130.map z0a),.sl 2 (k2_2_0y.map z09)]),(18,.box 167 [.sl 1 (List.map (fun q=>AV.sl 5 (List.map z04 q)) (x133.fVars))])]⟩
theorem zlv {n a3 k2_2_0y x130 x133 k4_4_0}:z26 E0b 167 (z4e n a3 k2_2_0y x130 x133 k4_4_0) (zmk a3 k2_2_0y x130 x133):=LoopA.oT fun _=>rfl
def zml (a4:z01)(a3:z0h)(a2:z00)(a1:(List z01))(k2_2_0y:(List z0b))(v3_3:Int):AS:=⟨[(1,.sl 5 (a1.map z04)),(7,.ptr 7 0),(8,.ptr 8 0),(9,.ptr 9 0),(10,.ptr 10 0),(15,.ptr 15 0),(17,aI (v3_3))],[(7,.box 77 [aI (a2.fState),.sl 4 (a2.fBindings.map z0a),.sl 2 (a2.fStarts.map z09)]),(8,.box 51 [aI (a3.fFrom),aI (a3.fTo),aI (a3.fVar),aI (a3.fType),aI (a3.fCond.fOp),.sl 8 (a3.fCond.fArgs.map idA),aI (a3.fCond.fVar),aI (a3.fCond.fField),aI (a3.fCond.fKind),aI (a3.fCond.fValue.fKind),aI (a3.fCond.fValue.fNum),.str (a3.fCond.fValue.fText),.sl 1 (a3.fOpens.map aI),.sl 1 (a3.fCloses.map aI),.sl 8 (a3.fChecks.map idA),.sl 2 (a3.fLimits.map z0p),.sl 1 (a3.fInside.map aI)]),(9,.box 66 [aI (a4.fSource),aI (a4.fSeq),aI (a4.fType),aI (a4.fTime),.sl 3 (a4.fValues.map z06)]),(10,.box 77 [aI (0),.nils,.nils]),(15,.box 77 [aI (a3.fTo),.nils,.sl 2 (k2_2_0y.map z09)])]⟩
theorem zlw {n a4 a3 a2 a1 k2_2_0y k3_3_0}:z26 E0b 167 (z4f n a4 a3 a2 a1 k2_2_0y k3_3_0) (zml a4 a3 a2 a1 k2_2_0y):=LoopA.oT fun _=>rfl
end Go.Proofs.YtjpknpjjcddnnaaGreat
