/- What some functions compute, over plain values. Printed by a program of mine (gen_fun.lean). -/
import Derived.Test.YtjpknpjjcddnnaaGreatK27
set_option linter.unusedVariables false
set_option linter.unusedSimpArgs false
set_option maxRecDepth 100000
set_option maxHeartbeats 8000000
namespace Go.Proofs.YtjpknpjjcddnnaaGreat
open Go.RowKit
theorem zdd {n a0 r}(hF:z2g n a0=some r):Con E0 true 83 [.agg [aI (a0.fOp),.sl 8 (a0.fArgs.map idA),aI (a0.fVar),aI (a0.fField),aI (a0.fKind),aI (a0.fValue.fKind),aI (a0.fValue.fNum),.str (a0.fValue.fText)]] (zbl r):=by
 unfold z2g at hF
 refine Con.walk _ Tryz.func83 rfl (z08 Tryz.func83 rfl rfl) rfl (Or.inr rfl) ?_
 repeat' first
  |refine AW.step ?_;conv=>whnf
  |refine z0v.o hF (fun hF=>?_) (fun hF=>?_)
  |refine z0m.o hF zbk (fun a h=>zgi h) (fun a hF=>?_)
  |refine z0m.o hF zbj (fun a h=>zgh h) (fun a hF=>?_)
  |refine z0m.o hF zej (fun a h=>zsv h) (fun a hF=>?_)
  |exact RetX.oA hF
def zvs (w1_0:Bool):AS:=⟨[(4,.bool (w1_0))],[]⟩
theorem zui {n}:z57 E0 12 (z5n n) zvs:=AW.jT
def z9c (r:Bool):AV:=.bool (r)
theorem z9k {n a0 a1 r}(hF:z12 n a0 a1=some r):Con E0 true 45 [aI (a0),aI (a1)] (z9c r):=by
 unfold z12 at hF
 refine Con.walk _ Tryz.func45 rfl (z08 Tryz.func45 rfl rfl) rfl (Or.inr rfl) ?_
 repeat' first
  |refine zui hF (fun hF=>?_) (fun v hF=>?_);rotate_left;unfold z5n at hF
  |refine AW.regO hF (fun hF=>?_)
  |refine AW.stepU [1] ?_;conv=>whnf
  |refine z0v.o hF (fun hF=>?_) (fun hF=>?_)
  |exact ⟨_,hF,LeX.a []⟩
  |exact RetX.oA hF
def zos (a1:(List z0j))(a0:z05)(v1_0:Int)(v2_2:Int):AS:=⟨[(1,.sl 11 (a1.map z0q)),(2,.ptr 2 0),(5,aI (v1_0)),(6,aI (v2_2))],[(2,.box 25 [aI (a0.fVars),aI (a0.fScopes),.sl 1 (a0.fStates.map z0c),.sl 17 (a0.fEdges.map z0d)])]⟩
theorem znu {n a1 a0 v1_0 k2_2_0}:z26 E0 70 (z5a n a1 a0 v1_0 k2_2_0) (zos a1 a0 v1_0):=LoopA.oT fun _=>rfl
def zou (a1:(List z0j))(a0:z05)(v1_0:Int)(cv1_0:Int->Option (Int))(w3_1:Bool):AS:=⟨[(1,.sl 11 (a1.map z0q)),(2,.ptr 2 0),(5,aI (v1_0)),(44,.bool (w3_1))],[(2,.box 25 [aI (a0.fVars),aI (a0.fScopes),.sl 1 (a0.fStates.map z0c),.sl 17 (a0.fEdges.map z0d)])]⟩
theorem znw {n a1 a0 v1_0 cv1_0}:z57 E0 70 (z2e n a1 a0 v1_0 cv1_0) (zou a1 a0 v1_0 cv1_0):=AW.jT
def zot (a1:(List z0j))(a0:z05)(v1_0:Int):AS:=⟨[(1,.sl 11 (a1.map z0q)),(2,.ptr 2 0),(5,aI (v1_0))],[(2,.box 25 [aI (a0.fVars),aI (a0.fScopes),.sl 1 (a0.fStates.map z0c),.sl 17 (a0.fEdges.map z0d)])]⟩
theorem znv {n a1 a0 k1_0_0}:z26 E0 70 (z1h n a1 a0 k1_0_0) (zot a1 a0):=LoopA.oT fun _=>rfl
def zhg (r:Int):AV:=aI (r)
theorem zq9 {n a0 a1 r}(hF:z97 n a0 a1=some r):Con E0 true 46 [.agg [aI (a0.fVars),aI (a0.fScopes),.sl 1 (a0.fStates.map z0c),.sl 17 (a0.fEdges.map z0d)],.sl 11 (a1.map z0q)] (zhg r):=by
 unfold z97 at hF
 refine Con.walk _ Tryz.func46 rfl (z08 Tryz.func46 rfl rfl) rfl (Or.inr rfl) ?_
 repeat' first
  |refine znw hF (fun hF=>?_) (fun v hF=>?_);rotate_left;unfold z2e at hF
  |refine AW.regO hF (fun hF=>?_)
  |refine AW.stepU [6] ?_;conv=>whnf
  |refine z0v.o hF (fun hF=>?_) (fun hF=>?_)
  |refine z0v.t ?_
  |refine IdxX.o z0q hF (fun x hF=>?_)
  |refine z0m.o hF zbl (fun a h=>zdd h) (fun a hF=>?_)
  |exact ⟨_,hF,LeX.a []⟩
  |exact ⟨_,hF,LeX.a []⟩
  |refine znu hF (LeX.a []) (fun m v hF=>?_);unfold z5a at hF
  |refine z0m.o hF z9c (fun a h=>z9k h) (fun a hF=>?_)
  |refine znv hF (LeX.a []) (fun m v hF=>?_);unfold z1h at hF
  |refine And.intro ⟨by kernel_rfl,by kernel_rfl⟩ ?_
  |exact RetX.oA hF
def zoq (a1:Int)(a0:(List Int))(v1_0:Int)(v2_1:Int):AS:=⟨[(0,.sl 1 (a0.map aI)),(1,aI (a1)),(5,aI (v1_0)),(6,aI (v2_1))],[]⟩
theorem zns {n a1 a0 v1_0 k2_1_0}:z26 E0 34 (z59 n a1 a0 v1_0 k2_1_0) (zoq a1 a0 v1_0):=LoopA.oT fun _=>rfl
def zor (a1:Int)(a0:(List Int))(v1_0:Int):AS:=⟨[(0,.sl 1 (a0.map aI)),(1,aI (a1)),(5,aI (v1_0))],[]⟩
theorem znt {n a1 a0 k1_0_0}:z26 E0 34 (z3c n a1 a0 k1_0_0) (zor a1 a0):=LoopA.oT fun _=>rfl
def zhf (r:Int):AV:=aI (r)
theorem zq8 {n a0 a1 r}(hF:z7l n a0 a1=some r):Con E0 true 114 [.sl 1 (a0.map aI),aI (a1)] (zhf r):=by
 unfold z7l at hF
 refine Con.walk _ Tryz.func114 rfl (z08 Tryz.func114 rfl rfl) rfl (Or.inr rfl) ?_
 repeat' first
  |refine AW.step ?_;conv=>whnf
  |refine z0v.o hF (fun hF=>?_) (fun hF=>?_)
  |refine IdxX.o aI hF (fun x hF=>?_)
  |refine z0m.o hF z9c (fun a h=>z9k h) (fun a hF=>?_)
  |exact ⟨_,hF,LeX.a []⟩
  |exact ⟨_,hF,LeX.a []⟩
  |refine zns hF (LeX.a []) (fun m v hF=>?_);unfold z59 at hF
  |refine znt hF (LeX.a []) (fun m v hF=>?_);unfold z3c at hF
  |refine And.intro ⟨by kernel_rfl,by kernel_rfl⟩ ?_
  |exact RetX.oA hF
def zqm (a1:z0h)(v3_2:Int):AS:=⟨[(3,.ptr 3 0),(10,aI (v3_2))],[(3,.box 51 [aI (a1.fFrom),aI (a1.fTo),aI (a1.fVar),aI (a1.fType),aI (a1.fCond.fOp),.sl 8 (a1.fCond.fArgs.map idA),aI (a1.fCond.fVar),aI (a1.fCond.fField),aI (a1.fCond.fKind),aI (a1.fCond.fValue.fKind),aI (a1.fCond.fValue.fNum),.str (a1.fCond.fValue.fText),.sl 1 (a1.fOpens.map aI),.sl 1 (a1.fCloses.map aI),.sl 8 (a1.fChecks.map idA),.sl 2 (a1.fLimits.map z0p),.sl 1 (a1.fInside.map aI)])]⟩
theorem zp6 {n a1 k3_2_0}:z26 E0 65 (z3x n a1 k3_2_0) (zqm a1):=LoopA.oT fun _=>rfl
def zqn (a1:z0h)(a0:z05)(k1_0_0y:(List Int))(v2_1:Int):AS:=⟨[(2,.ptr 2 0),(3,.ptr 3 0),(7,.sl 1 [.sl 1 (a1.fOpens.map aI),.sl 1 (a1.fCloses.map aI),.sl 1 (a1.fInside.map aI),.sl 1 (k1_0_0y.map aI)]),(8,aI (v2_1))],[(2,.box 25 [aI (a0.fVars),aI (a0.fScopes),.sl 1 (a0.fStates.map z0c),.sl 17 (a0.fEdges.map z0d)]),(3,.box 51 [aI (a1.fFrom),aI (a1.fTo),aI (a1.fVar),aI (a1.fType),aI (a1.fCond.fOp),.sl 8 (a1.fCond.fArgs.map idA),aI (a1.fCond.fVar),aI (a1.fCond.fField),aI (a1.fCond.fKind),aI (a1.fCond.fValue.fKind),aI (a1.fCond.fValue.fNum),.str (a1.fCond.fValue.fText),.sl 1 (a1.fOpens.map aI),.sl 1 (a1.fCloses.map aI),.sl 8 (a1.fChecks.map idA),.sl 2 (a1.fLimits.map z0p),.sl 1 (a1.fInside.map aI)])]⟩
theorem zp7 {n a1 a0 k1_0_0y k2_1_0}:z26 E0 65 (z1u n a1 a0 k1_0_0y k2_1_0) (zqn a1 a0 k1_0_0y):=LoopA.oT fun _=>rfl
def zqo (a1:z0h)(a0:z05)(v1_0:Int×(List Int)):AS:=⟨[(2,.ptr 2 0),(3,.ptr 3 0),(5,.row 7026),(6,aI (v1_0.1))],[(2,.box 25 [aI (a0.fVars),aI (a0.fScopes),.sl 1 (a0.fStates.map z0c),.sl 17 (a0.fEdges.map z0d)]),(3,.box 51 [aI (a1.fFrom),aI (a1.fTo),aI (a1.fVar),aI (a1.fType),aI (a1.fCond.fOp),.sl 8 (a1.fCond.fArgs.map idA),aI (a1.fCond.fVar),aI (a1.fCond.fField),aI (a1.fCond.fKind),aI (a1.fCond.fValue.fKind),aI (a1.fCond.fValue.fNum),.str (a1.fCond.fValue.fText),.sl 1 (a1.fOpens.map aI),.sl 1 (a1.fCloses.map aI),.sl 8 (a1.fChecks.map idA),.sl 2 (a1.fLimits.map z0p),.sl 1 (a1.fInside.map aI)]),(7026,.row 3 1 (v1_0.2.map aI))]⟩
theorem zp8 {n a1 a0 k1_0_0}:z26 E0 65 (z62 n a1 a0 k1_0_0) (zqo a1 a0):=LoopA.oT fun _=>rfl
def zie (r:Int):AV:=aI (r)
theorem zsr {n a0 a1 r}(hF:z86 n a0 a1=some r):Con E0 true 84 [.agg [aI (a0.fVars),aI (a0.fScopes),.sl 1 (a0.fStates.map z0c),.sl 17 (a0.fEdges.map z0d)],.agg [aI (a1.fFrom),aI (a1.fTo),aI (a1.fVar),aI (a1.fType),aI (a1.fCond.fOp),.sl 8 (a1.fCond.fArgs.map idA),aI (a1.fCond.fVar),aI (a1.fCond.fField),aI (a1.fCond.fKind),aI (a1.fCond.fValue.fKind),aI (a1.fCond.fValue.fNum),.str (a1.fCond.fValue.fText),.sl 1 (a1.fOpens.map aI),.sl 1 (a1.fCloses.map aI),.sl 8 (a1.fChecks.map idA),.sl 2 (a1.fLimits.map z0p),.sl 1 (a1.fInside.map aI)]] (zie r):=by
 unfold z86 at hF
 refine Con.walk _ Tryz.func84 rfl (z08 Tryz.func84 rfl rfl) rfl (Or.inr rfl) ?_
 repeat' first
  |refine AW.regO hF (fun hF=>?_)
  |refine AW.frzO hF 7026 rfl (fun hF=>?_)
  |refine AW.stepU [6] ?_;conv=>whnf
  |refine z0v.o hF (fun hF=>?_) (fun hF=>?_)
  |refine IdxX.o z0p hF (fun x hF=>?_)
  |refine z0m.o hF z9c (fun a h=>z9k h) (fun a hF=>?_)
  |exact ⟨_,hF,LeX.a []⟩
  |refine zp6 hF (LeX.a []) (fun m v hF=>?_);unfold z3x at hF
  |refine IdxX.o (fun q=>AV.sl 1 (List.map aI q)) hF (fun x hF=>?_)
  |refine z0m.o hF zhf (fun a h=>zq8 h) (fun a hF=>?_)
  |exact ⟨_,hF,LeX.a []⟩
  |refine zp7 hF (LeX.a []) (fun m v hF=>?_);unfold z1u at hF
  |refine AppX.o aI hF (by first|exact SubR.refl _|(repeat' first|exact SubR.nil|refine SubR.cons ?_ ?_|exact SubL.nil|refine SubL.cons ?_ ?_|exact Sub.refl _|exact Sub.nil _)) (fun l hF=>?_)
  |exact ⟨_,hF,LeX.a [(7026,26)]⟩
  |refine zp8 hF (LeX.trans (LeX.adopt 5 7026 3 1 rfl rfl) (LeX.a [])) (fun m v hF=>?_);unfold z62 at hF
  |refine And.intro ⟨by kernel_rfl,by kernel_rfl⟩ ?_
  |exact RetX.oA hF
def ztd (a1:z0h)(a0:z05)(v1_1:Int):AS:=⟨[(3,.ptr 3 0),(4,.ptr 4 0),(9,aI (v1_1))],[(3,.box 25 [aI (a0.fVars),aI (a0.fScopes),.sl 1 (a0.fStates.map z0c),.sl 17 (a0.fEdges.map z0d)]),(4,.box 51 [aI (a1.fFrom),aI (a1.fTo),aI (a1.fVar),aI (a1.fType),aI (a1.fCond.fOp),.sl 8 (a1.fCond.fArgs.map idA),aI (a1.fCond.fVar),aI (a1.fCond.fField),aI (a1.fCond.fKind),aI (a1.fCond.fValue.fKind),aI (a1.fCond.fValue.fNum),.str (a1.fCond.fValue.fText),.sl 1 (a1.fOpens.map aI),.sl 1 (a1.fCloses.map aI),.sl 8 (a1.fChecks.map idA),.sl 2 (a1.fLimits.map z0p),.sl 1 (a1.fInside.map aI)])]⟩
theorem zru {n a1 a0 k1_1_0}:z26 E0 76 (z6w n a1 a0 k1_1_0) (ztd a1 a0):=LoopA.oT fun _=>rfl
def zte (a2:Int)(a1:z0h)(a0:z05)(w1_0:Bool):AS:=⟨[(2,aI (a2)),(3,.ptr 3 0),(4,.ptr 4 0),(42,.bool (w1_0))],[(3,.box 25 [aI (a0.fVars),aI (a0.fScopes),.sl 1 (a0.fStates.map z0c),.sl 17 (a0.fEdges.map z0d)]),(4,.box 51 [aI (a1.fFrom),aI (a1.fTo),aI (a1.fVar),aI (a1.fType),aI (a1.fCond.fOp),.sl 8 (a1.fCond.fArgs.map idA),aI (a1.fCond.fVar),aI (a1.fCond.fField),aI (a1.fCond.fKind),aI (a1.fCond.fValue.fKind),aI (a1.fCond.fValue.fNum),.str (a1.fCond.fValue.fText),.sl 1 (a1.fOpens.map aI),.sl 1 (a1.fCloses.map aI),.sl 8 (a1.fChecks.map idA),.sl 2 (a1.fLimits.map z0p),.sl 1 (a1.fInside.map aI)])]⟩
theorem zrv {n a2 a1 a0}:z57 E0 76 (z10 n a2 a1 a0) (zte a2 a1 a0):=AW.jT
def zj9 (r:Int):AV:=aI (r)
theorem zv5 {n a0 a1 a2 r}(hF:za2 n a0 a1 a2=some r):Con E0 true 47 [.agg [aI (a0.fVars),aI (a0.fScopes),.sl 1 (a0.fStates.map z0c),.sl 17 (a0.fEdges.map z0d)],.agg [aI (a1.fFrom),aI (a1.fTo),aI (a1.fVar),aI (a1.fType),aI (a1.fCond.fOp),.sl 8 (a1.fCond.fArgs.map idA),aI (a1.fCond.fVar),aI (a1.fCond.fField),aI (a1.fCond.fKind),aI (a1.fCond.fValue.fKind),aI (a1.fCond.fValue.fNum),.str (a1.fCond.fValue.fText),.sl 1 (a1.fOpens.map aI),.sl 1 (a1.fCloses.map aI),.sl 8 (a1.fChecks.map idA),.sl 2 (a1.fLimits.map z0p),.sl 1 (a1.fInside.map aI)],aI (a2)] (zj9 r):=by
 unfold za2 at hF
 refine Con.walk _ Tryz.func47 rfl (z08 Tryz.func47 rfl rfl) rfl (Or.inr rfl) ?_
 repeat' first
  |refine zrv hF (fun hF=>?_) (fun v hF=>?_);rotate_left;unfold z10 at hF
  |refine AW.regO hF (fun hF=>?_)
  |refine AW.stepU [2] ?_;conv=>whnf
  |refine z0v.o hF (fun hF=>?_) (fun hF=>?_)
  |refine z0v.t ?_
  |refine z0v.f ?_
  |refine z0m.o hF zbl (fun a h=>zdd h) (fun a hF=>?_)
  |refine z0m.o hF zie (fun a h=>zsr h) (fun a hF=>?_)
  |refine IdxX.oD hF z6r (fun x hF=>?_)
  |exact ⟨_,hF,LeX.a []⟩
  |refine zru hF (LeX.a []) (fun m v hF=>?_);unfold z6w at hF
  |refine z0m.o hF z9c (fun a h=>z9k h) (fun a hF=>?_)
  |exact ⟨_,hF,LeX.a []⟩
  |exact RetX.oA hF
def zqp (a0:z05)(v2_3:Int×Int):AS:=⟨[(1,.ptr 1 0),(5,aI (v2_3.1)),(6,aI (v2_3.2))],[(1,.box 25 [aI (a0.fVars),aI (a0.fScopes),.sl 1 (a0.fStates.map z0c),.sl 17 (a0.fEdges.map z0d)])]⟩
theorem zp9 {n a0 k2_3_0}:z26 E0 74 (z63 n a0 k2_3_0) (zqp a0):=LoopA.oT fun _=>rfl
def zqq (a0:z05)(v1_2:Int):AS:=⟨[(1,.ptr 1 0),(3,aI (v1_2))],[(1,.box 25 [aI (a0.fVars),aI (a0.fScopes),.sl 1 (a0.fStates.map z0c),.sl 17 (a0.fEdges.map z0d)])]⟩
theorem zpa {n a0 k1_2_0}:z26 E0 74 (z64 n a0 k1_2_0) (zqq a0):=LoopA.oT fun _=>rfl
def zqr (a0:z05)(w2_1:Bool):AS:=⟨[(1,.ptr 1 0),(31,.bool (w2_1))],[(1,.box 25 [aI (a0.fVars),aI (a0.fScopes),.sl 1 (a0.fStates.map z0c),.sl 17 (a0.fEdges.map z0d)])]⟩
theorem zpb {n a0}:z57 E0 74 (z1l n a0) (zqr a0):=AW.jT
def zqs (a0:z05)(w1_0:Bool):AS:=⟨[(1,.ptr 1 0),(15,.bool (w1_0))],[(1,.box 25 [aI (a0.fVars),aI (a0.fScopes),.sl 1 (a0.fStates.map z0c),.sl 17 (a0.fEdges.map z0d)])]⟩
theorem zpc {n a0}:z57 E0 74 (z1v n a0) (zqs a0):=AW.jT
def zei (r:Int):AV:=aI (r)
end Go.Proofs.YtjpknpjjcddnnaaGreat
namespace Go.Proofs.YtjpknpjjcddnnaaGreat
open Go.RowKit
theorem zgg {n a0 r}(hF:z6i n a0=some r):Con E0 true 14 [.agg [aI (a0.fVars),aI (a0.fScopes),.sl 1 (a0.fStates.map z0c),.sl 17 (a0.fEdges.map z0d)]] (zei r):=by
 unfold z6i at hF
 refine Con.walk _ Tryz.func14 rfl (z08 Tryz.func14 rfl rfl) rfl (Or.inr rfl) ?_
 repeat' first
  |refine zpb hF (fun hF=>?_) (fun v hF=>?_);rotate_left;unfold z1l at hF
  |refine zpc hF (fun hF=>?_) (fun v hF=>?_);rotate_left;unfold z1v at hF
  |refine AW.regO hF (fun hF=>?_)
  |refine AW.stepU [1,3] ?_;conv=>whnf
  |refine z0v.o hF (fun hF=>?_) (fun hF=>?_)
  |refine z0v.t ?_
  |refine IdxX.o z0d hF (fun x hF=>?_)
  |refine z0m.o hF zj9 (fun a h=>zv5 h) (fun a hF=>?_)
  |exact ⟨_,hF,LeX.a []⟩
  |refine zp9 hF (LeX.a []) (fun m v hF=>?_);unfold z63 at hF
  |refine IdxX.o z0c hF (fun x hF=>?_)
  |refine z0m.o hF zhg (fun a h=>zq9 h) (fun a hF=>?_)
  |exact ⟨_,hF,LeX.a []⟩
  |refine zpa hF (LeX.a []) (fun m v hF=>?_);unfold z64 at hF
  |refine z0m.o hF z9c (fun a h=>z9k h) (fun a hF=>?_)
  |refine And.intro ⟨by kernel_rfl,by kernel_rfl⟩ ?_
  |exact RetX.oA hF
def S_expr_Size_l1 (rF_expr_Size:z0k->Option (Int×Int))(a0:z0k)(v1_0:Int×Int×Int):AS:=⟨[(4,aI (v1_0.1)),(5,aI (v1_0.2.1)),(11,.sl 8 (a0.fArgs.map idA)),(12,aI (((a0.fArgs.map idA).length:Int))),(13,aI (v1_0.2.2))],[]⟩
theorem expr_Size_l1_o {n rF_expr_Size a0 k1_0_0}:z26 E0 32 (zdz n rF_expr_Size a0 k1_0_0) (S_expr_Size_l1 rF_expr_Size a0):=LoopA.oT fun _=>rfl
def y0w (r:Int×Int):AV:=.tup [aI (r.1),aI (r.2)]
theorem con_expr_Size {n a0 r}(hF:zf0 n a0=some r):Con E0 true 168 [.agg [aI (a0.fOp),.sl 8 (a0.fArgs.map idA),aI (a0.fVar),aI (a0.fField),aI (a0.fKind),aI (a0.fValue.fKind),aI (a0.fValue.fNum),.str (a0.fValue.fText)]] (y0w r):=by
 induction n generalizing a0 r
 case zero=>cases hF
 case succ n ih =>
 unfold zf0 at hF
 refine Con.walk _ Tryz.func168 rfl (z08 Tryz.func168 rfl rfl) rfl (Or.inr rfl) ?_
 repeat' first
  |refine AW.step ?_;conv=>whnf
  |refine z0v.o hF (fun hF=>?_) (fun hF=>?_)
  |refine IdxX.oD hF z6r (fun x hF=>?_)
  |refine z0m.o hF y0w (fun a h=>ih h) (fun a hF=>?_)
  |exact ⟨_,hF,LeX.a []⟩
  |refine expr_Size_l1_o hF (LeX.a []) (fun m v hF=>?_);unfold zdz at hF
  |exact RetX.oA hF
def S_expr_arity_j1 (a0:Int)(w1_0:Bool):AS:=⟨[(0,aI (a0)),(4,.bool (w1_0))],[]⟩
theorem expr_arity_j1_o {n a0}:z57 E0 17 (zbc n a0) (S_expr_arity_j1 a0):=AW.jT
def R_expr_arity (r:Int×Bool):AV:=.tup [aI (r.1),.bool (r.2)]
theorem con_expr_arity {n a0 r}(hF:ziv n a0=some r):Con E0 true 195 [aI (a0)] (R_expr_arity r):=by
 unfold ziv at hF
 refine Con.walk _ Tryz.func195 rfl (z08 Tryz.func195 rfl rfl) rfl (Or.inr rfl) ?_
 repeat' first
  |refine expr_arity_j1_o hF (fun hF=>?_) (fun v hF=>?_);rotate_left;unfold zbc at hF
  |refine AW.regO hF (fun hF=>?_)
  |refine AW.stepU [1] ?_;conv=>whnf
  |refine z0v.o hF (fun hF=>?_) (fun hF=>?_)
  |exact ⟨_,hF,LeX.a []⟩
  |exact RetX.oA hF
def S_expr_uses_j2 (w2_1:Bool):AS:=⟨[(8,.bool (w2_1))],[]⟩
theorem expr_uses_j2_o {n}:zjk E0 11 (zcd n) S_expr_uses_j2:=AW.jT2
def S_expr_uses_j1 (a0:Int)(w1_0:Bool):AS:=⟨[(4,aI (a0)),(5,.bool (w1_0))],[]⟩
theorem expr_uses_j1_o {n a0}:zjk E0 11 (zce n a0) (S_expr_uses_j1 a0):=AW.jT2
def R_expr_uses (r:Bool×Bool):AV:=.tup [.bool (r.1),.bool (r.2)]
theorem con_expr_uses {n a0 r}(hF:zlq n a0=some r):Con E0 true 196 [aI (a0)] (R_expr_uses r):=by
 unfold zlq at hF
 refine Con.walk _ Tryz.func196 rfl (z08 Tryz.func196 rfl rfl) rfl (Or.inr rfl) ?_
 repeat' first
  |refine expr_uses_j2_o hF (fun hF=>?_) (fun v hF=>?_);rotate_left;unfold zcd at hF
  |refine expr_uses_j1_o hF (fun hF=>?_) (fun v hF=>?_);rotate_left;unfold zce at hF
  |refine AW.regO hF (fun hF=>?_)
  |refine AW.stepU [2,5] ?_;conv=>whnf
  |refine z0v.o hF (fun hF=>?_) (fun hF=>?_)
  |exact ⟨_,hF,LeX.a []⟩
  |exact ⟨_,hF,LeX.a []⟩
  |exact RetX.oA hF
def R_value_size (r:Int):AV:=aI (r)
theorem con_value_size {n a0 r}(hF:zew n a0=some r):Con E0 true 223 [.agg [aI (a0.fKind),aI (a0.fNum),.str (a0.fText)]] (R_value_size r):=by
 unfold zew at hF
 refine Con.walk _ Tryz.func223 rfl (z08 Tryz.func223 rfl rfl) rfl (Or.inr rfl) ?_
 repeat' first
  |refine AW.step ?_;conv=>whnf
  |refine z0v.o hF (fun hF=>?_) (fun hF=>?_)
  |refine z0v.t ?_
  |refine z0v.f ?_
  |exact RetX.oA hF
def zgp (r:Int):AV:=aI (r)
theorem zgf {n a0 r}(hF:zae n a0=some r):Con E0 true 207 [.agg [aI (a0.fKind),aI (a0.fNum),.str (a0.fText)]] (zgp r):=by
 unfold zae at hF
 refine Con.walk _ Tryz.func207 rfl (z08 Tryz.func207 rfl rfl) rfl (Or.inr rfl) ?_
 repeat' first
  |refine AW.step ?_;conv=>whnf
  |refine z0v.o hF (fun hF=>?_) (fun hF=>?_)
  |refine z0m.o hF R_value_size (fun a h=>con_value_size h) (fun a hF=>?_)
  |exact RetX.oA hF
def S_expr_suits_j1 (w1_0:Bool):AS:=⟨[(4,.bool (w1_0))],[]⟩
theorem expr_suits_j1_o {n}:z57 E0 16 (z9t n) S_expr_suits_j1:=AW.jT
def R_expr_suits (r:Bool):AV:=.bool (r)
theorem con_expr_suits {n a0 a1 r}(hF:ziu n a0 a1=some r):Con E0 true 208 [aI (a0),.agg [aI (a1.fKind),aI (a1.fNum),.str (a1.fText)]] (R_expr_suits r):=by
 unfold ziu at hF
 refine Con.walk _ Tryz.func208 rfl (z08 Tryz.func208 rfl rfl) rfl (Or.inr rfl) ?_
 repeat' first
  |refine expr_suits_j1_o hF (fun hF=>?_) (fun v hF=>?_);rotate_left;unfold z9t at hF
  |refine AW.regO hF (fun hF=>?_)
  |refine AW.stepU [1] ?_;conv=>whnf
  |refine z0v.o hF (fun hF=>?_) (fun hF=>?_)
  |refine z0v.t ?_
  |exact ⟨_,hF,LeX.a []⟩
  |exact RetX.oA hF
def y0t (w1_0:Bool):AS:=⟨[(31,.bool (w1_0))],[]⟩
theorem y0h {n}:z57 E0 32 (z52 n) y0t:=AW.jT
def zu6 (r:Int):AV:=aI (r)
theorem y1j {n a0 r}(hF:zdt n a0=some r):Con E0 true 197 [.agg [aI (a0.fOp),.sl 8 (a0.fArgs.map idA),aI (a0.fVar),aI (a0.fField),aI (a0.fKind),aI (a0.fValue.fKind),aI (a0.fValue.fNum),.str (a0.fValue.fText)]] (zu6 r):=by
 unfold zdt at hF
 refine Con.walk _ Tryz.func197 rfl (z08 Tryz.func197 rfl rfl) rfl (Or.inr rfl) ?_
 repeat' first
  |refine y0h hF (fun hF=>?_) (fun v hF=>?_);rotate_left;unfold z52 at hF
  |refine AW.regO hF (fun hF=>?_)
  |refine AW.stepU [4] ?_;conv=>whnf
  |refine z0v.o hF (fun hF=>?_) (fun hF=>?_)
  |refine z0m.o hF zgp (fun a h=>zgf h) (fun a hF=>?_)
  |refine z0m.o hF R_expr_suits (fun a h=>con_expr_suits h) (fun a hF=>?_)
  |exact ⟨_,hF,LeX.a []⟩
  |refine EqX.mk (by first|rfl|kernel_rfl) ?_
  |exact RetX.oA hF
def S_expr_node_j5 (w5_4:Bool):AS:=⟨[(113,.bool (w5_4))],[]⟩
theorem expr_node_j5_o {n}:z57 E0 114 (z0x n) S_expr_node_j5:=AW.jT
def S_expr_node_j4 (a0:z0k)(x2:Bool×Bool)(w3_2:Bool)(_:Unit):AS:=⟨[(1,.ptr 1 0),(5,.bool (x2.1)),(6,.bool (x2.2)),(7,.bool (decide (a0.fOp=4))),(8,.bool (w3_2))],[(1,.box 47 [aI (a0.fOp),.sl 8 (a0.fArgs.map idA),aI (a0.fVar),aI (a0.fField),aI (a0.fKind),aI (a0.fValue.fKind),aI (a0.fValue.fNum),.str (a0.fValue.fText)])]⟩
theorem expr_node_j4_o {n a0 x2 w3_2}:zjk E0 114 (zcf n a0 x2 w3_2) (S_expr_node_j4 a0 x2 w3_2):=AW.jT2
def S_expr_node_j3 (a0:z0k)(x2:Bool×Bool)(w3_2:Bool):AS:=⟨[(1,.ptr 1 0),(5,.bool (x2.1)),(6,.bool (x2.2)),(7,.bool (decide (a0.fOp=4))),(8,.bool (w3_2))],[(1,.box 47 [aI (a0.fOp),.sl 8 (a0.fArgs.map idA),aI (a0.fVar),aI (a0.fField),aI (a0.fKind),aI (a0.fValue.fKind),aI (a0.fValue.fNum),.str (a0.fValue.fText)])]⟩
theorem expr_node_j3_o {n a0 x2}:z57 E0 114 (zcg n a0 x2) (S_expr_node_j3 a0 x2):=AW.jT
def S_expr_node_j2 (a0:z0k)(x2:Bool×Bool)(w2_1:Bool):AS:=⟨[(1,.ptr 1 0),(5,.bool (x2.1)),(6,.bool (x2.2)),(7,.bool (decide (a0.fOp=4))),(66,.bool (w2_1))],[(1,.box 47 [aI (a0.fOp),.sl 8 (a0.fArgs.map idA),aI (a0.fVar),aI (a0.fField),aI (a0.fKind),aI (a0.fValue.fKind),aI (a0.fValue.fNum),.str (a0.fValue.fText)])]⟩
theorem expr_node_j2_o {n a0 x2}:z57 E0 114 (zah n a0 x2) (S_expr_node_j2 a0 x2):=AW.jT
def S_expr_node_j1 (a0:z0k)(x2:Bool×Bool)(w1_0:Bool):AS:=⟨[(1,.ptr 1 0),(5,.bool (x2.1)),(6,.bool (x2.2)),(52,.bool (w1_0))],[(1,.box 47 [aI (a0.fOp),.sl 8 (a0.fArgs.map idA),aI (a0.fVar),aI (a0.fField),aI (a0.fKind),aI (a0.fValue.fKind),aI (a0.fValue.fNum),.str (a0.fValue.fText)])]⟩
theorem expr_node_j1_o {n a0 x2}:z57 E0 114 (z5f n a0 x2) (S_expr_node_j1 a0 x2):=AW.jT
def R_expr_node (r:Int):AV:=aI (r)
theorem con_expr_node {n a0 r}(hF:zlr n a0=some r):Con E0 true 170 [.agg [aI (a0.fOp),.sl 8 (a0.fArgs.map idA),aI (a0.fVar),aI (a0.fField),aI (a0.fKind),aI (a0.fValue.fKind),aI (a0.fValue.fNum),.str (a0.fValue.fText)]] (R_expr_node r):=by
 unfold zlr at hF
 refine Con.walk _ Tryz.func170 rfl (z08 Tryz.func170 rfl rfl) rfl (Or.inr rfl) ?_
 repeat' first
  |refine expr_node_j5_o hF (fun hF=>?_) (fun v hF=>?_);rotate_left;unfold z0x at hF
  |refine expr_node_j4_o hF (fun hF=>?_) (fun v hF=>?_);rotate_left;unfold zcf at hF
  |refine expr_node_j3_o hF (fun hF=>?_) (fun v hF=>?_);rotate_left;unfold zcg at hF
  |refine expr_node_j2_o hF (fun hF=>?_) (fun v hF=>?_);rotate_left;unfold zah at hF
  |refine expr_node_j1_o hF (fun hF=>?_) (fun v hF=>?_);rotate_left;unfold z5f at hF
  |refine AW.regO hF (fun hF=>?_)
  |refine AW.stepU [7,10,12,13,17] ?_;conv=>whnf
  |refine z0v.o hF (fun hF=>?_) (fun hF=>?_)
  |refine z0v.t ?_
  |refine z0v.f ?_
  |refine z0m.o hF R_expr_arity (fun a h=>con_expr_arity h) (fun a hF=>?_)
  |refine z0m.o hF R_expr_uses (fun a h=>con_expr_uses h) (fun a hF=>?_)
  |exact ⟨_,hF,LeX.a []⟩
  |refine z0m.o hF zu6 (fun a h=>y1j h) (fun a hF=>?_)
  |exact ⟨(),hF,LeX.a []⟩
  |exact ⟨_,hF,LeX.a []⟩
  |exact ⟨_,hF,LeX.a []⟩
  |refine EqX.mk (by first|rfl|kernel_rfl) ?_
  |exact RetX.oA hF
def S_expr_visit_l1 (rF_expr_visit:z0k->Option (Int))(a0:z0k)(v1_0:Int):AS:=⟨[(1,.fn 170 []),(16,.sl 8 (a0.fArgs.map idA)),(17,aI (((a0.fArgs.map idA).length:Int))),(18,aI (v1_0))],[]⟩
theorem expr_visit_l1_o {n rF_expr_visit a0 k1_0_0}:z26 E0 29 (zcy n rF_expr_visit a0 k1_0_0) (S_expr_visit_l1 rF_expr_visit a0):=LoopA.oT fun _=>rfl
def zyf (r:Int):AV:=aI (r)
theorem con_expr_visit {n a0 r}(hF:zd6 n a0=some r):Con E0 true 169 [.agg [aI (a0.fOp),.sl 8 (a0.fArgs.map idA),aI (a0.fVar),aI (a0.fField),aI (a0.fKind),aI (a0.fValue.fKind),aI (a0.fValue.fNum),.str (a0.fValue.fText)],.fn 170 []] (zyf r):=by
 induction n generalizing a0 r
 case zero=>cases hF
 case succ n ih =>
 unfold zd6 at hF
 refine Con.walk _ Tryz.func169 rfl (z08 Tryz.func169 rfl rfl) rfl (Or.inr rfl) ?_
 repeat' first
  |refine AW.step ?_;conv=>whnf
  |refine z0v.o hF (fun hF=>?_) (fun hF=>?_)
  |refine z0m.o hF R_expr_node (fun a h=>con_expr_node h) (fun a hF=>?_)
  |refine IdxX.oD hF z6r (fun x hF=>?_)
  |refine z0m.o hF zyf (fun a h=>ih h) (fun a hF=>?_)
  |exact ⟨_,hF,LeX.a []⟩
  |refine expr_visit_l1_o hF (LeX.a []) (fun m v hF=>?_);unfold zcy at hF
  |exact RetX.oA hF
def znc (r:Int):AV:=aI (r)
theorem zoj {n a0 r}(hF:zc0 n a0=some r):Con E0 true 125 [.agg [aI (a0.fOp),.sl 8 (a0.fArgs.map idA),aI (a0.fVar),aI (a0.fField),aI (a0.fKind),aI (a0.fValue.fKind),aI (a0.fValue.fNum),.str (a0.fValue.fText)]] (znc r):=by
 unfold zc0 at hF
 refine Con.walk _ Tryz.func125 rfl (z08 Tryz.func125 rfl rfl) rfl (Or.inr rfl) ?_
 repeat' first
  |refine AW.step ?_;conv=>whnf
  |refine z0v.o hF (fun hF=>?_) (fun hF=>?_)
  |refine z0m.o hF y0w (fun a h=>con_expr_Size h) (fun a hF=>?_)
  |refine z0m.o hF zyf (fun a h=>con_expr_visit h) (fun a hF=>?_)
  |exact RetX.oA hF
def zy3 (w1_0:Bool):AS:=⟨[(4,.bool (w1_0))],[]⟩
theorem zxm {n}:z57 E0 12 (z6o n) zy3:=AW.jT
def zea (r:Bool):AV:=.bool (r)
theorem zfi {n a0 a1 r}(hF:z35 n a0 a1=some r):Con E0 true 123 [aI (a0),aI (a1)] (zea r):=by
 unfold z35 at hF
 refine Con.walk _ Tryz.func123 rfl (z08 Tryz.func123 rfl rfl) rfl (Or.inr rfl) ?_
 repeat' first
  |refine zxm hF (fun hF=>?_) (fun v hF=>?_);rotate_left;unfold z6o at hF
  |refine AW.regO hF (fun hF=>?_)
  |refine AW.stepU [1] ?_;conv=>whnf
  |refine z0v.o hF (fun hF=>?_) (fun hF=>?_)
  |exact ⟨_,hF,LeX.a []⟩
  |exact RetX.oA hF
def zjj (r:Bool):AV:=.bool (r)
end Go.Proofs.YtjpknpjjcddnnaaGreat
namespace Go.Proofs.YtjpknpjjcddnnaaGreat
open Go.RowKit
theorem zvh {n a0 a1 r}(hF:z90 n a0 a1=some r):Con E0 true 124 [.agg [aI (a0.fScope),aI (a0.fType),aI (a0.fVar),aI (a0.fCond.fOp),.sl 8 (a0.fCond.fArgs.map idA),aI (a0.fCond.fVar),aI (a0.fCond.fField),aI (a0.fCond.fKind),aI (a0.fCond.fValue.fKind),aI (a0.fCond.fValue.fNum),.str (a0.fCond.fValue.fText)],.ref [aI (a1.fScope),aI (a1.fType),aI (a1.fVar),aI (a1.fCond.fOp),.sl 8 (a1.fCond.fArgs.map idA),aI (a1.fCond.fVar),aI (a1.fCond.fField),aI (a1.fCond.fKind),aI (a1.fCond.fValue.fKind),aI (a1.fCond.fValue.fNum),.str (a1.fCond.fValue.fText)]] (zjj r):=by
 unfold z90 at hF
 refine Con.walk _ Tryz.func124 rfl (z08 Tryz.func124 rfl rfl) rfl (Or.inr rfl) ?_
 repeat' first
  |refine AW.step ?_;conv=>whnf
  |exact RetX.oA hF
def zy2 (a1c0:z0j)(a0:(List z0j))(v1_0:Int):AS:=⟨[(0,.sl 11 (a0.map z0q)),(1,.fn 124 [.ref [aI (a1c0.fScope),aI (a1c0.fType),aI (a1c0.fVar),aI (a1c0.fCond.fOp),.sl 8 (a1c0.fCond.fArgs.map idA),aI (a1c0.fCond.fVar),aI (a1c0.fCond.fField),aI (a1c0.fCond.fKind),aI (a1c0.fCond.fValue.fKind),aI (a1c0.fCond.fValue.fNum),.str (a1c0.fCond.fValue.fText)]]),(7,aI (((a0.map z0q).length:Int))),(8,aI (v1_0))],[]⟩
theorem zwg {n a1c0 a0 k1_0_0}:z26 E0 19 (z8d n a1c0 a0 k1_0_0) (zy2 a1c0 a0):=LoopA.oT fun _=>rfl
def zna (r:Int):AV:=aI (r)
theorem zz7 {n a0 a1c0 r}(hF:zbx n a0 a1c0=some r):Con E0 true 54 [.sl 11 (a0.map z0q),.fn 124 [.ref [aI (a1c0.fScope),aI (a1c0.fType),aI (a1c0.fVar),aI (a1c0.fCond.fOp),.sl 8 (a1c0.fCond.fArgs.map idA),aI (a1c0.fCond.fVar),aI (a1c0.fCond.fField),aI (a1c0.fCond.fKind),aI (a1c0.fCond.fValue.fKind),aI (a1c0.fCond.fValue.fNum),.str (a1c0.fCond.fValue.fText)]]] (zna r):=by
 unfold zbx at hF
 refine Con.walk _ Tryz.func54 rfl (z08 Tryz.func54 rfl rfl) rfl (Or.inr rfl) ?_
 repeat' first
  |refine AW.step ?_;conv=>whnf
  |refine z0v.o hF (fun hF=>?_) (fun hF=>?_)
  |refine IdxX.o z0q hF (fun x hF=>?_)
  |refine z0m.o hF zjj (fun a h=>zvh h) (fun a hF=>?_)
  |exact ⟨_,hF,LeX.a []⟩
  |refine zwg hF (LeX.a []) (fun m v hF=>?_);unfold z8d at hF
  |exact RetX.oA hF
def zil (r:Bool):AV:=.bool (r)
theorem zsz {n a0 a1c0 r}(hF:z8e n a0 a1c0=some r):Con E0 true 20 [.sl 11 (a0.map z0q),.fn 124 [.ref [aI (a1c0.fScope),aI (a1c0.fType),aI (a1c0.fVar),aI (a1c0.fCond.fOp),.sl 8 (a1c0.fCond.fArgs.map idA),aI (a1c0.fCond.fVar),aI (a1c0.fCond.fField),aI (a1c0.fCond.fKind),aI (a1c0.fCond.fValue.fKind),aI (a1c0.fCond.fValue.fNum),.str (a1c0.fCond.fValue.fText)]]] (zil r):=by
 unfold z8e at hF
 refine Con.walk _ Tryz.func20 rfl (z08 Tryz.func20 rfl rfl) rfl (Or.inr rfl) ?_
 repeat' first
  |refine AW.step ?_;conv=>whnf
  |refine z0m.o hF zna (fun a h=>zz7 h) (fun a hF=>?_)
  |exact RetX.oA hF
def zy8 (a1:(List z0j))(a0:z05)(v1_0:Int)(cv1_0:Int->Option (Int))(x41:z0j)(w3_1:Bool):AS:=⟨[(1,.sl 11 (a1.map z0q)),(2,.ptr 2 0),(5,aI (v1_0)),(6,.ptr 6 0),(11,.sl 11 (a1.map z0q)),(12,aI (((a1.map z0q).length:Int))),(13,aI (v1_0)),(18,.bool (w3_1))],[(2,.box 25 [aI (a0.fVars),aI (a0.fScopes),.sl 1 (a0.fStates.map z0c),.sl 17 (a0.fEdges.map z0d)]),(6,.box 59 [aI (x41.fScope),aI (x41.fType),aI (x41.fVar),aI (x41.fCond.fOp),.sl 8 (x41.fCond.fArgs.map idA),aI (x41.fCond.fVar),aI (x41.fCond.fField),aI (x41.fCond.fKind),aI (x41.fCond.fValue.fKind),aI (x41.fCond.fValue.fNum),.str (x41.fCond.fValue.fText)])]⟩
theorem zxq {n a1 a0 v1_0 cv1_0 x41}:z57 E0 52 (z4c n a1 a0 v1_0 cv1_0 x41) (zy8 a1 a0 v1_0 cv1_0 x41):=AW.jT
def zy6 (a1:(List z0j))(a0:z05)(v1_0:Int):AS:=⟨[(1,.sl 11 (a1.map z0q)),(2,.ptr 2 0),(11,.sl 11 (a1.map z0q)),(12,aI (((a1.map z0q).length:Int))),(13,aI (v1_0))],[(2,.box 25 [aI (a0.fVars),aI (a0.fScopes),.sl 1 (a0.fStates.map z0c),.sl 17 (a0.fEdges.map z0d)])]⟩
theorem zxp {n a1 a0 k1_0_0}:z26 E0 52 (z2i n a1 a0 k1_0_0) (zy6 a1 a0):=LoopA.oT fun _=>rfl
def zne (r:Int):AV:=aI (r)
theorem zz9 {n a0 a1 r}(hF:zc2 n a0 a1=some r):Con E0 true 100 [.agg [aI (a0.fVars),aI (a0.fScopes),.sl 1 (a0.fStates.map z0c),.sl 17 (a0.fEdges.map z0d)],.sl 11 (a1.map z0q)] (zne r):=by
 unfold zc2 at hF
 refine Con.walk _ Tryz.func100 rfl (z08 Tryz.func100 rfl rfl) rfl (Or.inr rfl) ?_
 repeat' first
  |refine zxq hF (fun hF=>?_) (fun v hF=>?_);rotate_left;unfold z4c at hF
  |refine AW.regO hF (fun hF=>?_)
  |refine AW.stepU [6] ?_;conv=>whnf
  |refine z0v.o hF (fun hF=>?_) (fun hF=>?_)
  |refine z0v.t ?_
  |refine IdxX.o z0q hF (fun x hF=>?_)
  |refine SlsX.o z0q hF (fun l hF=>?_)
  |refine zd1.o hF zil (fun a h=>zsz h) (fun _=>Or.inr rfl) (fun a hF=>?_)
  |refine z0m.o hF znc (fun a h=>zoj h) (fun a hF=>?_)
  |exact ⟨_,hF,LeX.a []⟩
  |refine z0m.o hF zea (fun a h=>zfi h) (fun a hF=>?_)
  |exact ⟨_,hF,LeX.a []⟩
  |refine zxp hF (LeX.a []) (fun m v hF=>?_);unfold z2i at hF
  |exact RetX.oA hF
def zwa (a0:(List z0y))(v1_0:Int×(List Int)):AS:=⟨[(3,.row 7016),(6,.sl 2 (a0.map z0p)),(7,aI (((a0.map z0p).length:Int))),(8,aI (v1_0.1))],[(7016,.row 3 1 (v1_0.2.map aI))]⟩
theorem zvi {n a0 k1_0_0}:z26 E0 19 (z7u n a0 k1_0_0) (zwa a0):=LoopA.oT fun _=>rfl
def zlm (r:(List Int)):AV:=.sl 1 (r.map aI)
theorem zxh {n a0 r}(hF:z9g n a0=some r):Con E0 false 127 [.sl 2 (a0.map z0p)] (zlm r):=by
 unfold z9g at hF
 refine Con.walk _ Tryz.func127 rfl (z08 Tryz.func127 rfl rfl) rfl (Or.inl rfl) ?_
 repeat' first
  |refine AW.step ?_;conv=>whnf
  |refine z0v.o hF (fun hF=>?_) (fun hF=>?_)
  |refine IdxX.o z0p hF (fun x hF=>?_)
  |refine AppX.o aI hF (by first|exact SubR.refl _|(repeat' first|exact SubR.nil|refine SubR.cons ?_ ?_|exact SubL.nil|refine SubL.cons ?_ ?_|exact Sub.refl _|exact Sub.nil _)) (fun l hF=>?_)
  |exact ⟨_,hF,LeX.a [(7016,16)]⟩
  |refine zvi hF (LeX.trans (LeX.adopt 3 7016 3 1 rfl rfl) (LeX.a [])) (fun m v hF=>?_);unfold z7u at hF
  |exact RetX.oA hF
def S_slices_Index_l1 (a1:Int)(a0:(List Int))(v1_0:Int):AS:=⟨[(0,.sl 1 (a0.map aI)),(1,aI (a1)),(7,aI (((a0.map aI).length:Int))),(8,aI (v1_0))],[]⟩
theorem slices_Index_l1_o {n a1 a0 k1_0_0}:z26 E0 19 (zak n a1 a0 k1_0_0) (S_slices_Index_l1 a1 a0):=LoopA.oT fun _=>rfl
def y03 (r:Int):AV:=aI (r)
theorem con_slices_Index {n a0 a1 r}(hF:zi0 n a0 a1=some r):Con E0 true 174 [.sl 1 (a0.map aI),aI (a1)] (y03 r):=by
 unfold zi0 at hF
 refine Con.walk _ Tryz.func174 rfl (z08 Tryz.func174 rfl rfl) rfl (Or.inr rfl) ?_
 repeat' first
  |refine AW.step ?_;conv=>whnf
  |refine z0v.o hF (fun hF=>?_) (fun hF=>?_)
  |refine IdxX.o aI hF (fun x hF=>?_)
  |exact ⟨_,hF,LeX.a []⟩
  |refine slices_Index_l1_o hF (LeX.a []) (fun m v hF=>?_);unfold zak at hF
  |exact RetX.oA hF
def zcq (r:Bool):AV:=.bool (r)
theorem zdh {n a0 a1 r}(hF:z72 n a0 a1=some r):Con E0 true 133 [.sl 1 (a0.map aI),aI (a1)] (zcq r):=by
 unfold z72 at hF
 refine Con.walk _ Tryz.func133 rfl (z08 Tryz.func133 rfl rfl) rfl (Or.inr rfl) ?_
 repeat' first
  |refine AW.step ?_;conv=>whnf
  |refine z0m.o hF y03 (fun a h=>con_slices_Index h) (fun a hF=>?_)
  |exact RetX.oA hF
def zy4 (a1:(List (List Int)))(a0:z05)(v1_0:Int)(x41:(List Int))(v2_1:Int):AS:=⟨[(2,.ptr 2 0),(6,.sl 1 (x41.map aI)),(9,.sl 1 (List.map (fun q=>AV.sl 1 (List.map aI q)) (a1))),(10,aI ((((List.map (fun q=>AV.sl 1 (List.map aI q)) (a1)).length:Nat):Int))),(11,aI (v1_0)),(15,.sl 1 (x41.map aI)),(16,aI (((x41.map aI).length:Int))),(17,aI (v2_1))],[(2,.box 25 [aI (a0.fVars),aI (a0.fScopes),.sl 1 (a0.fStates.map z0c),.sl 17 (a0.fEdges.map z0d)])]⟩
theorem zxn {n a1 a0 v1_0 x41 k2_1_0}:z26 E0 36 (z36 n a1 a0 v1_0 x41 k2_1_0) (zy4 a1 a0 v1_0 x41):=LoopA.oT fun _=>rfl
def zy5 (a1:(List (List Int)))(a0:z05)(v1_0:Int):AS:=⟨[(2,.ptr 2 0),(9,.sl 1 (List.map (fun q=>AV.sl 1 (List.map aI q)) (a1))),(10,aI ((((List.map (fun q=>AV.sl 1 (List.map aI q)) (a1)).length:Nat):Int))),(11,aI (v1_0))],[(2,.box 25 [aI (a0.fVars),aI (a0.fScopes),.sl 1 (a0.fStates.map z0c),.sl 17 (a0.fEdges.map z0d)])]⟩
theorem zxo {n a1 a0 k1_0_0}:z26 E0 36 (z4b n a1 a0 k1_0_0) (zy5 a1 a0):=LoopA.oT fun _=>rfl
def znd (r:Int):AV:=aI (r)
theorem zz8 {n a0 a1 r}(hF:zc1 n a0 a1=some r):Con E0 true 126 [.agg [aI (a0.fVars),aI (a0.fScopes),.sl 1 (a0.fStates.map z0c),.sl 17 (a0.fEdges.map z0d)],.sl 1 (List.map (fun q=>AV.sl 1 (List.map aI q)) (a1))] (znd r):=by
 unfold zc1 at hF
 refine Con.walk _ Tryz.func126 rfl (z08 Tryz.func126 rfl rfl) rfl (Or.inr rfl) ?_
 repeat' first
  |refine AW.step ?_;conv=>whnf
  |refine z0v.o hF (fun hF=>?_) (fun hF=>?_)
  |refine IdxX.o (fun q=>AV.sl 1 (List.map aI q)) hF (fun x hF=>?_)
  |exact ⟨_,hF,LeX.a []⟩
  |refine IdxX.o aI hF (fun x hF=>?_)
  |refine z0m.o hF zea (fun a h=>zfi h) (fun a hF=>?_)
  |refine SlsX.o aI hF (fun l hF=>?_)
  |refine z0m.o hF zcq (fun a h=>zdh h) (fun a hF=>?_)
  |exact ⟨_,hF,LeX.a []⟩
  |refine zxn hF (LeX.a []) (fun m v hF=>?_);unfold z36 at hF
  |refine zxo hF (LeX.a []) (fun m v hF=>?_);unfold z4b at hF
  |exact RetX.oA hF
def zy9 (w1_0:Bool):AS:=⟨[(2,.bool (w1_0))],[]⟩
theorem zxr {n}:z57 E0 11 (z6p n) zy9:=AW.jT
def znf (r:Bool):AV:=.bool (r)
theorem zza {n a0 r}(hF:z8x n a0=some r):Con E0 true 129 [.agg [aI (a0.fScope),aI (a0.fSpan)]] (znf r):=by
 unfold z8x at hF
 refine Con.walk _ Tryz.func129 rfl (z08 Tryz.func129 rfl rfl) rfl (Or.inr rfl) ?_
 repeat' first
  |refine zxr hF (fun hF=>?_) (fun v hF=>?_);rotate_left;unfold z6p at hF
  |refine AW.regO hF (fun hF=>?_)
  |refine AW.stepU [1] ?_;conv=>whnf
  |refine z0v.o hF (fun hF=>?_) (fun hF=>?_)
  |exact ⟨_,hF,LeX.a []⟩
  |exact RetX.oA hF
def zox (a0:(List z0y))(v1_0:Int):AS:=⟨[(0,.sl 2 (a0.map z0p)),(1,.fn 129 []),(7,aI (((a0.map z0p).length:Int))),(8,aI (v1_0))],[]⟩
theorem znz {n a0 k1_0_0}:z26 E0 19 (z5b n a0 k1_0_0) (zox a0):=LoopA.oT fun _=>rfl
def zhj (r:Int):AV:=aI (r)
theorem zqc {n a0 r}(hF:z99 n a0=some r):Con E0 true 171 [.sl 2 (a0.map z0p),.fn 129 []] (zhj r):=by
 unfold z99 at hF
 refine Con.walk _ Tryz.func171 rfl (z08 Tryz.func171 rfl rfl) rfl (Or.inr rfl) ?_
 repeat' first
  |refine AW.step ?_;conv=>whnf
  |refine z0v.o hF (fun hF=>?_) (fun hF=>?_)
  |refine IdxX.o z0p hF (fun x hF=>?_)
  |refine z0m.o hF znf (fun a h=>zza h) (fun a hF=>?_)
  |exact ⟨_,hF,LeX.a []⟩
  |refine znz hF (LeX.a []) (fun m v hF=>?_);unfold z5b at hF
  |exact RetX.oA hF
def zfr (r:Bool):AV:=.bool (r)
theorem zkj {n a0 r}(hF:z5c n a0=some r):Con E0 true 128 [.sl 2 (a0.map z0p),.fn 129 []] (zfr r):=by
 unfold z5c at hF
 refine Con.walk _ Tryz.func128 rfl (z08 Tryz.func128 rfl rfl) rfl (Or.inr rfl) ?_
 repeat' first
  |refine AW.step ?_;conv=>whnf
  |refine z0m.o hF zhj (fun a h=>zqc h) (fun a hF=>?_)
  |exact RetX.oA hF
def y0u (a1:z0h)(a0:z05)(v1_1:Int):AS:=⟨[(3,.ptr 3 0),(4,.ptr 4 0),(63,.sl 8 (a1.fChecks.map idA)),(64,aI (((a1.fChecks.map idA).length:Int))),(65,aI (v1_1))],[(3,.box 25 [aI (a0.fVars),aI (a0.fScopes),.sl 1 (a0.fStates.map z0c),.sl 17 (a0.fEdges.map z0d)]),(4,.box 51 [aI (a1.fFrom),aI (a1.fTo),aI (a1.fVar),aI (a1.fType),aI (a1.fCond.fOp),.sl 8 (a1.fCond.fArgs.map idA),aI (a1.fCond.fVar),aI (a1.fCond.fField),aI (a1.fCond.fKind),aI (a1.fCond.fValue.fKind),aI (a1.fCond.fValue.fNum),.str (a1.fCond.fValue.fText),.sl 1 (a1.fOpens.map aI),.sl 1 (a1.fCloses.map aI),.sl 8 (a1.fChecks.map idA),.sl 2 (a1.fLimits.map z0p),.sl 1 (a1.fInside.map aI)])]⟩
end Go.Proofs.YtjpknpjjcddnnaaGreat
