/- What some functions compute, over plain values. Printed by a program of mine (gen_fun.lean). -/
import Derived.Test.YtjpknpjjcddnnaaGreatK27
set_option linter.unusedVariables false
set_option linter.unusedSimpArgs false
set_option maxRecDepth 100000
set_option maxHeartbeats 8000000
namespace Go.Proofs.YtjpknpjjcddnnaaGreat
open Go.RowKit
theorem zdk {n a0 r}(hF:z2i n a0=some r):Con E0 true 83 [.agg [aI (a0.fOp),.sl 8 (a0.fArgs.map idA),aI (a0.fVar),aI (a0.fField),aI (a0.fKind),aI (a0.fValue.fKind),aI (a0.fValue.fNum),.str (a0.fValue.fText)]] (zbu r):=by
 unfold z2i at hF
 refine Con.walk _ Tryz.func83 rfl (z08 Tryz.func83 rfl rfl) rfl (Or.inr rfl) ?_
 repeat' first
  |refine AW.step ?_;conv=>whnf
  |refine z0v.o hF (fun hF=>?_) (fun hF=>?_)
  |refine z0m.o hF zbt (fun a h=>zgg h) (fun a hF=>?_)
  |refine z0m.o hF zbs (fun a h=>zgf h) (fun a hF=>?_)
  |refine z0m.o hF zef (fun a h=>zsw h) (fun a hF=>?_)
  |exact RetX.oA hF
def zvx (w1_0:Bool):AS:=⟨[(4,.bool (w1_0))],[]⟩
theorem zum {n}:z3v E0 12 (z5p n) zvx:=AW.jT
def z9c (r:Bool):AV:=.bool (r)
theorem z9k {n a0 a1 r}(hF:z14 n a0 a1=some r):Con E0 true 45 [aI (a0),aI (a1)] (z9c r):=by
 unfold z14 at hF
 refine Con.walk _ Tryz.func45 rfl (z08 Tryz.func45 rfl rfl) rfl (Or.inr rfl) ?_
 repeat' first
  |refine zum hF (fun hF=>?_) (fun v hF=>?_);rotate_left;unfold z5p at hF
  |refine AW.regO hF (fun hF=>?_)
  |refine AW.stepU [1] ?_;conv=>whnf
  |refine z0v.o hF (fun hF=>?_) (fun hF=>?_)
  |exact ⟨_,hF,LeX.a []⟩
  |exact RetX.oA hF
def zol (a1:(List z0q))(a0:z05)(v1_0:Int)(v2_2:Int):AS:=⟨[(1,.sl 11 (a1.map z0t)),(2,.ptr 2 0),(5,aI (v1_0)),(6,aI (v2_2))],[(2,.box 25 [aI (a0.fVars),aI (a0.fScopes),.sl 1 (a0.fStates.map z0d),.sl 17 (a0.fEdges.map z0e)])]⟩
theorem znn {n a1 a0 v1_0 k2_2_0}:z27 E0 70 (z59 n a1 a0 v1_0 k2_2_0) (zol a1 a0 v1_0):=LoopA.oT fun _=>rfl
def zon (a1:(List z0q))(a0:z05)(v1_0:Int)(cv1_0:Int->Option (Int))(w3_1:Bool):AS:=⟨[(1,.sl 11 (a1.map z0t)),(2,.ptr 2 0),(5,aI (v1_0)),(44,.bool (w3_1))],[(2,.box 25 [aI (a0.fVars),aI (a0.fScopes),.sl 1 (a0.fStates.map z0d),.sl 17 (a0.fEdges.map z0e)])]⟩
theorem znp {n a1 a0 v1_0 cv1_0}:z3v E0 70 (z2g n a1 a0 v1_0 cv1_0) (zon a1 a0 v1_0 cv1_0):=AW.jT
def zom (a1:(List z0q))(a0:z05)(v1_0:Int):AS:=⟨[(1,.sl 11 (a1.map z0t)),(2,.ptr 2 0),(5,aI (v1_0))],[(2,.box 25 [aI (a0.fVars),aI (a0.fScopes),.sl 1 (a0.fStates.map z0d),.sl 17 (a0.fEdges.map z0e)])]⟩
theorem zno {n a1 a0 k1_0_0}:z27 E0 70 (z1j n a1 a0 k1_0_0) (zom a1 a0):=LoopA.oT fun _=>rfl
def zha (r:Int):AV:=aI (r)
theorem zq5 {n a0 a1 r}(hF:z93 n a0 a1=some r):Con E0 true 46 [.agg [aI (a0.fVars),aI (a0.fScopes),.sl 1 (a0.fStates.map z0d),.sl 17 (a0.fEdges.map z0e)],.sl 11 (a1.map z0t)] (zha r):=by
 unfold z93 at hF
 refine Con.walk _ Tryz.func46 rfl (z08 Tryz.func46 rfl rfl) rfl (Or.inr rfl) ?_
 repeat' first
  |refine znp hF (fun hF=>?_) (fun v hF=>?_);rotate_left;unfold z2g at hF
  |refine AW.regO hF (fun hF=>?_)
  |refine AW.stepU [6] ?_;conv=>whnf
  |refine z0v.o hF (fun hF=>?_) (fun hF=>?_)
  |refine z0v.t ?_
  |refine IdxX.o z0t hF (fun x hF=>?_)
  |refine z0m.o hF zbu (fun a h=>zdk h) (fun a hF=>?_)
  |exact ⟨_,hF,LeX.a []⟩
  |exact ⟨_,hF,LeX.a []⟩
  |refine znn hF (LeX.a []) (fun m v hF=>?_);unfold z59 at hF
  |refine z0m.o hF z9c (fun a h=>z9k h) (fun a hF=>?_)
  |refine zno hF (LeX.a []) (fun m v hF=>?_);unfold z1j at hF
  |refine And.intro ⟨by kernel_rfl,by kernel_rfl⟩ ?_
  |exact RetX.oA hF
def zoj (a1:Int)(a0:(List Int))(v1_0:Int)(v2_1:Int):AS:=⟨[(0,.sl 1 (a0.map aI)),(1,aI (a1)),(5,aI (v1_0)),(6,aI (v2_1))],[]⟩
theorem znl {n a1 a0 v1_0 k2_1_0}:z27 E0 34 (z58 n a1 a0 v1_0 k2_1_0) (zoj a1 a0 v1_0):=LoopA.oT fun _=>rfl
def zok (a1:Int)(a0:(List Int))(v1_0:Int):AS:=⟨[(0,.sl 1 (a0.map aI)),(1,aI (a1)),(5,aI (v1_0))],[]⟩
theorem znm {n a1 a0 k1_0_0}:z27 E0 34 (z3e n a1 a0 k1_0_0) (zok a1 a0):=LoopA.oT fun _=>rfl
def zh9 (r:Int):AV:=aI (r)
theorem zq4 {n a0 a1 r}(hF:z7k n a0 a1=some r):Con E0 true 114 [.sl 1 (a0.map aI),aI (a1)] (zh9 r):=by
 unfold z7k at hF
 refine Con.walk _ Tryz.func114 rfl (z08 Tryz.func114 rfl rfl) rfl (Or.inr rfl) ?_
 repeat' first
  |refine AW.step ?_;conv=>whnf
  |refine z0v.o hF (fun hF=>?_) (fun hF=>?_)
  |refine IdxX.o aI hF (fun x hF=>?_)
  |refine z0m.o hF z9c (fun a h=>z9k h) (fun a hF=>?_)
  |exact ⟨_,hF,LeX.a []⟩
  |exact ⟨_,hF,LeX.a []⟩
  |refine znl hF (LeX.a []) (fun m v hF=>?_);unfold z58 at hF
  |refine znm hF (LeX.a []) (fun m v hF=>?_);unfold z3e at hF
  |refine And.intro ⟨by kernel_rfl,by kernel_rfl⟩ ?_
  |exact RetX.oA hF
def zql (a1:z0j)(v3_2:Int):AS:=⟨[(3,.ptr 3 0),(10,aI (v3_2))],[(3,.box 51 [aI (a1.fFrom),aI (a1.fTo),aI (a1.fVar),aI (a1.fType),aI (a1.fCond.fOp),.sl 8 (a1.fCond.fArgs.map idA),aI (a1.fCond.fVar),aI (a1.fCond.fField),aI (a1.fCond.fKind),aI (a1.fCond.fValue.fKind),aI (a1.fCond.fValue.fNum),.str (a1.fCond.fValue.fText),.sl 1 (a1.fOpens.map aI),.sl 1 (a1.fCloses.map aI),.sl 8 (a1.fChecks.map idA),.sl 2 (a1.fLimits.map z0r),.sl 1 (a1.fInside.map aI)])]⟩
theorem zp2 {n a1 k3_2_0}:z27 E0 65 (z40 n a1 k3_2_0) (zql a1):=LoopA.oT fun _=>rfl
def zqm (a1:z0j)(a0:z05)(k1_0_0y:(List Int))(v2_1:Int):AS:=⟨[(2,.ptr 2 0),(3,.ptr 3 0),(7,.sl 1 [.sl 1 (a1.fOpens.map aI),.sl 1 (a1.fCloses.map aI),.sl 1 (a1.fInside.map aI),.sl 1 (k1_0_0y.map aI)]),(8,aI (v2_1))],[(2,.box 25 [aI (a0.fVars),aI (a0.fScopes),.sl 1 (a0.fStates.map z0d),.sl 17 (a0.fEdges.map z0e)]),(3,.box 51 [aI (a1.fFrom),aI (a1.fTo),aI (a1.fVar),aI (a1.fType),aI (a1.fCond.fOp),.sl 8 (a1.fCond.fArgs.map idA),aI (a1.fCond.fVar),aI (a1.fCond.fField),aI (a1.fCond.fKind),aI (a1.fCond.fValue.fKind),aI (a1.fCond.fValue.fNum),.str (a1.fCond.fValue.fText),.sl 1 (a1.fOpens.map aI),.sl 1 (a1.fCloses.map aI),.sl 8 (a1.fChecks.map idA),.sl 2 (a1.fLimits.map z0r),.sl 1 (a1.fInside.map aI)])]⟩
theorem zp3 {n a1 a0 k1_0_0y k2_1_0}:z27 E0 65 (z1v n a1 a0 k1_0_0y k2_1_0) (zqm a1 a0 k1_0_0y):=LoopA.oT fun _=>rfl
def zqn (a1:z0j)(a0:z05)(v1_0:Int×(List Int)):AS:=⟨[(2,.ptr 2 0),(3,.ptr 3 0),(5,.row 7026),(6,aI (v1_0.1))],[(2,.box 25 [aI (a0.fVars),aI (a0.fScopes),.sl 1 (a0.fStates.map z0d),.sl 17 (a0.fEdges.map z0e)]),(3,.box 51 [aI (a1.fFrom),aI (a1.fTo),aI (a1.fVar),aI (a1.fType),aI (a1.fCond.fOp),.sl 8 (a1.fCond.fArgs.map idA),aI (a1.fCond.fVar),aI (a1.fCond.fField),aI (a1.fCond.fKind),aI (a1.fCond.fValue.fKind),aI (a1.fCond.fValue.fNum),.str (a1.fCond.fValue.fText),.sl 1 (a1.fOpens.map aI),.sl 1 (a1.fCloses.map aI),.sl 8 (a1.fChecks.map idA),.sl 2 (a1.fLimits.map z0r),.sl 1 (a1.fInside.map aI)]),(7026,.row 3 1 (v1_0.2.map aI))]⟩
theorem zp4 {n a1 a0 k1_0_0}:z27 E0 65 (z65 n a1 a0 k1_0_0) (zqn a1 a0):=LoopA.oT fun _=>rfl
def zim (r:Int):AV:=aI (r)
theorem zss {n a0 a1 r}(hF:z81 n a0 a1=some r):Con E0 true 84 [.agg [aI (a0.fVars),aI (a0.fScopes),.sl 1 (a0.fStates.map z0d),.sl 17 (a0.fEdges.map z0e)],.agg [aI (a1.fFrom),aI (a1.fTo),aI (a1.fVar),aI (a1.fType),aI (a1.fCond.fOp),.sl 8 (a1.fCond.fArgs.map idA),aI (a1.fCond.fVar),aI (a1.fCond.fField),aI (a1.fCond.fKind),aI (a1.fCond.fValue.fKind),aI (a1.fCond.fValue.fNum),.str (a1.fCond.fValue.fText),.sl 1 (a1.fOpens.map aI),.sl 1 (a1.fCloses.map aI),.sl 8 (a1.fChecks.map idA),.sl 2 (a1.fLimits.map z0r),.sl 1 (a1.fInside.map aI)]] (zim r):=by
 unfold z81 at hF
 refine Con.walk _ Tryz.func84 rfl (z08 Tryz.func84 rfl rfl) rfl (Or.inr rfl) ?_
 repeat' first
  |refine AW.regO hF (fun hF=>?_)
  |refine AW.frzO hF 7026 rfl (fun hF=>?_)
  |refine AW.stepU [6] ?_;conv=>whnf
  |refine z0v.o hF (fun hF=>?_) (fun hF=>?_)
  |refine IdxX.o z0r hF (fun x hF=>?_)
  |refine z0m.o hF z9c (fun a h=>z9k h) (fun a hF=>?_)
  |exact ⟨_,hF,LeX.a []⟩
  |refine zp2 hF (LeX.a []) (fun m v hF=>?_);unfold z40 at hF
  |refine IdxX.o (fun q=>AV.sl 1 (List.map aI q)) hF (fun x hF=>?_)
  |refine z0m.o hF zh9 (fun a h=>zq4 h) (fun a hF=>?_)
  |exact ⟨_,hF,LeX.a []⟩
  |refine zp3 hF (LeX.a []) (fun m v hF=>?_);unfold z1v at hF
  |refine AppX.o aI hF (by first|exact SubR.refl _|(repeat' first|exact SubR.nil|refine SubR.cons ?_ ?_|exact SubL.nil|refine SubL.cons ?_ ?_|exact Sub.refl _|exact Sub.nil _)) (fun l hF=>?_)
  |exact ⟨_,hF,LeX.a [(7026,26)]⟩
  |refine zp4 hF (LeX.trans (LeX.adopt 5 7026 3 1 rfl rfl) (LeX.a [])) (fun m v hF=>?_);unfold z65 at hF
  |refine And.intro ⟨by kernel_rfl,by kernel_rfl⟩ ?_
  |exact RetX.oA hF
def zte (a1:z0j)(a0:z05)(v1_1:Int):AS:=⟨[(3,.ptr 3 0),(4,.ptr 4 0),(9,aI (v1_1))],[(3,.box 25 [aI (a0.fVars),aI (a0.fScopes),.sl 1 (a0.fStates.map z0d),.sl 17 (a0.fEdges.map z0e)]),(4,.box 51 [aI (a1.fFrom),aI (a1.fTo),aI (a1.fVar),aI (a1.fType),aI (a1.fCond.fOp),.sl 8 (a1.fCond.fArgs.map idA),aI (a1.fCond.fVar),aI (a1.fCond.fField),aI (a1.fCond.fKind),aI (a1.fCond.fValue.fKind),aI (a1.fCond.fValue.fNum),.str (a1.fCond.fValue.fText),.sl 1 (a1.fOpens.map aI),.sl 1 (a1.fCloses.map aI),.sl 8 (a1.fChecks.map idA),.sl 2 (a1.fLimits.map z0r),.sl 1 (a1.fInside.map aI)])]⟩
theorem zru {n a1 a0 k1_1_0}:z27 E0 76 (z6y n a1 a0 k1_1_0) (zte a1 a0):=LoopA.oT fun _=>rfl
def ztf (a2:Int)(a1:z0j)(a0:z05)(w1_0:Bool):AS:=⟨[(2,aI (a2)),(3,.ptr 3 0),(4,.ptr 4 0),(42,.bool (w1_0))],[(3,.box 25 [aI (a0.fVars),aI (a0.fScopes),.sl 1 (a0.fStates.map z0d),.sl 17 (a0.fEdges.map z0e)]),(4,.box 51 [aI (a1.fFrom),aI (a1.fTo),aI (a1.fVar),aI (a1.fType),aI (a1.fCond.fOp),.sl 8 (a1.fCond.fArgs.map idA),aI (a1.fCond.fVar),aI (a1.fCond.fField),aI (a1.fCond.fKind),aI (a1.fCond.fValue.fKind),aI (a1.fCond.fValue.fNum),.str (a1.fCond.fValue.fText),.sl 1 (a1.fOpens.map aI),.sl 1 (a1.fCloses.map aI),.sl 8 (a1.fChecks.map idA),.sl 2 (a1.fLimits.map z0r),.sl 1 (a1.fInside.map aI)])]⟩
theorem zrv {n a2 a1 a0}:z3v E0 76 (z11 n a2 a1 a0) (ztf a2 a1 a0):=AW.jT
def zjc (r:Int):AV:=aI (r)
theorem zva {n a0 a1 a2 r}(hF:za5 n a0 a1 a2=some r):Con E0 true 47 [.agg [aI (a0.fVars),aI (a0.fScopes),.sl 1 (a0.fStates.map z0d),.sl 17 (a0.fEdges.map z0e)],.agg [aI (a1.fFrom),aI (a1.fTo),aI (a1.fVar),aI (a1.fType),aI (a1.fCond.fOp),.sl 8 (a1.fCond.fArgs.map idA),aI (a1.fCond.fVar),aI (a1.fCond.fField),aI (a1.fCond.fKind),aI (a1.fCond.fValue.fKind),aI (a1.fCond.fValue.fNum),.str (a1.fCond.fValue.fText),.sl 1 (a1.fOpens.map aI),.sl 1 (a1.fCloses.map aI),.sl 8 (a1.fChecks.map idA),.sl 2 (a1.fLimits.map z0r),.sl 1 (a1.fInside.map aI)],aI (a2)] (zjc r):=by
 unfold za5 at hF
 refine Con.walk _ Tryz.func47 rfl (z08 Tryz.func47 rfl rfl) rfl (Or.inr rfl) ?_
 repeat' first
  |refine zrv hF (fun hF=>?_) (fun v hF=>?_);rotate_left;unfold z11 at hF
  |refine AW.regO hF (fun hF=>?_)
  |refine AW.stepU [2] ?_;conv=>whnf
  |refine z0v.o hF (fun hF=>?_) (fun hF=>?_)
  |refine z0v.t ?_
  |refine z0v.f ?_
  |refine z0m.o hF zbu (fun a h=>zdk h) (fun a hF=>?_)
  |refine z0m.o hF zim (fun a h=>zss h) (fun a hF=>?_)
  |refine IdxX.oD hF z6u (fun x hF=>?_)
  |exact ⟨_,hF,LeX.a []⟩
  |refine zru hF (LeX.a []) (fun m v hF=>?_);unfold z6y at hF
  |refine z0m.o hF z9c (fun a h=>z9k h) (fun a hF=>?_)
  |exact ⟨_,hF,LeX.a []⟩
  |exact RetX.oA hF
def zqo (a0:z05)(v2_3:Int×Int):AS:=⟨[(1,.ptr 1 0),(5,aI (v2_3.1)),(6,aI (v2_3.2))],[(1,.box 25 [aI (a0.fVars),aI (a0.fScopes),.sl 1 (a0.fStates.map z0d),.sl 17 (a0.fEdges.map z0e)])]⟩
theorem zp5 {n a0 k2_3_0}:z27 E0 74 (z67 n a0 k2_3_0) (zqo a0):=LoopA.oT fun _=>rfl
def zqp (a0:z05)(v1_2:Int):AS:=⟨[(1,.ptr 1 0),(3,aI (v1_2))],[(1,.box 25 [aI (a0.fVars),aI (a0.fScopes),.sl 1 (a0.fStates.map z0d),.sl 17 (a0.fEdges.map z0e)])]⟩
theorem zp6 {n a0 k1_2_0}:z27 E0 74 (z68 n a0 k1_2_0) (zqp a0):=LoopA.oT fun _=>rfl
def zqq (a0:z05)(w2_1:Bool):AS:=⟨[(1,.ptr 1 0),(31,.bool (w2_1))],[(1,.box 25 [aI (a0.fVars),aI (a0.fScopes),.sl 1 (a0.fStates.map z0d),.sl 17 (a0.fEdges.map z0e)])]⟩
theorem zp7 {n a0}:z3v E0 74 (z1m n a0) (zqq a0):=AW.jT
def zqr (a0:z05)(w1_0:Bool):AS:=⟨[(1,.ptr 1 0),(15,.bool (w1_0))],[(1,.box 25 [aI (a0.fVars),aI (a0.fScopes),.sl 1 (a0.fStates.map z0d),.sl 17 (a0.fEdges.map z0e)])]⟩
theorem zp8 {n a0}:z3v E0 74 (z1w n a0) (zqr a0):=AW.jT
def zee (r:Int):AV:=aI (r)
end Go.Proofs.YtjpknpjjcddnnaaGreat
namespace Go.Proofs.YtjpknpjjcddnnaaGreat
open Go.RowKit
theorem zge {n a0 r}(hF:z6k n a0=some r):Con E0 true 14 [.agg [aI (a0.fVars),aI (a0.fScopes),.sl 1 (a0.fStates.map z0d),.sl 17 (a0.fEdges.map z0e)]] (zee r):=by
 unfold z6k at hF
 refine Con.walk _ Tryz.func14 rfl (z08 Tryz.func14 rfl rfl) rfl (Or.inr rfl) ?_
 repeat' first
  |refine zp7 hF (fun hF=>?_) (fun v hF=>?_);rotate_left;unfold z1m at hF
  |refine zp8 hF (fun hF=>?_) (fun v hF=>?_);rotate_left;unfold z1w at hF
  |refine AW.regO hF (fun hF=>?_)
  |refine AW.stepU [1,3] ?_;conv=>whnf
  |refine z0v.o hF (fun hF=>?_) (fun hF=>?_)
  |refine z0v.t ?_
  |refine IdxX.o z0e hF (fun x hF=>?_)
  |refine z0m.o hF zjc (fun a h=>zva h) (fun a hF=>?_)
  |exact ⟨_,hF,LeX.a []⟩
  |refine zp5 hF (LeX.a []) (fun m v hF=>?_);unfold z67 at hF
  |refine IdxX.o z0d hF (fun x hF=>?_)
  |refine z0m.o hF zha (fun a h=>zq5 h) (fun a hF=>?_)
  |exact ⟨_,hF,LeX.a []⟩
  |refine zp6 hF (LeX.a []) (fun m v hF=>?_);unfold z68 at hF
  |refine z0m.o hF z9c (fun a h=>z9k h) (fun a hF=>?_)
  |refine And.intro ⟨by kernel_rfl,by kernel_rfl⟩ ?_
  |exact RetX.oA hF
def S_expr_Size_l1 (rF_expr_Size:z0k->Option (Int×Int))(a0:z0k)(v1_0:Int×Int×Int):AS:=⟨[(4,aI (v1_0.1)),(5,aI (v1_0.2.1)),(11,.sl 8 (a0.fArgs.map idA)),(12,aI (((a0.fArgs.map idA).length:Int))),(13,aI (v1_0.2.2))],[]⟩
theorem expr_Size_l1_o {n rF_expr_Size a0 k1_0_0}:z27 E0 32 (zdy n rF_expr_Size a0 k1_0_0) (S_expr_Size_l1 rF_expr_Size a0):=LoopA.oT fun _=>rfl
def y0w (r:Int×Int):AV:=.tup [aI (r.1),aI (r.2)]
theorem con_expr_Size {n a0 r}(hF:zf0 n a0=some r):Con E0 true 168 [.agg [aI (a0.fOp),.sl 8 (a0.fArgs.map idA),aI (a0.fVar),aI (a0.fField),aI (a0.fKind),aI (a0.fValue.fKind),aI (a0.fValue.fNum),.str (a0.fValue.fText)]] (y0w r):=by
 induction n generalizing a0 r
 case zero=>cases hF
 case succ n ih =>
 unfold zf0 at hF
 refine Con.walk _ Tryz.func168 rfl (z08 Tryz.func168 rfl rfl) rfl (Or.inr rfl) ?_
 repeat' first
  |refine AW.step ?_;conv=>whnf
  |refine z0v.o hF (fun hF=>?_) (fun hF=>?_)
  |refine IdxX.oD hF z6u (fun x hF=>?_)
  |refine z0m.o hF y0w (fun a h=>ih h) (fun a hF=>?_)
  |exact ⟨_,hF,LeX.a []⟩
  |refine expr_Size_l1_o hF (LeX.a []) (fun m v hF=>?_);unfold zdy at hF
  |exact RetX.oA hF
def S_expr_arity_j1 (a0:Int)(w1_0:Bool):AS:=⟨[(0,aI (a0)),(4,.bool (w1_0))],[]⟩
theorem expr_arity_j1_o {n a0}:z3v E0 17 (zbi n a0) (S_expr_arity_j1 a0):=AW.jT
def R_expr_arity (r:Int×Bool):AV:=.tup [aI (r.1),.bool (r.2)]
theorem con_expr_arity {n a0 r}(hF:zj5 n a0=some r):Con E0 true 195 [aI (a0)] (R_expr_arity r):=by
 unfold zj5 at hF
 refine Con.walk _ Tryz.func195 rfl (z08 Tryz.func195 rfl rfl) rfl (Or.inr rfl) ?_
 repeat' first
  |refine expr_arity_j1_o hF (fun hF=>?_) (fun v hF=>?_);rotate_left;unfold zbi at hF
  |refine AW.regO hF (fun hF=>?_)
  |refine AW.stepU [1] ?_;conv=>whnf
  |refine z0v.o hF (fun hF=>?_) (fun hF=>?_)
  |exact ⟨_,hF,LeX.a []⟩
  |exact RetX.oA hF
def S_expr_uses_j2 (w2_1:Bool):AS:=⟨[(8,.bool (w2_1))],[]⟩
theorem expr_uses_j2_o {n}:zjn E0 11 (zcm n) S_expr_uses_j2:=AW.jT2
def S_expr_uses_j1 (a0:Int)(w1_0:Bool):AS:=⟨[(4,aI (a0)),(5,.bool (w1_0))],[]⟩
theorem expr_uses_j1_o {n a0}:zjn E0 11 (zcn n a0) (S_expr_uses_j1 a0):=AW.jT2
def R_expr_uses (r:Bool×Bool):AV:=.tup [.bool (r.1),.bool (r.2)]
theorem con_expr_uses {n a0 r}(hF:zlq n a0=some r):Con E0 true 196 [aI (a0)] (R_expr_uses r):=by
 unfold zlq at hF
 refine Con.walk _ Tryz.func196 rfl (z08 Tryz.func196 rfl rfl) rfl (Or.inr rfl) ?_
 repeat' first
  |refine expr_uses_j2_o hF (fun hF=>?_) (fun v hF=>?_);rotate_left;unfold zcm at hF
  |refine expr_uses_j1_o hF (fun hF=>?_) (fun v hF=>?_);rotate_left;unfold zcn at hF
  |refine AW.regO hF (fun hF=>?_)
  |refine AW.stepU [2,5] ?_;conv=>whnf
  |refine z0v.o hF (fun hF=>?_) (fun hF=>?_)
  |exact ⟨_,hF,LeX.a []⟩
  |exact ⟨_,hF,LeX.a []⟩
  |exact RetX.oA hF
def R_value_size (r:Int):AV:=aI (r)
theorem con_value_size {n a0 r}(hF:zeu n a0=some r):Con E0 true 223 [.agg [aI (a0.fKind),aI (a0.fNum),.str (a0.fText)]] (R_value_size r):=by
 unfold zeu at hF
 refine Con.walk _ Tryz.func223 rfl (z08 Tryz.func223 rfl rfl) rfl (Or.inr rfl) ?_
 repeat' first
  |refine AW.step ?_;conv=>whnf
  |refine z0v.o hF (fun hF=>?_) (fun hF=>?_)
  |refine z0v.t ?_
  |refine z0v.f ?_
  |exact RetX.oA hF
def zgp (r:Int):AV:=aI (r)
theorem zgd {n a0 r}(hF:zah n a0=some r):Con E0 true 207 [.agg [aI (a0.fKind),aI (a0.fNum),.str (a0.fText)]] (zgp r):=by
 unfold zah at hF
 refine Con.walk _ Tryz.func207 rfl (z08 Tryz.func207 rfl rfl) rfl (Or.inr rfl) ?_
 repeat' first
  |refine AW.step ?_;conv=>whnf
  |refine z0v.o hF (fun hF=>?_) (fun hF=>?_)
  |refine z0m.o hF R_value_size (fun a h=>con_value_size h) (fun a hF=>?_)
  |exact RetX.oA hF
def S_expr_suits_j1 (w1_0:Bool):AS:=⟨[(4,.bool (w1_0))],[]⟩
theorem expr_suits_j1_o {n}:z3v E0 16 (z9t n) S_expr_suits_j1:=AW.jT
def R_expr_suits (r:Bool):AV:=.bool (r)
theorem con_expr_suits {n a0 a1 r}(hF:zj4 n a0 a1=some r):Con E0 true 208 [aI (a0),.agg [aI (a1.fKind),aI (a1.fNum),.str (a1.fText)]] (R_expr_suits r):=by
 unfold zj4 at hF
 refine Con.walk _ Tryz.func208 rfl (z08 Tryz.func208 rfl rfl) rfl (Or.inr rfl) ?_
 repeat' first
  |refine expr_suits_j1_o hF (fun hF=>?_) (fun v hF=>?_);rotate_left;unfold z9t at hF
  |refine AW.regO hF (fun hF=>?_)
  |refine AW.stepU [1] ?_;conv=>whnf
  |refine z0v.o hF (fun hF=>?_) (fun hF=>?_)
  |refine z0v.t ?_
  |exact ⟨_,hF,LeX.a []⟩
  |exact RetX.oA hF
def y0t (w1_0:Bool):AS:=⟨[(31,.bool (w1_0))],[]⟩
theorem y0g {n}:z3v E0 32 (z54 n) y0t:=AW.jT
def zua (r:Int):AV:=aI (r)
theorem y1m {n a0 r}(hF:zdu n a0=some r):Con E0 true 197 [.agg [aI (a0.fOp),.sl 8 (a0.fArgs.map idA),aI (a0.fVar),aI (a0.fField),aI (a0.fKind),aI (a0.fValue.fKind),aI (a0.fValue.fNum),.str (a0.fValue.fText)]] (zua r):=by
 unfold zdu at hF
 refine Con.walk _ Tryz.func197 rfl (z08 Tryz.func197 rfl rfl) rfl (Or.inr rfl) ?_
 repeat' first
  |refine y0g hF (fun hF=>?_) (fun v hF=>?_);rotate_left;unfold z54 at hF
  |refine AW.regO hF (fun hF=>?_)
  |refine AW.stepU [4] ?_;conv=>whnf
  |refine z0v.o hF (fun hF=>?_) (fun hF=>?_)
  |refine z0m.o hF zgp (fun a h=>zgd h) (fun a hF=>?_)
  |refine z0m.o hF R_expr_suits (fun a h=>con_expr_suits h) (fun a hF=>?_)
  |exact ⟨_,hF,LeX.a []⟩
  |refine EqX.mk (by first|rfl|kernel_rfl) ?_
  |exact RetX.oA hF
def S_expr_node_j5 (w5_4:Bool):AS:=⟨[(113,.bool (w5_4))],[]⟩
theorem expr_node_j5_o {n}:z3v E0 114 (z0y n) S_expr_node_j5:=AW.jT
def S_expr_node_j4 (a0:z0k)(x2:Bool×Bool)(w3_2:Bool)(_:Unit):AS:=⟨[(1,.ptr 1 0),(5,.bool (x2.1)),(6,.bool (x2.2)),(7,.bool (decide (a0.fOp=4))),(8,.bool (w3_2))],[(1,.box 47 [aI (a0.fOp),.sl 8 (a0.fArgs.map idA),aI (a0.fVar),aI (a0.fField),aI (a0.fKind),aI (a0.fValue.fKind),aI (a0.fValue.fNum),.str (a0.fValue.fText)])]⟩
theorem expr_node_j4_o {n a0 x2 w3_2}:zjn E0 114 (zco n a0 x2 w3_2) (S_expr_node_j4 a0 x2 w3_2):=AW.jT2
def S_expr_node_j3 (a0:z0k)(x2:Bool×Bool)(w3_2:Bool):AS:=⟨[(1,.ptr 1 0),(5,.bool (x2.1)),(6,.bool (x2.2)),(7,.bool (decide (a0.fOp=4))),(8,.bool (w3_2))],[(1,.box 47 [aI (a0.fOp),.sl 8 (a0.fArgs.map idA),aI (a0.fVar),aI (a0.fField),aI (a0.fKind),aI (a0.fValue.fKind),aI (a0.fValue.fNum),.str (a0.fValue.fText)])]⟩
theorem expr_node_j3_o {n a0 x2}:z3v E0 114 (zcp n a0 x2) (S_expr_node_j3 a0 x2):=AW.jT
def S_expr_node_j2 (a0:z0k)(x2:Bool×Bool)(w2_1:Bool):AS:=⟨[(1,.ptr 1 0),(5,.bool (x2.1)),(6,.bool (x2.2)),(7,.bool (decide (a0.fOp=4))),(66,.bool (w2_1))],[(1,.box 47 [aI (a0.fOp),.sl 8 (a0.fArgs.map idA),aI (a0.fVar),aI (a0.fField),aI (a0.fKind),aI (a0.fValue.fKind),aI (a0.fValue.fNum),.str (a0.fValue.fText)])]⟩
theorem expr_node_j2_o {n a0 x2}:z3v E0 114 (zaj n a0 x2) (S_expr_node_j2 a0 x2):=AW.jT
def S_expr_node_j1 (a0:z0k)(x2:Bool×Bool)(w1_0:Bool):AS:=⟨[(1,.ptr 1 0),(5,.bool (x2.1)),(6,.bool (x2.2)),(52,.bool (w1_0))],[(1,.box 47 [aI (a0.fOp),.sl 8 (a0.fArgs.map idA),aI (a0.fVar),aI (a0.fField),aI (a0.fKind),aI (a0.fValue.fKind),aI (a0.fValue.fNum),.str (a0.fValue.fText)])]⟩
theorem expr_node_j1_o {n a0 x2}:z3v E0 114 (z5h n a0 x2) (S_expr_node_j1 a0 x2):=AW.jT
def R_expr_node (r:Int):AV:=aI (r)
theorem con_expr_node {n a0 r}(hF:zlr n a0=some r):Con E0 true 170 [.agg [aI (a0.fOp),.sl 8 (a0.fArgs.map idA),aI (a0.fVar),aI (a0.fField),aI (a0.fKind),aI (a0.fValue.fKind),aI (a0.fValue.fNum),.str (a0.fValue.fText)]] (R_expr_node r):=by
 unfold zlr at hF
 refine Con.walk _ Tryz.func170 rfl (z08 Tryz.func170 rfl rfl) rfl (Or.inr rfl) ?_
 repeat' first
  |refine expr_node_j5_o hF (fun hF=>?_) (fun v hF=>?_);rotate_left;unfold z0y at hF
  |refine expr_node_j4_o hF (fun hF=>?_) (fun v hF=>?_);rotate_left;unfold zco at hF
  |refine expr_node_j3_o hF (fun hF=>?_) (fun v hF=>?_);rotate_left;unfold zcp at hF
  |refine expr_node_j2_o hF (fun hF=>?_) (fun v hF=>?_);rotate_left;unfold zaj at hF
  |refine expr_node_j1_o hF (fun hF=>?_) (fun v hF=>?_);rotate_left;unfold z5h at hF
  |refine AW.regO hF (fun hF=>?_)
  |refine AW.stepU [7,10,12,13,17] ?_;conv=>whnf
  |refine z0v.o hF (fun hF=>?_) (fun hF=>?_)
  |refine z0v.t ?_
  |refine z0v.f ?_
  |refine z0m.o hF R_expr_arity (fun a h=>con_expr_arity h) (fun a hF=>?_)
  |refine z0m.o hF R_expr_uses (fun a h=>con_expr_uses h) (fun a hF=>?_)
  |exact ⟨_,hF,LeX.a []⟩
  |refine z0m.o hF zua (fun a h=>y1m h) (fun a hF=>?_)
  |exact ⟨(),hF,LeX.a []⟩
  |exact ⟨_,hF,LeX.a []⟩
  |exact ⟨_,hF,LeX.a []⟩
  |refine EqX.mk (by first|rfl|kernel_rfl) ?_
  |exact RetX.oA hF
def S_expr_visit_l1 (rF_expr_visit:z0k->Option (Int))(a0:z0k)(v1_0:Int):AS:=⟨[(1,.fn 170 []),(16,.sl 8 (a0.fArgs.map idA)),(17,aI (((a0.fArgs.map idA).length:Int))),(18,aI (v1_0))],[]⟩
theorem expr_visit_l1_o {n rF_expr_visit a0 k1_0_0}:z27 E0 29 (zd6 n rF_expr_visit a0 k1_0_0) (S_expr_visit_l1 rF_expr_visit a0):=LoopA.oT fun _=>rfl
def zyd (r:Int):AV:=aI (r)
theorem con_expr_visit {n a0 r}(hF:zdc n a0=some r):Con E0 true 169 [.agg [aI (a0.fOp),.sl 8 (a0.fArgs.map idA),aI (a0.fVar),aI (a0.fField),aI (a0.fKind),aI (a0.fValue.fKind),aI (a0.fValue.fNum),.str (a0.fValue.fText)],.fn 170 []] (zyd r):=by
 induction n generalizing a0 r
 case zero=>cases hF
 case succ n ih =>
 unfold zdc at hF
 refine Con.walk _ Tryz.func169 rfl (z08 Tryz.func169 rfl rfl) rfl (Or.inr rfl) ?_
 repeat' first
  |refine AW.step ?_;conv=>whnf
  |refine z0v.o hF (fun hF=>?_) (fun hF=>?_)
  |refine z0m.o hF R_expr_node (fun a h=>con_expr_node h) (fun a hF=>?_)
  |refine IdxX.oD hF z6u (fun x hF=>?_)
  |refine z0m.o hF zyd (fun a h=>ih h) (fun a hF=>?_)
  |exact ⟨_,hF,LeX.a []⟩
  |refine expr_visit_l1_o hF (LeX.a []) (fun m v hF=>?_);unfold zd6 at hF
  |exact RetX.oA hF
def zn6 (r:Int):AV:=aI (r)
theorem zoc {n a0 r}(hF:zc8 n a0=some r):Con E0 true 125 [.agg [aI (a0.fOp),.sl 8 (a0.fArgs.map idA),aI (a0.fVar),aI (a0.fField),aI (a0.fKind),aI (a0.fValue.fKind),aI (a0.fValue.fNum),.str (a0.fValue.fText)]] (zn6 r):=by
 unfold zc8 at hF
 refine Con.walk _ Tryz.func125 rfl (z08 Tryz.func125 rfl rfl) rfl (Or.inr rfl) ?_
 repeat' first
  |refine AW.step ?_;conv=>whnf
  |refine z0v.o hF (fun hF=>?_) (fun hF=>?_)
  |refine z0m.o hF y0w (fun a h=>con_expr_Size h) (fun a hF=>?_)
  |refine z0m.o hF zyd (fun a h=>con_expr_visit h) (fun a hF=>?_)
  |exact RetX.oA hF
def zy2 (w1_0:Bool):AS:=⟨[(4,.bool (w1_0))],[]⟩
theorem zxl {n}:z3v E0 12 (z6r n) zy2:=AW.jT
def ze7 (r:Bool):AV:=.bool (r)
theorem zfe {n a0 a1 r}(hF:z37 n a0 a1=some r):Con E0 true 123 [aI (a0),aI (a1)] (ze7 r):=by
 unfold z37 at hF
 refine Con.walk _ Tryz.func123 rfl (z08 Tryz.func123 rfl rfl) rfl (Or.inr rfl) ?_
 repeat' first
  |refine zxl hF (fun hF=>?_) (fun v hF=>?_);rotate_left;unfold z6r at hF
  |refine AW.regO hF (fun hF=>?_)
  |refine AW.stepU [1] ?_;conv=>whnf
  |refine z0v.o hF (fun hF=>?_) (fun hF=>?_)
  |exact ⟨_,hF,LeX.a []⟩
  |exact RetX.oA hF
def zjm (r:Bool):AV:=.bool (r)
end Go.Proofs.YtjpknpjjcddnnaaGreat
namespace Go.Proofs.YtjpknpjjcddnnaaGreat
open Go.RowKit
theorem zvm {n a0 a1 r}(hF:z8w n a0 a1=some r):Con E0 true 124 [.agg [aI (a0.fScope),aI (a0.fType),aI (a0.fVar),aI (a0.fCond.fOp),.sl 8 (a0.fCond.fArgs.map idA),aI (a0.fCond.fVar),aI (a0.fCond.fField),aI (a0.fCond.fKind),aI (a0.fCond.fValue.fKind),aI (a0.fCond.fValue.fNum),.str (a0.fCond.fValue.fText)],.ref [aI (a1.fScope),aI (a1.fType),aI (a1.fVar),aI (a1.fCond.fOp),.sl 8 (a1.fCond.fArgs.map idA),aI (a1.fCond.fVar),aI (a1.fCond.fField),aI (a1.fCond.fKind),aI (a1.fCond.fValue.fKind),aI (a1.fCond.fValue.fNum),.str (a1.fCond.fValue.fText)]] (zjm r):=by
 unfold z8w at hF
 refine Con.walk _ Tryz.func124 rfl (z08 Tryz.func124 rfl rfl) rfl (Or.inr rfl) ?_
 repeat' first
  |refine AW.step ?_;conv=>whnf
  |exact RetX.oA hF
def zy1 (a1c0:z0q)(a0:(List z0q))(v1_0:Int):AS:=⟨[(0,.sl 11 (a0.map z0t)),(1,.fn 124 [.ref [aI (a1c0.fScope),aI (a1c0.fType),aI (a1c0.fVar),aI (a1c0.fCond.fOp),.sl 8 (a1c0.fCond.fArgs.map idA),aI (a1c0.fCond.fVar),aI (a1c0.fCond.fField),aI (a1c0.fCond.fKind),aI (a1c0.fCond.fValue.fKind),aI (a1c0.fCond.fValue.fNum),.str (a1c0.fCond.fValue.fText)]]),(7,aI (((a0.map z0t).length:Int))),(8,aI (v1_0))],[]⟩
theorem zwm {n a1c0 a0 k1_0_0}:z27 E0 19 (z89 n a1c0 a0 k1_0_0) (zy1 a1c0 a0):=LoopA.oT fun _=>rfl
def zn3 (r:Int):AV:=aI (r)
theorem zz5 {n a0 a1c0 r}(hF:zc5 n a0 a1c0=some r):Con E0 true 54 [.sl 11 (a0.map z0t),.fn 124 [.ref [aI (a1c0.fScope),aI (a1c0.fType),aI (a1c0.fVar),aI (a1c0.fCond.fOp),.sl 8 (a1c0.fCond.fArgs.map idA),aI (a1c0.fCond.fVar),aI (a1c0.fCond.fField),aI (a1c0.fCond.fKind),aI (a1c0.fCond.fValue.fKind),aI (a1c0.fCond.fValue.fNum),.str (a1c0.fCond.fValue.fText)]]] (zn3 r):=by
 unfold zc5 at hF
 refine Con.walk _ Tryz.func54 rfl (z08 Tryz.func54 rfl rfl) rfl (Or.inr rfl) ?_
 repeat' first
  |refine AW.step ?_;conv=>whnf
  |refine z0v.o hF (fun hF=>?_) (fun hF=>?_)
  |refine IdxX.o z0t hF (fun x hF=>?_)
  |refine z0m.o hF zjm (fun a h=>zvm h) (fun a hF=>?_)
  |exact ⟨_,hF,LeX.a []⟩
  |refine zwm hF (LeX.a []) (fun m v hF=>?_);unfold z89 at hF
  |exact RetX.oA hF
def ziu (r:Bool):AV:=.bool (r)
theorem zt0 {n a0 a1c0 r}(hF:z8a n a0 a1c0=some r):Con E0 true 20 [.sl 11 (a0.map z0t),.fn 124 [.ref [aI (a1c0.fScope),aI (a1c0.fType),aI (a1c0.fVar),aI (a1c0.fCond.fOp),.sl 8 (a1c0.fCond.fArgs.map idA),aI (a1c0.fCond.fVar),aI (a1c0.fCond.fField),aI (a1c0.fCond.fKind),aI (a1c0.fCond.fValue.fKind),aI (a1c0.fCond.fValue.fNum),.str (a1c0.fCond.fValue.fText)]]] (ziu r):=by
 unfold z8a at hF
 refine Con.walk _ Tryz.func20 rfl (z08 Tryz.func20 rfl rfl) rfl (Or.inr rfl) ?_
 repeat' first
  |refine AW.step ?_;conv=>whnf
  |refine z0m.o hF zn3 (fun a h=>zz5 h) (fun a hF=>?_)
  |exact RetX.oA hF
def zy6 (a1:(List z0q))(a0:z05)(v1_0:Int)(cv1_0:Int->Option (Int))(x41:z0q)(w3_1:Bool):AS:=⟨[(1,.sl 11 (a1.map z0t)),(2,.ptr 2 0),(5,aI (v1_0)),(6,.ptr 6 0),(11,.sl 11 (a1.map z0t)),(12,aI (((a1.map z0t).length:Int))),(13,aI (v1_0)),(18,.bool (w3_1))],[(2,.box 25 [aI (a0.fVars),aI (a0.fScopes),.sl 1 (a0.fStates.map z0d),.sl 17 (a0.fEdges.map z0e)]),(6,.box 59 [aI (x41.fScope),aI (x41.fType),aI (x41.fVar),aI (x41.fCond.fOp),.sl 8 (x41.fCond.fArgs.map idA),aI (x41.fCond.fVar),aI (x41.fCond.fField),aI (x41.fCond.fKind),aI (x41.fCond.fValue.fKind),aI (x41.fCond.fValue.fNum),.str (x41.fCond.fValue.fText)])]⟩
theorem zxp {n a1 a0 v1_0 cv1_0 x41}:z3v E0 52 (z4e n a1 a0 v1_0 cv1_0 x41) (zy6 a1 a0 v1_0 cv1_0 x41):=AW.jT
def zy5 (a1:(List z0q))(a0:z05)(v1_0:Int):AS:=⟨[(1,.sl 11 (a1.map z0t)),(2,.ptr 2 0),(11,.sl 11 (a1.map z0t)),(12,aI (((a1.map z0t).length:Int))),(13,aI (v1_0))],[(2,.box 25 [aI (a0.fVars),aI (a0.fScopes),.sl 1 (a0.fStates.map z0d),.sl 17 (a0.fEdges.map z0e)])]⟩
theorem zxo {n a1 a0 k1_0_0}:z27 E0 52 (z2k n a1 a0 k1_0_0) (zy5 a1 a0):=LoopA.oT fun _=>rfl
def zn8 (r:Int):AV:=aI (r)
theorem zz7 {n a0 a1 r}(hF:zca n a0 a1=some r):Con E0 true 100 [.agg [aI (a0.fVars),aI (a0.fScopes),.sl 1 (a0.fStates.map z0d),.sl 17 (a0.fEdges.map z0e)],.sl 11 (a1.map z0t)] (zn8 r):=by
 unfold zca at hF
 refine Con.walk _ Tryz.func100 rfl (z08 Tryz.func100 rfl rfl) rfl (Or.inr rfl) ?_
 repeat' first
  |refine zxp hF (fun hF=>?_) (fun v hF=>?_);rotate_left;unfold z4e at hF
  |refine AW.regO hF (fun hF=>?_)
  |refine AW.stepU [6] ?_;conv=>whnf
  |refine z0v.o hF (fun hF=>?_) (fun hF=>?_)
  |refine z0v.t ?_
  |refine IdxX.o z0t hF (fun x hF=>?_)
  |refine SlsX.o z0t hF (fun l hF=>?_)
  |refine zbm.o hF ziu (fun a h=>zt0 h) (fun _=>Or.inr rfl) (fun a hF=>?_)
  |refine z0m.o hF zn6 (fun a h=>zoc h) (fun a hF=>?_)
  |exact ⟨_,hF,LeX.a []⟩
  |refine z0m.o hF ze7 (fun a h=>zfe h) (fun a hF=>?_)
  |exact ⟨_,hF,LeX.a []⟩
  |refine zxo hF (LeX.a []) (fun m v hF=>?_);unfold z2k at hF
  |exact RetX.oA hF
def zwg (a0:(List z0z))(v1_0:Int×(List Int)):AS:=⟨[(3,.row 7016),(6,.sl 2 (a0.map z0r)),(7,aI (((a0.map z0r).length:Int))),(8,aI (v1_0.1))],[(7016,.row 3 1 (v1_0.2.map aI))]⟩
theorem zvn {n a0 k1_0_0}:z27 E0 19 (z7q n a0 k1_0_0) (zwg a0):=LoopA.oT fun _=>rfl
def zll (r:(List Int)):AV:=.sl 1 (r.map aI)
theorem zxh {n a0 r}(hF:z9g n a0=some r):Con E0 false 127 [.sl 2 (a0.map z0r)] (zll r):=by
 unfold z9g at hF
 refine Con.walk _ Tryz.func127 rfl (z08 Tryz.func127 rfl rfl) rfl (Or.inl rfl) ?_
 repeat' first
  |refine AW.step ?_;conv=>whnf
  |refine z0v.o hF (fun hF=>?_) (fun hF=>?_)
  |refine IdxX.o z0r hF (fun x hF=>?_)
  |refine AppX.o aI hF (by first|exact SubR.refl _|(repeat' first|exact SubR.nil|refine SubR.cons ?_ ?_|exact SubL.nil|refine SubL.cons ?_ ?_|exact Sub.refl _|exact Sub.nil _)) (fun l hF=>?_)
  |exact ⟨_,hF,LeX.a [(7016,16)]⟩
  |refine zvn hF (LeX.trans (LeX.adopt 3 7016 3 1 rfl rfl) (LeX.a [])) (fun m v hF=>?_);unfold z7q at hF
  |exact RetX.oA hF
def S_slices_Index_l1 (a1:Int)(a0:(List Int))(v1_0:Int):AS:=⟨[(0,.sl 1 (a0.map aI)),(1,aI (a1)),(7,aI (((a0.map aI).length:Int))),(8,aI (v1_0))],[]⟩
theorem slices_Index_l1_o {n a1 a0 k1_0_0}:z27 E0 19 (zam n a1 a0 k1_0_0) (S_slices_Index_l1 a1 a0):=LoopA.oT fun _=>rfl
def y03 (r:Int):AV:=aI (r)
theorem con_slices_Index {n a0 a1 r}(hF:zi6 n a0 a1=some r):Con E0 true 174 [.sl 1 (a0.map aI),aI (a1)] (y03 r):=by
 unfold zi6 at hF
 refine Con.walk _ Tryz.func174 rfl (z08 Tryz.func174 rfl rfl) rfl (Or.inr rfl) ?_
 repeat' first
  |refine AW.step ?_;conv=>whnf
  |refine z0v.o hF (fun hF=>?_) (fun hF=>?_)
  |refine IdxX.o aI hF (fun x hF=>?_)
  |exact ⟨_,hF,LeX.a []⟩
  |refine slices_Index_l1_o hF (LeX.a []) (fun m v hF=>?_);unfold zam at hF
  |exact RetX.oA hF
def zcy (r:Bool):AV:=.bool (r)
theorem zdm {n a0 a1 r}(hF:z73 n a0 a1=some r):Con E0 true 133 [.sl 1 (a0.map aI),aI (a1)] (zcy r):=by
 unfold z73 at hF
 refine Con.walk _ Tryz.func133 rfl (z08 Tryz.func133 rfl rfl) rfl (Or.inr rfl) ?_
 repeat' first
  |refine AW.step ?_;conv=>whnf
  |refine z0m.o hF y03 (fun a h=>con_slices_Index h) (fun a hF=>?_)
  |exact RetX.oA hF
def zy3 (a1:(List (List Int)))(a0:z05)(v1_0:Int)(x41:(List Int))(v2_1:Int):AS:=⟨[(2,.ptr 2 0),(6,.sl 1 (x41.map aI)),(9,.sl 1 (List.map (fun q=>AV.sl 1 (List.map aI q)) (a1))),(10,aI ((((List.map (fun q=>AV.sl 1 (List.map aI q)) (a1)).length:Nat):Int))),(11,aI (v1_0)),(15,.sl 1 (x41.map aI)),(16,aI (((x41.map aI).length:Int))),(17,aI (v2_1))],[(2,.box 25 [aI (a0.fVars),aI (a0.fScopes),.sl 1 (a0.fStates.map z0d),.sl 17 (a0.fEdges.map z0e)])]⟩
theorem zxm {n a1 a0 v1_0 x41 k2_1_0}:z27 E0 36 (z38 n a1 a0 v1_0 x41 k2_1_0) (zy3 a1 a0 v1_0 x41):=LoopA.oT fun _=>rfl
def zy4 (a1:(List (List Int)))(a0:z05)(v1_0:Int):AS:=⟨[(2,.ptr 2 0),(9,.sl 1 (List.map (fun q=>AV.sl 1 (List.map aI q)) (a1))),(10,aI ((((List.map (fun q=>AV.sl 1 (List.map aI q)) (a1)).length:Nat):Int))),(11,aI (v1_0))],[(2,.box 25 [aI (a0.fVars),aI (a0.fScopes),.sl 1 (a0.fStates.map z0d),.sl 17 (a0.fEdges.map z0e)])]⟩
theorem zxn {n a1 a0 k1_0_0}:z27 E0 36 (z4d n a1 a0 k1_0_0) (zy4 a1 a0):=LoopA.oT fun _=>rfl
def zn7 (r:Int):AV:=aI (r)
theorem zz6 {n a0 a1 r}(hF:zc9 n a0 a1=some r):Con E0 true 126 [.agg [aI (a0.fVars),aI (a0.fScopes),.sl 1 (a0.fStates.map z0d),.sl 17 (a0.fEdges.map z0e)],.sl 1 (List.map (fun q=>AV.sl 1 (List.map aI q)) (a1))] (zn7 r):=by
 unfold zc9 at hF
 refine Con.walk _ Tryz.func126 rfl (z08 Tryz.func126 rfl rfl) rfl (Or.inr rfl) ?_
 repeat' first
  |refine AW.step ?_;conv=>whnf
  |refine z0v.o hF (fun hF=>?_) (fun hF=>?_)
  |refine IdxX.o (fun q=>AV.sl 1 (List.map aI q)) hF (fun x hF=>?_)
  |exact ⟨_,hF,LeX.a []⟩
  |refine IdxX.o aI hF (fun x hF=>?_)
  |refine z0m.o hF ze7 (fun a h=>zfe h) (fun a hF=>?_)
  |refine SlsX.o aI hF (fun l hF=>?_)
  |refine z0m.o hF zcy (fun a h=>zdm h) (fun a hF=>?_)
  |exact ⟨_,hF,LeX.a []⟩
  |refine zxm hF (LeX.a []) (fun m v hF=>?_);unfold z38 at hF
  |refine zxn hF (LeX.a []) (fun m v hF=>?_);unfold z4d at hF
  |exact RetX.oA hF
def zy8 (w1_0:Bool):AS:=⟨[(2,.bool (w1_0))],[]⟩
theorem zxq {n}:z3v E0 11 (z6s n) zy8:=AW.jT
def zn9 (r:Bool):AV:=.bool (r)
theorem zz8 {n a0 r}(hF:z8r n a0=some r):Con E0 true 129 [.agg [aI (a0.fScope),aI (a0.fSpan)]] (zn9 r):=by
 unfold z8r at hF
 refine Con.walk _ Tryz.func129 rfl (z08 Tryz.func129 rfl rfl) rfl (Or.inr rfl) ?_
 repeat' first
  |refine zxq hF (fun hF=>?_) (fun v hF=>?_);rotate_left;unfold z6s at hF
  |refine AW.regO hF (fun hF=>?_)
  |refine AW.stepU [1] ?_;conv=>whnf
  |refine z0v.o hF (fun hF=>?_) (fun hF=>?_)
  |exact ⟨_,hF,LeX.a []⟩
  |exact RetX.oA hF
def zot (a0:(List z0z))(v1_0:Int):AS:=⟨[(0,.sl 2 (a0.map z0r)),(1,.fn 129 []),(7,aI (((a0.map z0r).length:Int))),(8,aI (v1_0))],[]⟩
theorem znv {n a0 k1_0_0}:z27 E0 19 (z5d n a0 k1_0_0) (zot a0):=LoopA.oT fun _=>rfl
def zhg (r:Int):AV:=aI (r)
theorem zqb {n a0 r}(hF:z98 n a0=some r):Con E0 true 171 [.sl 2 (a0.map z0r),.fn 129 []] (zhg r):=by
 unfold z98 at hF
 refine Con.walk _ Tryz.func171 rfl (z08 Tryz.func171 rfl rfl) rfl (Or.inr rfl) ?_
 repeat' first
  |refine AW.step ?_;conv=>whnf
  |refine z0v.o hF (fun hF=>?_) (fun hF=>?_)
  |refine IdxX.o z0r hF (fun x hF=>?_)
  |refine z0m.o hF zn9 (fun a h=>zz8 h) (fun a hF=>?_)
  |exact ⟨_,hF,LeX.a []⟩
  |refine znv hF (LeX.a []) (fun m v hF=>?_);unfold z5d at hF
  |exact RetX.oA hF
def zfo (r:Bool):AV:=.bool (r)
theorem zkl {n a0 r}(hF:z5e n a0=some r):Con E0 true 128 [.sl 2 (a0.map z0r),.fn 129 []] (zfo r):=by
 unfold z5e at hF
 refine Con.walk _ Tryz.func128 rfl (z08 Tryz.func128 rfl rfl) rfl (Or.inr rfl) ?_
 repeat' first
  |refine AW.step ?_;conv=>whnf
  |refine z0m.o hF zhg (fun a h=>zqb h) (fun a hF=>?_)
  |exact RetX.oA hF
def y0u (a1:z0j)(a0:z05)(v1_1:Int):AS:=⟨[(3,.ptr 3 0),(4,.ptr 4 0),(63,.sl 8 (a1.fChecks.map idA)),(64,aI (((a1.fChecks.map idA).length:Int))),(65,aI (v1_1))],[(3,.box 25 [aI (a0.fVars),aI (a0.fScopes),.sl 1 (a0.fStates.map z0d),.sl 17 (a0.fEdges.map z0e)]),(4,.box 51 [aI (a1.fFrom),aI (a1.fTo),aI (a1.fVar),aI (a1.fType),aI (a1.fCond.fOp),.sl 8 (a1.fCond.fArgs.map idA),aI (a1.fCond.fVar),aI (a1.fCond.fField),aI (a1.fCond.fKind),aI (a1.fCond.fValue.fKind),aI (a1.fCond.fValue.fNum),.str (a1.fCond.fValue.fText),.sl 1 (a1.fOpens.map aI),.sl 1 (a1.fCloses.map aI),.sl 8 (a1.fChecks.map idA),.sl 2 (a1.fLimits.map z0r),.sl 1 (a1.fInside.map aI)])]⟩
end Go.Proofs.YtjpknpjjcddnnaaGreat
