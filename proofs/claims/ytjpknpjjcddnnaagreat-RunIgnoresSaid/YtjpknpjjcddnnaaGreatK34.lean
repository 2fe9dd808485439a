/- What some functions compute, over plain values. Printed by a program of mine (gen_fun.lean). Layer 25: the contract of the law RunIgnores. From a contract of the abstract walk to a law's row: whatever the arguments, it returns true, and they read as they did. From a contract of the abstract walk to a law's row of the second form. -/
import Derived.Test.YtjpknpjjcddnnaaGreatK33
import Derived.Test.YtjpknpjjcddnnaaGreatK27
import Derived.Test.YtjpknpjjcddnnaaGreatRows
import Derived.Test.YtjpknpjjcddnnaaGreatK17
import Derived.ProofKit
import Derived.Lib.SmallJoins
import Derived.Deep.Slices
import Derived.Carry
import Derived.Below
import Derived.OpenShut
import Derived.JoinedCond
set_option linter.unusedVariables false
set_option linter.unusedSimpArgs false
set_option maxRecDepth 100000
set_option maxHeartbeats 8000000
namespace Go.Proofs.YtjpknpjjcddnnaaGreat
open Go.RowKit
def zmm (a4:z01)(a3:z0h)(a2:z00)(a1:(List z01))(v2_2:Int×(List z0b)):AS:=⟨[(1,.sl 5 (a1.map z04)),(7,.ptr 7 0),(8,.ptr 8 0),(9,.ptr 9 0),(10,.ptr 10 0),(15,.ptr 15 0),(16,aI (v2_2.1))],[(7,.box 77 [aI (a2.fState),.sl 4 (a2.fBindings.map z0a),.sl 2 (a2.fStarts.map z09)]),(8,.box 51 [aI (a3.fFrom),aI (a3.fTo),aI (a3.fVar),aI (a3.fType),aI (a3.fCond.fOp),.sl 8 (a3.fCond.fArgs.map idA),aI (a3.fCond.fVar),aI (a3.fCond.fField),aI (a3.fCond.fKind),aI (a3.fCond.fValue.fKind),aI (a3.fCond.fValue.fNum),.str (a3.fCond.fValue.fText),.sl 1 (a3.fOpens.map aI),.sl 1 (a3.fCloses.map aI),.sl 8 (a3.fChecks.map idA),.sl 2 (a3.fLimits.map z0p),.sl 1 (a3.fInside.map aI)]),(9,.box 66 [aI (a4.fSource),aI (a4.fSeq),aI (a4.fType),aI (a4.fTime),.sl 3 (a4.fValues.map z06)]),(10,.box 77 [aI (0),.nils,.nils]),(15,.box 77 [aI (a3.fTo),.nils,.sl 2 (v2_2.2.map z09)])]⟩
theorem zlx {n a4 a3 a2 a1 k2_2_0}:z26 E0b 167 (z4g n a4 a3 a2 a1 k2_2_0) (zmm a4 a3 a2 a1):=LoopA.oT fun _=>rfl
def zmp (a4:z01)(a3:z0h)(a2:z00)(a1:(List z01))(w3_1:Bool):AS:=⟨[(1,.sl 5 (a1.map z04)),(7,.ptr 7 0),(8,.ptr 8 0),(9,.ptr 9 0),(10,.ptr 10 0),(70,.bool (w3_1))],[(7,.box 77 [aI (a2.fState),.sl 4 (a2.fBindings.map z0a),.sl 2 (a2.fStarts.map z09)]),(8,.box 51 [aI (a3.fFrom),aI (a3.fTo),aI (a3.fVar),aI (a3.fType),aI (a3.fCond.fOp),.sl 8 (a3.fCond.fArgs.map idA),aI (a3.fCond.fVar),aI (a3.fCond.fField),aI (a3.fCond.fKind),aI (a3.fCond.fValue.fKind),aI (a3.fCond.fValue.fNum),.str (a3.fCond.fValue.fText),.sl 1 (a3.fOpens.map aI),.sl 1 (a3.fCloses.map aI),.sl 8 (a3.fChecks.map idA),.sl 2 (a3.fLimits.map z0p),.sl 1 (a3.fInside.map aI)]),(9,.box 66 [aI (a4.fSource),aI (a4.fSeq),aI (a4.fType),aI (a4.fTime),.sl 3 (a4.fValues.map z06)]),(10,.box 77 [aI (0),.nils,.nils])]⟩
theorem zm0 {n a4 a3 a2 a1}:z57 E0b 167 (z11 n a4 a3 a2 a1) (zmp a4 a3 a2 a1):=AW.jT
def zmo (a4:z01)(a3:z0h)(a2:z00)(a1:(List z01))(x1:z0i)(x2:z2r)(v1_0:Int)(cv1_0:Int->Option (z00×Bool))(w4_6:Bool):AS:=⟨[(1,.sl 5 (a1.map z04)),(7,.ptr 7 0),(8,.ptr 8 0),(9,.ptr 9 0),(10,.ptr 10 0),(12,.ptr 12 0),(13,.sl 11 (x2.fGuards.map z0q)),(14,aI (v1_0)),(54,.bool (w4_6))],[(7,.box 77 [aI (a2.fState),.sl 4 (a2.fBindings.map z0a),.sl 2 (a2.fStarts.map z09)]),(8,.box 51 [aI (a3.fFrom),aI (a3.fTo),aI (a3.fVar),aI (a3.fType),aI (a3.fCond.fOp),.sl 8 (a3.fCond.fArgs.map idA),aI (a3.fCond.fVar),aI (a3.fCond.fField),aI (a3.fCond.fKind),aI (a3.fCond.fValue.fKind),aI (a3.fCond.fValue.fNum),.str (a3.fCond.fValue.fText),.sl 1 (a3.fOpens.map aI),.sl 1 (a3.fCloses.map aI),.sl 8 (a3.fChecks.map idA),.sl 2 (a3.fLimits.map z0p),.sl 1 (a3.fInside.map aI)]),(9,.box 66 [aI (a4.fSource),aI (a4.fSeq),aI (a4.fType),aI (a4.fTime),.sl 3 (a4.fValues.map z06)]),(10,.box 77 [aI (0),.nils,.nils]),(12,.box 167 [.sl 1 (List.map (fun q=>AV.sl 5 (List.map z04 q)) (x1.fVars))])]⟩
theorem zlz {n a4 a3 a2 a1 x1 x2 v1_0 cv1_0}:z57 E0b 167 (z2s n a4 a3 a2 a1 x1 x2 v1_0 cv1_0) (zmo a4 a3 a2 a1 x1 x2 v1_0 cv1_0):=AW.jT
def zmn (a4:z01)(a3:z0h)(a2:z00)(a1:(List z01))(x1:z0i)(x2:z2r)(v1_0:Int):AS:=⟨[(1,.sl 5 (a1.map z04)),(7,.ptr 7 0),(8,.ptr 8 0),(9,.ptr 9 0),(10,.ptr 10 0),(12,.ptr 12 0),(13,.sl 11 (x2.fGuards.map z0q)),(14,aI (v1_0))],[(7,.box 77 [aI (a2.fState),.sl 4 (a2.fBindings.map z0a),.sl 2 (a2.fStarts.map z09)]),(8,.box 51 [aI (a3.fFrom),aI (a3.fTo),aI (a3.fVar),aI (a3.fType),aI (a3.fCond.fOp),.sl 8 (a3.fCond.fArgs.map idA),aI (a3.fCond.fVar),aI (a3.fCond.fField),aI (a3.fCond.fKind),aI (a3.fCond.fValue.fKind),aI (a3.fCond.fValue.fNum),.str (a3.fCond.fValue.fText),.sl 1 (a3.fOpens.map aI),.sl 1 (a3.fCloses.map aI),.sl 8 (a3.fChecks.map idA),.sl 2 (a3.fLimits.map z0p),.sl 1 (a3.fInside.map aI)]),(9,.box 66 [aI (a4.fSource),aI (a4.fSeq),aI (a4.fType),aI (a4.fTime),.sl 3 (a4.fValues.map z06)]),(10,.box 77 [aI (0),.nils,.nils]),(12,.box 167 [.sl 1 (List.map (fun q=>AV.sl 5 (List.map z04 q)) (x1.fVars))])]⟩
theorem zly {n a4 a3 a2 a1 x1 x2 k1_0_0}:z26 E0b 167 (z20 n a4 a3 a2 a1 x1 x2 k1_0_0) (zmn a4 a3 a2 a1 x1 x2):=LoopA.oT fun _=>rfl
def zgq (r:z00×Bool):AV:=.tup [.agg [aI (r.1.fState),.sl 4 (r.1.fBindings.map z0a),.sl 2 (r.1.fStarts.map z09)],.bool (r.2)]
theorem zo5 {n a0 a1 a2 a3 a4 r}(hF:z4r n a0 a1 a2 a3 a4=some r):Con E0 false 122 [.agg [aI (a0.fVars),aI (a0.fScopes),.sl 1 (a0.fStates.map z0c),.sl 17 (a0.fEdges.map z0d)],.sl 5 (a1.map z04),.agg [aI (a2.fState),.sl 4 (a2.fBindings.map z0a),.sl 2 (a2.fStarts.map z09)],.agg [aI (a3.fFrom),aI (a3.fTo),aI (a3.fVar),aI (a3.fType),aI (a3.fCond.fOp),.sl 8 (a3.fCond.fArgs.map idA),aI (a3.fCond.fVar),aI (a3.fCond.fField),aI (a3.fCond.fKind),aI (a3.fCond.fValue.fKind),aI (a3.fCond.fValue.fNum),.str (a3.fCond.fValue.fText),.sl 1 (a3.fOpens.map aI),.sl 1 (a3.fCloses.map aI),.sl 8 (a3.fChecks.map idA),.sl 2 (a3.fLimits.map z0p),.sl 1 (a3.fInside.map aI)],.agg [aI (a4.fSource),aI (a4.fSeq),aI (a4.fType),aI (a4.fTime),.sl 3 (a4.fValues.map z06)]] (zgq r):=by
 unfold z4r at hF
 refine Con.env (E:=E0b) rfl rfl ?_
 refine Con.walk _ Tryz.func122 rfl (z08 Tryz.func122 rfl rfl) rfl (Or.inl rfl) ?_
 repeat' first
  |refine zm0 hF (fun hF=>?_) (fun v hF=>?_);rotate_left;unfold z11 at hF
  |refine zlz hF (fun hF=>?_) (fun v hF=>?_);rotate_left;unfold z2s at hF
  |refine AW.regO hF (fun hF=>?_)
  |refine AW.frzO hF 125 rfl (fun hF=>?_)
  |refine AW.stepU [21,6,8] ?_;conv=>whnf
  |refine z0v.o hF (fun hF=>?_) (fun hF=>?_)
  |refine z0m.o hF zdl (fun a h=>Con.env rfl rfl (zeg h)) (fun a hF=>?_)
  |refine IdxX.o z0c hF (fun x hF=>?_)
  |refine AppX.o0 z0a hF (by first|exact SubR.refl _|(repeat' first|exact SubR.nil|refine SubR.cons ?_ ?_|exact SubL.nil|refine SubL.cons ?_ ?_|exact Sub.refl _|exact Sub.nil _)) (fun l hF=>?_)
  |refine z0m.o hF z7z (fun a h=>Con.env rfl rfl (z85 h)) (fun a hF=>?_)
  |refine OpX.bldS z0a hF rfl rfl rfl rfl rfl rfl rfl rfl rfl rfl rfl rfl rfl rfl (fun l hF=>?_)
  |refine AppX.o z0a hF (by first|exact SubR.refl _|(repeat' first|exact SubR.nil|refine SubR.cons ?_ ?_|exact SubL.nil|refine SubL.cons ?_ ?_|exact Sub.refl _|exact Sub.nil _)) (fun l hF=>?_)
  |refine OpX.bldR z04 hF rfl rfl rfl rfl rfl rfl rfl rfl rfl rfl rfl rfl rfl rfl rfl rfl (by first|exact SubR.refl _|(repeat' first|exact SubR.nil|refine SubR.cons ?_ ?_|exact SubL.nil|refine SubL.cons ?_ ?_|exact Sub.refl _|exact Sub.nil _)) rfl (fun l hF=>?_)
  |refine AppX.o z04 hF (by first|exact SubR.refl _|(repeat' first|exact SubR.nil|refine SubR.cons ?_ ?_|exact SubL.nil|refine SubL.cons ?_ ?_|exact Sub.refl _|exact Sub.nil _)) (fun l hF=>?_)
  |refine zd1.oE hF 130 zdl rfl (fun a h=>Con.env rfl rfl (zeg h)) rfl rfl (fun a hF=>?_)
  |refine IdxX.o aI hF (fun x hF=>?_)
  |refine z0m.o hF ze3 (fun a h=>Con.env rfl rfl (zg2 h)) (fun a hF=>?_)
  |exact ⟨_,hF,LeX.a []⟩
  |refine zlu hF (LeX.a []) (fun m v hF=>?_);unfold z4d at hF
  |refine IdxX.oD hF z6r (fun x hF=>?_)
  |refine z0m.o hF zbi (fun a h=>Con.env rfl rfl (zdc h)) (fun a hF=>?_)
  |refine z0m.o hF zbi (fun a h=>Con.sub (by repeat' first|exact Sub.nil _|exact Sub.refl _|refine Sub.agg ?_|refine Sub.tup ?_|refine Sub.fn ?_|exact SubL.nil|refine SubL.cons ?_ ?_|refine Sub.sl _ ?_|exact SubE.nil|refine SubE.cons ?_ ?_) (Con.env rfl rfl (zdc h))) (fun a hF=>?_)
  |exact ⟨_,hF,LeX.a []⟩
  |refine zlv hF (LeX.a []) (fun m v hF=>?_);unfold z4e at hF
  |refine IdxX.o z0p hF (fun x hF=>?_)
  |refine z0m.o hF zj6 (fun a h=>Con.env rfl rfl (zv2 h)) (fun a hF=>?_)
  |exact ⟨_,hF,LeX.a []⟩
  |refine zlw hF (LeX.a []) (fun m v hF=>?_);unfold z4f at hF
  |refine z0m.o hF zhd (fun a h=>Con.env rfl rfl (zq6 h)) (fun a hF=>?_)
  |refine zlx hF (LeX.a []) (fun m v hF=>?_);unfold z4g at hF
  |exact ⟨_,hF,LeX.a []⟩
  |exact ⟨_,hF,LeX.a []⟩
  |refine IdxX.o z0q hF (fun x hF=>?_)
  |refine z0m.o hF zl3 (fun a h=>Con.env rfl rfl (zwy h)) (fun a hF=>?_)
  |refine z0m.o hF zcp (fun a h=>Con.env rfl rfl (zfa h)) (fun a hF=>?_)
  |exact ⟨_,hF,LeX.a []⟩
  |refine zly hF (LeX.a []) (fun m v hF=>?_);unfold z20 at hF
  |refine And.intro ⟨by kernel_rfl,by kernel_rfl⟩ ?_
  |exact RetX.oA hF
def zw0 (a1:z03)(a0:(List z03))(k1_0_0y:Int)(w3_1:Bool):AS:=⟨[(0,.sl 1 (a0.map z0g)),(3,.ptr 3 0),(5,aI (k1_0_0y)),(34,.bool (w3_1))],[(3,.box 83 [.sl 4 (a1.fBindings.map z0a)])]⟩
theorem zuq {n a1 a0 k1_0_0y}:z57 E0 49 (z5q n a1 a0 k1_0_0y) (zw0 a1 a0 k1_0_0y):=AW.jT
def zvz (a1:z03)(a0:(List z03))(v1_0:Int)(k1_0_0:Int->Option ((List z03)))(cv1_0:Int->Option ((List z03)))(w4_2:Bool):AS:=⟨[(0,.sl 1 (a0.map z0g)),(3,.ptr 3 0),(5,aI (v1_0)),(19,.bool (w4_2))],[(3,.box 83 [.sl 4 (a1.fBindings.map z0a)])]⟩
theorem zup {n a1 a0 v1_0 k1_0_0 cv1_0}:z57 E0 49 (z5p n a1 a0 v1_0 k1_0_0 cv1_0) (zvz a1 a0 v1_0 k1_0_0 cv1_0):=AW.jT
def zvy (a1:z03)(a0:(List z03))(v1_0:Int):AS:=⟨[(0,.sl 1 (a0.map z0g)),(3,.ptr 3 0),(5,aI (v1_0))],[(3,.box 83 [.sl 4 (a1.fBindings.map z0a)])]⟩
theorem zuo {n a1 a0 k1_0_0}:z26 E0 49 (z3s n a1 a0 k1_0_0) (zvy a1 a0):=LoopA.oT fun _=>rfl
def zdn (r:(List z03)):AV:=.sl 1 (r.map z0g)
theorem zeh {n a0 a1 r}(hF:z82 n a0 a1=some r):Con E0 false 63 [.sl 1 (a0.map z0g),.agg [.sl 4 (a1.fBindings.map z0a)]] (zdn r):=by
 unfold z82 at hF
 refine Con.walk _ Tryz.func63 rfl (z08 Tryz.func63 rfl rfl) rfl (Or.inl rfl) ?_
 repeat' first
  |refine zuq hF (fun hF=>?_) (fun v hF=>?_);rotate_left;unfold z5q at hF
  |refine zup hF (fun hF=>?_) (fun v hF=>?_);rotate_left;unfold z5p at hF
  |refine AW.regO hF (fun hF=>?_)
  |refine AW.stepU [2,4] ?_;conv=>whnf
  |refine z0v.o hF (fun hF=>?_) (fun hF=>?_)
  |refine SlsX.o z0g hF (fun l hF=>?_)
  |refine AppX.o0 z0g hF (by first|exact SubR.refl _|(repeat' first|exact SubR.nil|refine SubR.cons ?_ ?_|exact SubL.nil|refine SubL.cons ?_ ?_|exact Sub.refl _|exact Sub.nil _)) (fun l hF=>?_)
  |refine AppX.o z0g hF (by first|exact SubR.refl _|(repeat' first|exact SubR.nil|refine SubR.cons ?_ ?_|exact SubL.nil|refine SubL.cons ?_ ?_|exact Sub.refl _|exact Sub.nil _)) (fun l hF=>?_)
  |refine IdxX.o z0g hF (fun x hF=>?_)
  |refine z0m.o hF zab (fun a h=>zcb h) (fun a hF=>?_)
  |exact ⟨_,hF,LeX.a []⟩
  |exact ⟨_,hF,LeX.a []⟩
  |refine zuo hF (LeX.a []) (fun m v hF=>?_);unfold z3s at hF
  |refine And.intro ⟨by kernel_rfl,by kernel_rfl⟩ ?_
  |exact RetX.oA hF
def zvn (a3:z01)(a2:z00)(a1:(List z01))(a0:z05)(x4:(List z0h))(v1_1:(List z00)×(List z03)×Int):AS:=⟨[(1,.sl 5 (a1.map z04)),(4,.ptr 4 0),(6,.ptr 6 0),(7,.ptr 7 0),(10,.sl 3 (v1_1.1.map z0e)),(11,.sl 1 (v1_1.2.1.map z0g)),(12,.sl 17 (x4.map z0d)),(13,aI (v1_1.2.2))],[(4,.box 25 [aI (a0.fVars),aI (a0.fScopes),.sl 1 (a0.fStates.map z0c),.sl 17 (a0.fEdges.map z0d)]),(6,.box 77 [aI (a2.fState),.sl 4 (a2.fBindings.map z0a),.sl 2 (a2.fStarts.map z09)]),(7,.box 66 [aI (a3.fSource),aI (a3.fSeq),aI (a3.fType),aI (a3.fTime),.sl 3 (a3.fValues.map z06)])]⟩
theorem zud {n a3 a2 a1 a0 x4 k1_1_0}:z26 E0 61 (z3p n a3 a2 a1 a0 x4 k1_1_0) (zvn a3 a2 a1 a0 x4):=LoopA.oT fun _=>rfl
def zvo (a3:z01)(a2:z00)(a1:(List z01))(a0:z05)(w1_0:(List z00)):AS:=⟨[(1,.sl 5 (a1.map z04)),(4,.ptr 4 0),(6,.ptr 6 0),(7,.ptr 7 0),(10,.sl 3 (w1_0.map z0e)),(11,.nils)],[(4,.box 25 [aI (a0.fVars),aI (a0.fScopes),.sl 1 (a0.fStates.map z0c),.sl 17 (a0.fEdges.map z0d)]),(6,.box 77 [aI (a2.fState),.sl 4 (a2.fBindings.map z0a),.sl 2 (a2.fStarts.map z09)]),(7,.box 66 [aI (a3.fSource),aI (a3.fSeq),aI (a3.fType),aI (a3.fTime),.sl 3 (a3.fValues.map z06)])]⟩
theorem zue {n a3 a2 a1 a0}:zjk E0 61 (z5m n a3 a2 a1 a0) (zvo a3 a2 a1 a0):=AW.jT2
def zl4 (r:(List z00)×(List z03)):AV:=.tup [.sl 3 (r.1.map z0e),.sl 1 (r.2.map z0g)]
theorem zwz {n a0 a1 a2 a3 r}(hF:zas n a0 a1 a2 a3=some r):Con E0 false 99 [.agg [aI (a0.fVars),aI (a0.fScopes),.sl 1 (a0.fStates.map z0c),.sl 17 (a0.fEdges.map z0d)],.sl 5 (a1.map z04),.agg [aI (a2.fState),.sl 4 (a2.fBindings.map z0a),.sl 2 (a2.fStarts.map z09)],.agg [aI (a3.fSource),aI (a3.fSeq),aI (a3.fType),aI (a3.fTime),.sl 3 (a3.fValues.map z06)]] (zl4 r):=by
 unfold zas at hF
 refine Con.walk _ Tryz.func99 rfl (z08 Tryz.func99 rfl rfl) rfl (Or.inl rfl) ?_
 repeat' first
  |refine zue hF (fun hF=>?_) (fun v hF=>?_);rotate_left;unfold z5m at hF
  |refine AW.regO hF (fun hF=>?_)
  |refine AW.stepU [3,11] ?_;conv=>whnf
  |refine z0v.o hF (fun hF=>?_) (fun hF=>?_)
  |refine z0m.o hF zja (fun a h=>zv6 h) (fun a hF=>?_)
  |refine IdxX.o z0d hF (fun x hF=>?_)
  |refine z0m.o hF zgq (fun a h=>zo5 h) (fun a hF=>?_)
  |exact ⟨_,hF,LeX.a []⟩
  |refine z0m.o hF zdn (fun a h=>zeh h) (fun a hF=>?_)
  |refine z0m.o hF zdk (fun a h=>zef h) (fun a hF=>?_)
  |refine zud hF (LeX.trans (LeX.put 11 _ (by repeat' first|exact Sub.nil _|exact Sub.refl _|refine Sub.agg ?_|refine Sub.tup ?_|refine Sub.fn ?_|exact SubL.nil|refine SubL.cons ?_ ?_|refine Sub.sl _ ?_|exact SubE.nil|refine SubE.cons ?_ ?_)) (LeX.of [] rfl ⟨⟨rfl,rfl⟩,⟨rfl,rfl⟩,⟨rfl,rfl⟩,⟨rfl,rfl⟩,⟨rfl,rfl⟩,⟨rfl,rfl⟩,⟨rfl,rfl⟩,⟨rfl,rfl⟩,trivial⟩ ⟨⟨rfl,rfl⟩,⟨rfl,rfl⟩,⟨rfl,rfl⟩,trivial⟩)) (fun m v hF=>?_);unfold z3p at hF
  |refine z0m.o hF zic (fun a h=>zsp h) (fun a hF=>?_)
  |refine z0m.o hF zdk (fun a h=>Con.sub (by repeat' first|exact Sub.nil _|exact Sub.refl _|refine Sub.agg ?_|refine Sub.tup ?_|refine Sub.fn ?_|exact SubL.nil|refine SubL.cons ?_ ?_|refine Sub.sl _ ?_|exact SubE.nil|refine SubE.cons ?_ ?_) (zef h)) (fun a hF=>?_)
  |exact ⟨_,hF,LeX.a []⟩
  |exact ⟨_,hF,LeX.trans (LeX.put 10 _ (by repeat' first|exact Sub.nil _|exact Sub.refl _|refine Sub.agg ?_|refine Sub.tup ?_|refine Sub.fn ?_|exact SubL.nil|refine SubL.cons ?_ ?_|refine Sub.sl _ ?_|exact SubE.nil|refine SubE.cons ?_ ?_)) (LeX.of [] rfl ⟨⟨rfl,rfl⟩,⟨rfl,rfl⟩,⟨rfl,rfl⟩,⟨rfl,rfl⟩,⟨rfl,rfl⟩,⟨rfl,rfl⟩,trivial⟩ ⟨⟨rfl,rfl⟩,⟨rfl,rfl⟩,⟨rfl,rfl⟩,trivial⟩)⟩
  |refine And.intro ⟨by kernel_rfl,by kernel_rfl⟩ ?_
  |exact RetX.oA hF
def zvp (a3:z01)(a2:(List z00))(a1:(List z01))(a0:z05)(v1_0:(List z00)×(List z03)×Int)(k2_1_0y0:(List z00))(k2_1_0y1:(List z03))(v3_2:(List z03)×Int):AS:=⟨[(1,.sl 5 (a1.map z04)),(2,.sl 3 (a2.map z0e)),(4,.ptr 4 0),(7,.ptr 7 0),(10,.sl 3 (k2_1_0y0.map z0e)),(11,.sl 1 (v3_2.1.map z0g)),(12,aI (v1_0.2.2)),(14,.sl 1 (k2_1_0y1.map z0g)),(16,aI (v3_2.2))],[(4,.box 25 [aI (a0.fVars),aI (a0.fScopes),.sl 1 (a0.fStates.map z0c),.sl 17 (a0.fEdges.map z0d)]),(7,.box 66 [aI (a3.fSource),aI (a3.fSeq),aI (a3.fType),aI (a3.fTime),.sl 3 (a3.fValues.map z06)])]⟩
theorem zuf {n a3 a2 a1 a0 v1_0 k2_1_0y0 k2_1_0y1 k3_2_0}:z26 E0 60 (z7i n a3 a2 a1 a0 v1_0 k2_1_0y0 k2_1_0y1 k3_2_0) (zvp a3 a2 a1 a0 v1_0 k2_1_0y0 k2_1_0y1):=LoopA.oT fun _=>rfl
def zvq (a3:z01)(a2:(List z00))(a1:(List z01))(a0:z05)(v1_0:(List z00)×(List z03)×Int)(x44:(List z00)×(List z03))(v2_1:(List z00)×Int):AS:=⟨[(1,.sl 5 (a1.map z04)),(2,.sl 3 (a2.map z0e)),(4,.ptr 4 0),(7,.ptr 7 0),(10,.sl 3 (v2_1.1.map z0e)),(11,.sl 1 (v1_0.2.1.map z0g)),(12,aI (v1_0.2.2)),(13,.sl 3 (x44.1.map z0e)),(14,.sl 1 (x44.2.map z0g)),(15,aI (v2_1.2))],[(4,.box 25 [aI (a0.fVars),aI (a0.fScopes),.sl 1 (a0.fStates.map z0c),.sl 17 (a0.fEdges.map z0d)]),(7,.box 66 [aI (a3.fSource),aI (a3.fSeq),aI (a3.fType),aI (a3.fTime),.sl 3 (a3.fValues.map z06)])]⟩
theorem zug {n a3 a2 a1 a0 v1_0 x44 k2_1_0}:z26 E0 60 (z7j n a3 a2 a1 a0 v1_0 x44 k2_1_0) (zvq a3 a2 a1 a0 v1_0 x44):=LoopA.oT fun _=>rfl
def zvr (a3:z01)(a2:(List z00))(a1:(List z01))(a0:z05)(v1_0:(List z00)×(List z03)×Int):AS:=⟨[(1,.sl 5 (a1.map z04)),(2,.sl 3 (a2.map z0e)),(4,.ptr 4 0),(7,.ptr 7 0),(10,.sl 3 (v1_0.1.map z0e)),(11,.sl 1 (v1_0.2.1.map z0g)),(12,aI (v1_0.2.2))],[(4,.box 25 [aI (a0.fVars),aI (a0.fScopes),.sl 1 (a0.fStates.map z0c),.sl 17 (a0.fEdges.map z0d)]),(7,.box 66 [aI (a3.fSource),aI (a3.fSeq),aI (a3.fType),aI (a3.fTime),.sl 3 (a3.fValues.map z06)])]⟩
theorem zuh {n a3 a2 a1 a0 k1_0_0}:z26 E0 60 (z7k n a3 a2 a1 a0 k1_0_0) (zvr a3 a2 a1 a0):=LoopA.oT fun _=>rfl
def zl5 (r:(List z00)×(List z03)):AV:=.tup [.sl 3 (r.1.map z0e),.sl 1 (r.2.map z0g)]
theorem zx0 {n a0 a1 a2 a3 r}(hF:zat n a0 a1 a2 a3=some r):Con E0 false 68 [.agg [aI (a0.fVars),aI (a0.fScopes),.sl 1 (a0.fStates.map z0c),.sl 17 (a0.fEdges.map z0d)],.sl 5 (a1.map z04),.sl 3 (a2.map z0e),.agg [aI (a3.fSource),aI (a3.fSeq),aI (a3.fType),aI (a3.fTime),.sl 3 (a3.fValues.map z06)]] (zl5 r):=by
 unfold zat at hF
 refine Con.walk _ Tryz.func68 rfl (z08 Tryz.func68 rfl rfl) rfl (Or.inl rfl) ?_
 repeat' first
  |refine AW.step ?_;conv=>whnf
  |refine z0v.o hF (fun hF=>?_) (fun hF=>?_)
  |refine IdxX.o z0e hF (fun x hF=>?_)
  |refine z0m.o hF zl4 (fun a h=>zwz h) (fun a hF=>?_)
  |exact ⟨_,hF,LeX.a []⟩
  |refine IdxX.o z0g hF (fun x hF=>?_)
  |refine z0m.o hF zdn (fun a h=>zeh h) (fun a hF=>?_)
  |exact ⟨_,hF,LeX.a []⟩
  |refine zuf hF (LeX.a []) (fun m v hF=>?_);unfold z7i at hF
  |refine z0m.o hF zdk (fun a h=>zef h) (fun a hF=>?_)
  |exact ⟨_,hF,LeX.a []⟩
  |refine zug hF (LeX.a []) (fun m v hF=>?_);unfold z7j at hF
  |refine zuh hF (LeX.trans (LeX.put 10 _ (by repeat' first|exact Sub.nil _|exact Sub.refl _|refine Sub.agg ?_|refine Sub.tup ?_|refine Sub.fn ?_|exact SubL.nil|refine SubL.cons ?_ ?_|refine Sub.sl _ ?_|exact SubE.nil|refine SubE.cons ?_ ?_)) (LeX.trans (LeX.put 11 _ (by repeat' first|exact Sub.nil _|exact Sub.refl _|refine Sub.agg ?_|refine Sub.tup ?_|refine Sub.fn ?_|exact SubL.nil|refine SubL.cons ?_ ?_|refine Sub.sl _ ?_|exact SubE.nil|refine SubE.cons ?_ ?_)) (LeX.of [] rfl ⟨⟨rfl,rfl⟩,⟨rfl,rfl⟩,⟨rfl,rfl⟩,⟨rfl,rfl⟩,⟨rfl,rfl⟩,⟨rfl,rfl⟩,⟨rfl,rfl⟩,trivial⟩ ⟨⟨rfl,rfl⟩,⟨rfl,rfl⟩,trivial⟩))) (fun m v hF=>?_);unfold z7k at hF
  |refine And.intro ⟨by kernel_rfl,by kernel_rfl⟩ ?_
  |exact RetX.oA hF
end Go.Proofs.YtjpknpjjcddnnaaGreat
namespace Go.Proofs.YtjpknpjjcddnnaaGreat
open Go.RowKit
def zop (a2:Int)(a1:(List z01))(a0:z05)(v1_0:(List z00)×(List z03)×Int)(cv1_0:((List z00)×(List z03)×Int)->Option ((List z00)×(List z03)×Bool))(k2_1_0y0:(List z03))(k2_1_0y1:(List z00))(w3_2:Bool):AS:=⟨[(1,.sl 5 (a1.map z04)),(2,aI (a2)),(3,.ptr 3 0),(10,.sl 1 (k2_1_0y0.map z0g)),(11,aI (v1_0.2.2)),(12,.sl 3 (k2_1_0y1.map z0e)),(55,.bool (w3_2))],[(3,.box 25 [aI (a0.fVars),aI (a0.fScopes),.sl 1 (a0.fStates.map z0c),.sl 17 (a0.fEdges.map z0d)])]⟩
theorem znr {n a2 a1 a0 v1_0 cv1_0 k2_1_0y0 k2_1_0y1}:z57 E0 59 (z3b n a2 a1 a0 v1_0 cv1_0 k2_1_0y0 k2_1_0y1) (zop a2 a1 a0 v1_0 cv1_0 k2_1_0y0 k2_1_0y1):=AW.jT
def zon (a2:Int)(a1:(List z01))(a0:z05)(v1_0:(List z00)×(List z03)×Int)(x45:(List z00)×(List z03))(v2_1:(List z03)×Int):AS:=⟨[(1,.sl 5 (a1.map z04)),(2,aI (a2)),(3,.ptr 3 0),(10,.sl 1 (v2_1.1.map z0g)),(11,aI (v1_0.2.2)),(12,.sl 3 (x45.1.map z0e)),(13,.sl 1 (x45.2.map z0g)),(14,aI (v2_1.2))],[(3,.box 25 [aI (a0.fVars),aI (a0.fScopes),.sl 1 (a0.fStates.map z0c),.sl 17 (a0.fEdges.map z0d)])]⟩
theorem znp {n a2 a1 a0 v1_0 x45 k2_1_0}:z26 E0 59 (z58 n a2 a1 a0 v1_0 x45 k2_1_0) (zon a2 a1 a0 v1_0 x45):=LoopA.oT fun _=>rfl
def zoo (a2:Int)(a1:(List z01))(a0:z05)(v1_0:(List z00)×(List z03)×Int):AS:=⟨[(1,.sl 5 (a1.map z04)),(2,aI (a2)),(3,.ptr 3 0),(9,.sl 3 (v1_0.1.map z0e)),(10,.sl 1 (v1_0.2.1.map z0g)),(11,aI (v1_0.2.2))],[(3,.box 25 [aI (a0.fVars),aI (a0.fScopes),.sl 1 (a0.fStates.map z0c),.sl 17 (a0.fEdges.map z0d)])]⟩
theorem znq {n a2 a1 a0 k1_0_0}:z26 E0 59 (z2d n a2 a1 a0 k1_0_0) (zoo a2 a1 a0):=LoopA.oT fun _=>rfl
def zhe (r:(List z00)×(List z03)×Bool):AV:=.tup [.sl 3 (r.1.map z0e),.sl 1 (r.2.1.map z0g),.bool (r.2.2)]
theorem zq7 {n a0 a1 a2 r}(hF:z7h n a0 a1 a2=some r):Con E0 false 35 [.agg [aI (a0.fVars),aI (a0.fScopes),.sl 1 (a0.fStates.map z0c),.sl 17 (a0.fEdges.map z0d)],.sl 5 (a1.map z04),aI (a2)] (zhe r):=by
 unfold z7h at hF
 refine Con.walk _ Tryz.func35 rfl (z08 Tryz.func35 rfl rfl) rfl (Or.inl rfl) ?_
 repeat' first
  |refine znr hF (fun hF=>?_) (fun v hF=>?_);rotate_left;unfold z3b at hF
  |refine AW.regO hF (fun hF=>?_)
  |refine AW.stepU [11] ?_;conv=>whnf
  |refine z0v.o hF (fun hF=>?_) (fun hF=>?_)
  |refine z0m.o hF zid (fun a h=>zsq h) (fun a hF=>?_)
  |refine IdxX.o z04 hF (fun x hF=>?_)
  |refine z0m.o hF zl5 (fun a h=>zx0 h) (fun a hF=>?_)
  |exact ⟨_,hF,LeX.a []⟩
  |exact ⟨_,hF,LeX.a []⟩
  |refine IdxX.o z0g hF (fun x hF=>?_)
  |refine z0m.o hF zdn (fun a h=>zeh h) (fun a hF=>?_)
  |exact ⟨_,hF,LeX.a []⟩
  |refine znp hF (LeX.a []) (fun m v hF=>?_);unfold z58 at hF
  |refine znq hF (LeX.trans (LeX.put 10 _ (by repeat' first|exact Sub.nil _|exact Sub.refl _|refine Sub.agg ?_|refine Sub.tup ?_|refine Sub.fn ?_|exact SubL.nil|refine SubL.cons ?_ ?_|refine Sub.sl _ ?_|exact SubE.nil|refine SubE.cons ?_ ?_)) (LeX.of [] rfl ⟨⟨rfl,rfl⟩,⟨rfl,rfl⟩,⟨rfl,rfl⟩,⟨rfl,rfl⟩,⟨rfl,rfl⟩,⟨rfl,rfl⟩,trivial⟩ ⟨⟨rfl,rfl⟩,trivial⟩)) (fun m v hF=>?_);unfold z2d at hF
  |refine And.intro ⟨by kernel_rfl,by kernel_rfl⟩ ?_
  |exact RetX.oA hF
def zqk (a1:(List z01))(a0:z05)(w1_0:Bool):AS:=⟨[(1,.sl 5 (a1.map z04)),(2,.ptr 2 0),(15,.bool (w1_0))],[(2,.box 25 [aI (a0.fVars),aI (a0.fScopes),.sl 1 (a0.fStates.map z0c),.sl 17 (a0.fEdges.map z0d)])]⟩
theorem zp4 {n a1 a0}:z57 E0 28 (z2n n a1 a0) (zqk a1 a0):=AW.jT
def zib (r:Bool):AV:=.bool (r)
theorem zso {n a0 a1 r}(hF:z6h n a0 a1=some r):Con E0 true 7 [.agg [aI (a0.fVars),aI (a0.fScopes),.sl 1 (a0.fStates.map z0c),.sl 17 (a0.fEdges.map z0d)],.sl 5 (a1.map z04)] (zib r):=by
 unfold z6h at hF
 refine Con.walk _ Tryz.func7 rfl (z08 Tryz.func7 rfl rfl) rfl (Or.inr rfl) ?_
 repeat' first
  |refine zp4 hF (fun hF=>?_) (fun v hF=>?_);rotate_left;unfold z2n at hF
  |refine AW.regO hF (fun hF=>?_)
  |refine AW.stepU [1] ?_;conv=>whnf
  |refine z0v.o hF (fun hF=>?_) (fun hF=>?_)
  |refine z0m.o hF zj7 (fun a h=>zv3 h) (fun a hF=>?_)
  |refine z0m.o hF zhe (fun a h=>zq7 h) (fun a hF=>?_)
  |refine z0m.o hF zl7 (fun a h=>zx2 h) (fun a hF=>?_)
  |exact ⟨_,hF,LeX.a []⟩
  |refine z0m.o hF zlb (fun a h=>zx6 h) (fun a hF=>?_)
  |exact RetX.oA hF
def ze9 (r:Bool):AV:=.bool (r)
theorem zi6 {n a0 r}(hF:z3i n a0=some r):Con E0 true 17 [.agg [aI (a0.fFrom),aI (a0.fTo),aI (a0.fVar),aI (a0.fType),aI (a0.fCond.fOp),.sl 8 (a0.fCond.fArgs.map idA),aI (a0.fCond.fVar),aI (a0.fCond.fField),aI (a0.fCond.fKind),aI (a0.fCond.fValue.fKind),aI (a0.fCond.fValue.fNum),.str (a0.fCond.fValue.fText),.sl 1 (a0.fOpens.map aI),.sl 1 (a0.fCloses.map aI),.sl 8 (a0.fChecks.map idA),.sl 2 (a0.fLimits.map z0p),.sl 1 (a0.fInside.map aI)]] (ze9 r):=by
 unfold z3i at hF
 refine Con.walk _ Tryz.func17 rfl (z08 Tryz.func17 rfl rfl) rfl (Or.inr rfl) ?_
 repeat' first
  |refine AW.step ?_;conv=>whnf
  |exact RetX.oA hF
def zmx (a0:(List z0h))(v1_0:Int):AS:=⟨[(0,.sl 17 (a0.map z0d)),(1,.fn 17 []),(7,aI (((a0.map z0d).length:Int))),(8,aI (v1_0))],[]⟩
theorem zm8 {n a0 k1_0_0}:z26 E0 19 (z4j n a0 k1_0_0) (zmx a0):=LoopA.oT fun _=>rfl
def zgv (r:Int):AV:=aI (r)
theorem zoa {n a0 r}(hF:z8r n a0=some r):Con E0 true 52 [.sl 17 (a0.map z0d),.fn 17 []] (zgv r):=by
 unfold z8r at hF
 refine Con.walk _ Tryz.func52 rfl (z08 Tryz.func52 rfl rfl) rfl (Or.inr rfl) ?_
 repeat' first
  |refine AW.step ?_;conv=>whnf
  |refine z0v.o hF (fun hF=>?_) (fun hF=>?_)
  |refine IdxX.o z0d hF (fun x hF=>?_)
  |refine z0m.o hF ze9 (fun a h=>zi6 h) (fun a hF=>?_)
  |exact ⟨_,hF,LeX.a []⟩
  |refine zm8 hF (LeX.a []) (fun m v hF=>?_);unfold z4j at hF
  |exact RetX.oA hF
def zfe (r:Bool):AV:=.bool (r)
theorem zjs {n a0 r}(hF:z4p n a0=some r):Con E0 true 16 [.sl 17 (a0.map z0d),.fn 17 []] (zfe r):=by
 unfold z4p at hF
 refine Con.walk _ Tryz.func16 rfl (z08 Tryz.func16 rfl rfl) rfl (Or.inr rfl) ?_
 repeat' first
  |refine AW.step ?_;conv=>whnf
  |refine z0m.o hF zgv (fun a h=>zoa h) (fun a hF=>?_)
  |exact RetX.oA hF
def zd4 (r:Bool):AV:=.bool (r)
theorem zh9 {n a0 r}(hF:z2p n a0=some r):Con E0 true 21 [.agg [aI (a0.fScope),aI (a0.fType),aI (a0.fVar),aI (a0.fCond.fOp),.sl 8 (a0.fCond.fArgs.map idA),aI (a0.fCond.fVar),aI (a0.fCond.fField),aI (a0.fCond.fKind),aI (a0.fCond.fValue.fKind),aI (a0.fCond.fValue.fNum),.str (a0.fCond.fValue.fText)]] (zd4 r):=by
 unfold z2p at hF
 refine Con.walk _ Tryz.func21 rfl (z08 Tryz.func21 rfl rfl) rfl (Or.inr rfl) ?_
 repeat' first
  |refine AW.step ?_;conv=>whnf
  |exact RetX.oA hF
def zmv (a0:(List z0j))(v1_0:Int):AS:=⟨[(0,.sl 11 (a0.map z0q)),(1,.fn 21 []),(7,aI (((a0.map z0q).length:Int))),(8,aI (v1_0))],[]⟩
theorem zm6 {n a0 k1_0_0}:z26 E0 19 (z4h n a0 k1_0_0) (zmv a0):=LoopA.oT fun _=>rfl
def zgt (r:Int):AV:=aI (r)
theorem zo8 {n a0 r}(hF:z8p n a0=some r):Con E0 true 54 [.sl 11 (a0.map z0q),.fn 21 []] (zgt r):=by
 unfold z8p at hF
 refine Con.walk _ Tryz.func54 rfl (z08 Tryz.func54 rfl rfl) rfl (Or.inr rfl) ?_
 repeat' first
  |refine AW.step ?_;conv=>whnf
  |refine z0v.o hF (fun hF=>?_) (fun hF=>?_)
  |refine IdxX.o z0q hF (fun x hF=>?_)
  |refine z0m.o hF zd4 (fun a h=>zh9 h) (fun a hF=>?_)
  |exact ⟨_,hF,LeX.a []⟩
  |refine zm6 hF (LeX.a []) (fun m v hF=>?_);unfold z4h at hF
  |exact RetX.oA hF
def zfc (r:Bool):AV:=.bool (r)
theorem zjq {n a0 r}(hF:z75 n a0=some r):Con E0 true 20 [.sl 11 (a0.map z0q),.fn 21 []] (zfc r):=by
 unfold z75 at hF
 refine Con.walk _ Tryz.func20 rfl (z08 Tryz.func20 rfl rfl) rfl (Or.inr rfl) ?_
 repeat' first
  |refine AW.step ?_;conv=>whnf
  |refine z0m.o hF zgt (fun a h=>zo8 h) (fun a hF=>?_)
  |exact RetX.oA hF
def ze8 (r:Bool):AV:=.bool (r)
theorem zi5 {n a0 r}(hF:z29 n a0=some r):Con E0 true 19 [.agg [.sl 11 (a0.fGuards.map z0q)]] (ze8 r):=by
 unfold z29 at hF
 refine Con.walk _ Tryz.func19 rfl (z08 Tryz.func19 rfl rfl) rfl (Or.inr rfl) ?_
 repeat' first
  |refine AW.step ?_;conv=>whnf
  |refine z0m.o hF zfc (fun a h=>zjq h) (fun a hF=>?_)
  |exact RetX.oA hF
def zmw (a0:(List z2r))(v1_0:Int):AS:=⟨[(0,.sl 1 (a0.map z0c)),(1,.fn 19 []),(7,aI (((a0.map z0c).length:Int))),(8,aI (v1_0))],[]⟩
theorem zm7 {n a0 k1_0_0}:z26 E0 19 (z4i n a0 k1_0_0) (zmw a0):=LoopA.oT fun _=>rfl
def zgu (r:Int):AV:=aI (r)
theorem zo9 {n a0 r}(hF:z8q n a0=some r):Con E0 true 53 [.sl 1 (a0.map z0c),.fn 19 []] (zgu r):=by
 unfold z8q at hF
 refine Con.walk _ Tryz.func53 rfl (z08 Tryz.func53 rfl rfl) rfl (Or.inr rfl) ?_
 repeat' first
  |refine AW.step ?_;conv=>whnf
  |refine z0v.o hF (fun hF=>?_) (fun hF=>?_)
  |refine IdxX.o z0c hF (fun x hF=>?_)
  |refine z0m.o hF ze8 (fun a h=>zi5 h) (fun a hF=>?_)
  |exact ⟨_,hF,LeX.a []⟩
  |refine zm7 hF (LeX.a []) (fun m v hF=>?_);unfold z4i at hF
  |exact RetX.oA hF
def zfd (r:Bool):AV:=.bool (r)
theorem zjr {n a0 r}(hF:z4o n a0=some r):Con E0 true 18 [.sl 1 (a0.map z0c),.fn 19 []] (zfd r):=by
 unfold z4o at hF
 refine Con.walk _ Tryz.func18 rfl (z08 Tryz.func18 rfl rfl) rfl (Or.inr rfl) ?_
 repeat' first
  |refine AW.step ?_;conv=>whnf
  |refine z0m.o hF zgu (fun a h=>zo9 h) (fun a hF=>?_)
  |exact RetX.oA hF
def ztw (a1:(List z02))(a0:(List z02))(v1_0:Int):AS:=⟨[(0,.sl 3 (a0.map z06)),(1,.sl 3 (a1.map z06)),(5,aI (v1_0))],[]⟩
theorem zsd {n a1 a0 k1_0_0}:z26 E0 26 (z71 n a1 a0 k1_0_0) (ztw a1 a0):=LoopA.oT fun _=>rfl
def zjg (r:Bool):AV:=.bool (r)
theorem zvd {n a0 a1 r}(hF:za7 n a0 a1=some r):Con E0 true 115 [.sl 3 (a0.map z06),.sl 3 (a1.map z06)] (zjg r):=by
 unfold za7 at hF
 refine Con.walk _ Tryz.func115 rfl (z08 Tryz.func115 rfl rfl) rfl (Or.inr rfl) ?_
 repeat' first
  |refine AW.step ?_;conv=>whnf
  |refine z0v.o hF (fun hF=>?_) (fun hF=>?_)
  |refine IdxX.o z06 hF (fun x hF=>?_)
  |exact ⟨_,hF,LeX.a []⟩
  |refine zsd hF (LeX.a []) (fun m v hF=>?_);unfold z71 at hF
  |refine And.intro ⟨by kernel_rfl,by kernel_rfl⟩ ?_
  |refine EqX.mk (by first|rfl|kernel_rfl) ?_
  |exact RetX.oA hF
def zem (r:Bool):AV:=.bool (r)
theorem zgl {n a0 a1 r}(hF:z8c n a0 a1=some r):Con E0 true 85 [.agg [aI (a0.fSource),aI (a0.fSeq),aI (a0.fType),aI (a0.fTime),.sl 3 (a0.fValues.map z06)],.agg [aI (a1.fSource),aI (a1.fSeq),aI (a1.fType),aI (a1.fTime),.sl 3 (a1.fValues.map z06)]] (zem r):=by
 unfold z8c at hF
 refine Con.walk _ Tryz.func85 rfl (z08 Tryz.func85 rfl rfl) rfl (Or.inr rfl) ?_
 repeat' first
  |refine AW.step ?_;conv=>whnf
  |refine z0v.o hF (fun hF=>?_) (fun hF=>?_)
  |refine z0v.f ?_
  |refine z0m.o hF z7z (fun a h=>z85 h) (fun a hF=>?_)
  |refine z0m.o hF zjg (fun a h=>zvd h) (fun a hF=>?_)
  |refine And.intro ⟨by kernel_rfl,by kernel_rfl⟩ ?_
  |refine EqX.mk (by first|rfl|kernel_rfl) ?_
  |exact RetX.oA hF
def zl0 (a1:z01)(a0:(List z01))(v1_0:Int):AS:=⟨[(0,.sl 5 (a0.map z04)),(3,.ptr 3 0),(5,aI (v1_0))],[(3,.box 66 [aI (a1.fSource),aI (a1.fSeq),aI (a1.fType),aI (a1.fTime),.sl 3 (a1.fValues.map z06)])]⟩
theorem zka {n a1 a0 k1_0_0}:z26 E0 27 (z2k n a1 a0 k1_0_0) (zl0 a1 a0):=LoopA.oT fun _=>rfl
def zg8 (r:Bool):AV:=.bool (r)
theorem zmh {n a0 a1 r}(hF:z8b n a0 a1=some r):Con E0 true 55 [.sl 5 (a0.map z04),.agg [aI (a1.fSource),aI (a1.fSeq),aI (a1.fType),aI (a1.fTime),.sl 3 (a1.fValues.map z06)]] (zg8 r):=by
 unfold z8b at hF
 refine Con.walk _ Tryz.func55 rfl (z08 Tryz.func55 rfl rfl) rfl (Or.inr rfl) ?_
 repeat' first
  |refine AW.step ?_;conv=>whnf
  |refine z0v.o hF (fun hF=>?_) (fun hF=>?_)
  |refine z0v.f ?_
  |refine IdxX.o z04 hF (fun x hF=>?_)
  |refine z0m.o hF zfm (fun a h=>zhc h) (fun a hF=>?_)
  |refine z0m.o hF zem (fun a h=>zgl h) (fun a hF=>?_)
  |exact ⟨_,hF,LeX.a []⟩
  |refine zka hF (LeX.a []) (fun m v hF=>?_);unfold z2k at hF
  |refine And.intro ⟨by kernel_rfl,by kernel_rfl⟩ ?_
  |exact RetX.oA hF
def zw4 (a1:z01)(a0:(List z01))(v1_0:Int):AS:=⟨[(0,.sl 5 (a0.map z04)),(3,.ptr 3 0),(5,aI (v1_0))],[(3,.box 66 [aI (a1.fSource),aI (a1.fSeq),aI (a1.fType),aI (a1.fTime),.sl 3 (a1.fValues.map z06)])]⟩
theorem zuu {n a1 a0 k1_0_0}:z26 E0 18 (z7r n a1 a0 k1_0_0) (zw4 a1 a0):=LoopA.oT fun _=>rfl
def zla (r:Bool):AV:=.bool (r)
theorem zx5 {n a0 a1 r}(hF:zay n a0 a1=some r):Con E0 true 56 [.sl 5 (a0.map z04),.agg [aI (a1.fSource),aI (a1.fSeq),aI (a1.fType),aI (a1.fTime),.sl 3 (a1.fValues.map z06)]] (zla r):=by
 unfold zay at hF
 refine Con.walk _ Tryz.func56 rfl (z08 Tryz.func56 rfl rfl) rfl (Or.inr rfl) ?_
 repeat' first
  |refine AW.step ?_;conv=>whnf
  |refine z0v.o hF (fun hF=>?_) (fun hF=>?_)
  |refine IdxX.o z04 hF (fun x hF=>?_)
  |refine z0m.o hF zem (fun a h=>zgl h) (fun a hF=>?_)
  |exact ⟨_,hF,LeX.a []⟩
  |refine zuu hF (LeX.a []) (fun m v hF=>?_);unfold z7r at hF
  |refine And.intro ⟨by kernel_rfl,by kernel_rfl⟩ ?_
  |exact RetX.oA hF
def zw3 (a1:z01)(a0:(List z01))(v1_0:Int×(List z01)):AS:=⟨[(0,.sl 5 (a0.map z04)),(3,.ptr 3 0),(5,.row 7028),(6,aI (v1_0.1))],[(3,.box 66 [aI (a1.fSource),aI (a1.fSeq),aI (a1.fType),aI (a1.fTime),.sl 3 (a1.fValues.map z06)]),(7028,.row 66 5 (v1_0.2.map z04))]⟩
theorem zut {n a1 a0 k1_0_0}:z26 E0 40 (z7p n a1 a0 k1_0_0) (zw3 a1 a0):=LoopA.oT fun _=>rfl
def zl9 (r:(List z01)):AV:=.sl 5 (r.map z04)
end Go.Proofs.YtjpknpjjcddnnaaGreat
namespace Go.Proofs.YtjpknpjjcddnnaaGreat
open Go.RowKit
theorem zx4 {n a0 a1 r}(hF:zax n a0 a1=some r):Con E0 false 57 [.sl 5 (a0.map z04),.agg [aI (a1.fSource),aI (a1.fSeq),aI (a1.fType),aI (a1.fTime),.sl 3 (a1.fValues.map z06)]] (zl9 r):=by
 unfold zax at hF
 refine Con.walk _ Tryz.func57 rfl (z08 Tryz.func57 rfl rfl) rfl (Or.inl rfl) ?_
 repeat' first
  |refine AW.step ?_;conv=>whnf
  |refine z0v.o hF (fun hF=>?_) (fun hF=>?_)
  |refine z0v.f ?_
  |refine AppX.o z04 hF (by first|exact SubR.refl _|(repeat' first|exact SubR.nil|refine SubR.cons ?_ ?_|exact SubL.nil|refine SubL.cons ?_ ?_|exact Sub.refl _|exact Sub.nil _)) (fun l hF=>?_)
  |refine SlsX.o z04 hF (fun l hF=>?_)
  |refine IdxX.o z04 hF (fun x hF=>?_)
  |refine z0m.o hF z7z (fun a h=>z85 h) (fun a hF=>?_)
  |refine z0m.o hF zbn (fun a h=>zdf h) (fun a hF=>?_)
  |exact ⟨_,hF,LeX.a [(7028,28)]⟩
  |refine zut hF (LeX.trans (LeX.adopt 5 7028 66 5 rfl rfl) (LeX.a [])) (fun m v hF=>?_);unfold z7p at hF
  |refine And.intro ⟨by kernel_rfl,by kernel_rfl⟩ ?_
  |exact RetX.oA hF
def zhi (r:(List z01)×Int):AV:=.tup [.sl 5 (r.1.map z04),aI (r.2)]
theorem zqb {n a0 a1 r}(hF:z98 n a0 a1=some r):Con E0 false 22 [.sl 5 (a0.map z04),.agg [aI (a1.fSource),aI (a1.fSeq),aI (a1.fType),aI (a1.fTime),.sl 3 (a1.fValues.map z06)]] (zhi r):=by
 unfold z98 at hF
 refine Con.walk _ Tryz.func22 rfl (z08 Tryz.func22 rfl rfl) rfl (Or.inl rfl) ?_
 repeat' first
  |refine AW.step ?_;conv=>whnf
  |refine z0v.o hF (fun hF=>?_) (fun hF=>?_)
  |refine z0m.o hF zbo (fun a h=>zdg h) (fun a hF=>?_)
  |refine z0m.o hF ze5 (fun a h=>zg4 h) (fun a hF=>?_)
  |refine z0m.o hF zg8 (fun a h=>zmh h) (fun a hF=>?_)
  |refine z0m.o hF zla (fun a h=>zx5 h) (fun a hF=>?_)
  |refine z0m.o hF zl9 (fun a h=>zx4 h) (fun a hF=>?_)
  |exact RetX.oA hF
def zj0 (w3_2:Bool):AS:=⟨[(6,.bool (w3_2))],[]⟩
theorem zix {n}:z57 E0 84 (z14 n) zj0:=AW.jT
def zj1 (a2:Int)(a1:(List z01))(a0:z05)(w2_1:Bool):AS:=⟨[(1,.sl 5 (a1.map z04)),(2,.int .u8 (a2)),(3,.ptr 3 0),(37,.bool (w2_1))],[(3,.box 25 [aI (a0.fVars),aI (a0.fScopes),.sl 1 (a0.fStates.map z0c),.sl 17 (a0.fEdges.map z0d)])]⟩
theorem ziy {n a2 a1 a0}:z57 E0 84 (z1c n a2 a1 a0) (zj1 a2 a1 a0):=AW.jT
def zj2 (a2:Int)(a1:(List z01))(a0:z05)(w1_0:Bool):AS:=⟨[(1,.sl 5 (a1.map z04)),(2,.int .u8 (a2)),(3,.ptr 3 0),(28,.bool (w1_0))],[(3,.box 25 [aI (a0.fVars),aI (a0.fScopes),.sl 1 (a0.fStates.map z0c),.sl 17 (a0.fEdges.map z0d)])]⟩
theorem ziz {n a2 a1 a0}:z57 E0 84 (z15 n a2 a1 a0) (zj2 a2 a1 a0):=AW.jT
def zn4 (r:Bool):AV:=.bool (r)
theorem zjp {n a0 a1 a2 r}(hF:z94 n a0 a1 a2=some r):Con E0 true 4 [.agg [aI (a0.fVars),aI (a0.fScopes),.sl 1 (a0.fStates.map z0c),.sl 17 (a0.fEdges.map z0d)],.sl 5 (a1.map z04),.int .u8 (a2)] (zn4 r):=by
 unfold z94 at hF
 refine Con.walk _ Tryz.func4 rfl (z08 Tryz.func4 rfl rfl) rfl (Or.inr rfl) ?_
 repeat' first
  |refine zix hF (fun hF=>?_) (fun v hF=>?_);rotate_left;unfold z14 at hF
  |refine ziy hF (fun hF=>?_) (fun v hF=>?_);rotate_left;unfold z1c at hF
  |refine ziz hF (fun hF=>?_) (fun v hF=>?_);rotate_left;unfold z15 at hF
  |refine AW.regO hF (fun hF=>?_)
  |refine AW.stepU [1,3,10] ?_;conv=>whnf
  |refine z0v.o hF (fun hF=>?_) (fun hF=>?_)
  |refine z0v.t ?_
  |refine z0v.f ?_
  |refine z0m.o hF zik (fun a h=>zsy h) (fun a hF=>?_)
  |refine NzX.o hF (fun hF=>?_)
  |refine z0m.o hF zhi (fun a h=>Con.sub (by repeat' first|exact Sub.nil _|exact Sub.refl _|refine Sub.agg ?_|refine Sub.tup ?_|refine Sub.fn ?_|exact SubL.nil|refine SubL.cons ?_ ?_|refine Sub.sl _ ?_|exact SubE.nil|refine SubE.cons ?_ ?_) (zqb h)) (fun a hF=>?_)
  |refine z0m.o hF y1u (fun a h=>y0m h) (fun a hF=>?_)
  |refine z0m.o hF zj8 (fun a h=>zv4 h) (fun a hF=>?_)
  |refine z0m.o hF zfj (fun a h=>zha h) (fun a hF=>?_)
  |exact ⟨_,hF,LeX.a []⟩
  |refine z0m.o hF zfe (fun a h=>zjs h) (fun a hF=>?_)
  |exact ⟨_,hF,LeX.a []⟩
  |refine z0m.o hF zfd (fun a h=>zjr h) (fun a hF=>?_)
  |refine z0m.o hF zib (fun a h=>zso h) (fun a hF=>?_)
  |refine z0m.o hF zei (fun a h=>zgg h) (fun a hF=>?_)
  |refine z0m.o hF zbo (fun a h=>zdg h) (fun a hF=>?_)
  |exact RetX.oA hF
end Go.Proofs.YtjpknpjjcddnnaaGreat
namespace Go.Proofs.YtjpknpjjcddnnaaGreat
open Go.RowKit
theorem ignores_con25 (a:z05)(hw:WfA a)(l:List z01)(n:Nat)(hn:n<=255):Con E0 true 4 [zge a,.sl 5 (l.map z04),.int .u8 (n:Int)] (.bool true):=zjp (law_ignores a hw l n)
end Go.Proofs.YtjpknpjjcddnnaaGreat
namespace Go.Proofs.YtjpknpjjcddnnaaGreat
open Go.ChangeShapes Go.WideShapes Go.ChangeAt Go.RowKit
theorem args_three {w:World}{S:Nat->Prop}{a b c:AV}{x y z:Value}(ha:Rep w S G0 a x)(hb:Rep w S G0 b y)(hc:Rep w S G0 c z):Args w S [a,b,c] #[x,y,z] :=
 ⟨rfl,fun i hi=>by
  have hi':i<3:=hi
  rcases i with _|_|_|i
  ·exact ha
  ·exact hb
  ·exact hc
  ·omega⟩
theorem own_knob:ownKnob Tryz.prog.godebug=none:=by kernel_rfl
theorem laid_out:laidOutB Tryz.prog=true:=by kernel_rfl
section
variable {H:Type} {enc:TypeId×Value->H}
theorem y0z {W W':World}{sp':Nat->Bool}(hb:Below W.heap.size W W')(ts:List TypeId):∀ (vs:List Value) (ds:List (DataW H)) (p:List MemPlace),ts.all (fun t=>Tryz.prog.readableRec t && decide (t<Tryz.prog.types.size))=true ->
  DataW.TrodAll enc Tryz.prog W 0 (fun _=>true) true ts vs ds p->(∀ x∈p,x.block<W.heap.size)->(∀ x∈p,sp' x.block=true)->DataW.TrodAll enc Tryz.prog W' 0 sp' true ts vs ds p:=by
 induction ts with
 |nil =>
  intro vs ds p _ h _ _
  match vs,ds,h with
  |[],[],h=>exact h
  |_::_,_,h=>exact h.elim
  |[],_::_,h=>exact h.elim
 |cons t ts ih =>
  intro vs ds p hr h hlt hs
  match vs,ds,h with
  |v::vs,d::ds,h =>
   obtain ⟨q,r,h1,h2,rfl⟩:=h
   have hr1:Tryz.prog.readableRec t=true/\t<Tryz.prog.types.size:=by
    have:=List.all_eq_true.mp hr t (List.mem_cons_self ..)
    rw [Bool.and_eq_true,decide_eq_true_eq] at this;exact this
   have hr2:ts.all (fun t=>Tryz.prog.readableRec t && decide (t<Tryz.prog.types.size))=true :=
    List.all_eq_true.mpr fun x hx=>List.all_eq_true.mp hr x (List.mem_cons_of_mem _ hx)
   exact ⟨q,r,WideElems.Trod_stays laid_out hr1.1 hr1.2 h1 (fun x hx=>hb.same (hlt x (List.mem_append_left _ hx))) (fun x hx=>hs x (List.mem_append_left _ hx)),
    ih vs ds r hr2 h2 (fun x hx=>hlt x (List.mem_append_right _ hx)) (fun x hx=>hs x (List.mem_append_right _ hx)),rfl⟩
  |[],_,h=>exact h.elim
  |_::_,[],h=>exact h.elim
theorem trodAll_len {W:World}{b:Nat}{sp:Nat->Bool}(ts:List TypeId):∀ (vs:List Value) (ds:List (DataW H)) (p:List MemPlace),DataW.TrodAll enc Tryz.prog W b sp true ts vs ds p->ds.length=ts.length:=by
 induction ts with
 |nil =>
  intro vs ds p h
  match vs,ds,h with
  |[],[],h=>rfl
  |_::_,_,h=>exact h.elim
  |[],_::_,h=>exact h.elim
 |cons t ts ih =>
  intro vs ds p h
  match vs,ds,h with
  |v::vs,d::ds,h =>
   obtain ⟨q,r,h1,h2,rfl⟩:=h
   simp only [List.length_cons]
   rw [ih vs ds r h2]
  |[],_,h=>exact h.elim
  |_::_,[],h=>exact h.elim
end
end Go.Proofs.YtjpknpjjcddnnaaGreat
namespace Go.Proofs.YtjpknpjjcddnnaaGreat
open Go.ChangeShapes Go.WideShapes Go.ChangeAt Go.RowKit
section
variable {H:Type} {enc:TypeId×Value->H}
set_option maxRecDepth 100000 in
theorem law_liftedU (F:Stop.Interp)(os:Os)(started:os.Started){f:FuncId}{fn:Func}{s:ChangeSpec}{fr:Bool}(hf:Tryz.prog.funcs[f]? = some fn)(hni:Tryz.prog.inits.idxOf? f=none)
  (hw:∃ (w:World) (tape:Tape) (i:Input),w.os=os/\(w.forCall tape i).Shaped Tryz.checked.prog/\i.vars=[]/\Input.okWide Tryz.checked.prog (w.forCall tape i) .any w.heap.size f i /\
    (Rows.OpenSpec.upto s).pre6 enc Tryz.checked.prog fn [] false (w.forCall tape i).memory i.args/\Assume.holds {} Tryz.checked.prog (lone (Frame.enter Tryz.checked.prog f i.args .normal) [] (w.forCall tape i)))
  (hvars:s.vars=[]) (hres:fn.resultTypes=#[4]) (hread:fn.params.toList.all (fun t=>Tryz.prog.readableRec t && decide (t<Tryz.prog.types.size))=true)
  (hspec:∀ ds:List (DataW H),ds.length=fn.params.size->s.fn H ds={ results:=[.lit (.bool true)],args:=ds })
  (hopen:∀ (W:World) (base:Nat) (args:Array Value) (ds:List (DataW H)) (p:List MemPlace),(∀ (j:Nat) t v,fn.params[j]? = some t->args[j]? = some v->Value.okWide Tryz.prog W .any base t v) ->
    DataW.TrodAll enc Tryz.prog W 0 (fun _=>true) true fn.params.toList args.toList ds p->Rows.uptoBulkAll ds<=1048576->∃ avs,Args W (fun _=>True) avs args/\Con E0 fr f avs (.bool true)) :
  ReturnsInHanded {} Tryz.checked os f .any ((Rows.OpenSpec.upto s).pre6 enc Tryz.prog fn [] false) (((Rows.OpenSpec.upto s).at F).post enc Tryz.prog fn false true false false):=by
 refine returnsInHanded_of_cond (C:=Tryz.checked) (s:=Rows.OpenSpec.upto s) (k:=Rows.uptoSmall) rfl own_knob started hni hf hw ?_
 intro W base args ds gs before hval hW hcnd hk _
 show Calls Tryz.checked.prog f args W fun e W'=>∃ v,e=.returned v/\s.post enc Tryz.prog fn false true false false W args v W'
 have hW':=hW
 obtain ⟨p,q,hA,hV,rfl,hfz,hnd⟩:=hW
 have hlt:∀ x∈p++q,x.block<W.heap.size:=fun x hx=>DataW.Whole.lt hW' x hx
 rw [show (Rows.OpenSpec.upto s).vars=s.vars from rfl,hvars] at hV
 obtain ⟨rfl,rfl⟩:=trodVars_none hV
 have hbk:Rows.uptoBulkAll ds<=1048576:=by
  have:=of_decide_eq_true hk
  rwa [List.append_nil] at this
 obtain ⟨avs,hargs,hcon⟩:=hopen W base args ds p hval hA hbk
 refine (hcon.2 (fun _=>True) W args hargs).mono fun e W' ⟨v,he,⟨hb,_⟩,hv⟩=>?_
 have hv:=hv.bool_inv
 subst hv
 subst he
 have hdl:ds.length=fn.params.size:=(trodAll_len _ _ _ _ hA).trans (by simp)
 have hsp:s.fn H (ds++[])={ results:=[.lit (.bool true)],args:=ds }:=by rw [List.append_nil];exact hspec ds hdl
 have hltp:∀ x∈p,x.block<W.heap.size:=fun x hx=>hlt x (by simp [hx])
 have k0:=y0z (sp':=fun b=>decide (b<W.heap.size)) hb _ _ _ _ hread hA hltp (fun x hx=>by simpa using hltp x hx)
 have k1:=y0z (sp':=fun _=>true) hb _ _ _ _ hread hA hltp (fun x hx=>rfl)
 have hrl:(Value.bool true).resultList fn.resultTypes.size=[.bool true]:=by rw [hres];rfl
 have hrt:fn.resultTypes.toList=[4]:=by rw [hres]
 refine ⟨_,rfl,ds,[],_,[],p,[],hW',?_,?_,?_,World.keptBut_mono (fun x hx=>⟨hx,?_⟩) (hb.frame (·∈p++[])),fun h=>?_⟩
 ·rw [hsp,hrt,hrl];exact trodAll_mk1 (shut_bool Tryz.underlying4 true)
 ·rw [hsp];exact k0
 ·rw [hsp,hvars];exact rfl
 ·exact Or.inr (Or.inl (by simpa using hx))
 ·rw [hrt,hrl,hvars]
  refine ⟨?_,[.lit (.bool true)]++ds,[],p,⟨p,[],?_,rfl,by simp,?_,fun h=>by simp at h⟩,?_⟩
  ·rw [hres];intro j t r ht hr
   match j with
   |0 =>
    obtain rfl:4=t:=Option.some.inj ht
    obtain rfl:Value.bool true=r:=Option.some.inj hr
    exact okWide_bool_mk Tryz.underlying4 true
   |j+1=>exact absurd hr (by simp)
  ·exact trodAll_append k1 (trodAll_mk1 (shut_bool Tryz.underlying4 true))
  ·intro b off hp
   have hin:MemPlace.cell b off∈p++[]:=by simpa using hp
   rw [hb.frozen (hlt _ hin)]
   exact hfz b off hin
  ·intro x hx _
   simpa using hx
end
end Go.Proofs.YtjpknpjjcddnnaaGreat
