/- What some functions compute, over plain values. Printed by a program of mine (gen_fun.lean). Layer 25: the contract of the law RunContinues. From a contract of the abstract walk to a law's row: whatever the arguments, it returns true, and they read as they did. From a contract of the abstract walk to a law's row of the second form. -/
import Derived.Test.YtjpknpjjcddnnaaGreatK33
import Derived.Test.YtjpknpjjcddnnaaGreatK27
import Derived.Test.YtjpknpjjcddnnaaGreatRows
import Derived.Test.YtjpknpjjcddnnaaGreatK17
import Derived.ProofKit
import Derived.Lib.SmallJoins
import Derived.Deep.Slices
import Derived.Carry
import Derived.Below
import Derived.OpenShut
import Derived.JoinedCond
set_option linter.unusedVariables false
set_option linter.unusedSimpArgs false
set_option maxRecDepth 100000
set_option maxHeartbeats 8000000
namespace Go.Proofs.YtjpknpjjcddnnaaGreat
open Go.RowKit
def zmi (a4:z01)(a3:z0j)(a2:z00)(a1:(List z01))(v2_2:Int×(List z0c)):AS:=⟨[(1,.sl 5 (a1.map z04)),(7,.ptr 7 0),(8,.ptr 8 0),(9,.ptr 9 0),(10,.ptr 10 0),(15,.ptr 15 0),(16,aI (v2_2.1))],[(7,.box 77 [aI (a2.fState),.sl 4 (a2.fBindings.map z06),.sl 2 (a2.fStarts.map z07)]),(8,.box 51 [aI (a3.fFrom),aI (a3.fTo),aI (a3.fVar),aI (a3.fType),aI (a3.fCond.fOp),.sl 8 (a3.fCond.fArgs.map idA),aI (a3.fCond.fVar),aI (a3.fCond.fField),aI (a3.fCond.fKind),aI (a3.fCond.fValue.fKind),aI (a3.fCond.fValue.fNum),.str (a3.fCond.fValue.fText),.sl 1 (a3.fOpens.map aI),.sl 1 (a3.fCloses.map aI),.sl 8 (a3.fChecks.map idA),.sl 2 (a3.fLimits.map z0r),.sl 1 (a3.fInside.map aI)]),(9,.box 66 [aI (a4.fSource),aI (a4.fSeq),aI (a4.fType),aI (a4.fTime),.sl 3 (a4.fValues.map z0a)]),(10,.box 77 [aI (0),.nils,.nils]),(15,.box 77 [aI (a3.fTo),.nils,.sl 2 (v2_2.2.map z07)])]⟩
theorem zlx {n a4 a3 a2 a1 k2_2_0}:z27 E0b 167 (z4i n a4 a3 a2 a1 k2_2_0) (zmi a4 a3 a2 a1):=LoopA.oT fun _=>rfl
def zml (a4:z01)(a3:z0j)(a2:z00)(a1:(List z01))(w3_1:Bool):AS:=⟨[(1,.sl 5 (a1.map z04)),(7,.ptr 7 0),(8,.ptr 8 0),(9,.ptr 9 0),(10,.ptr 10 0),(70,.bool (w3_1))],[(7,.box 77 [aI (a2.fState),.sl 4 (a2.fBindings.map z06),.sl 2 (a2.fStarts.map z07)]),(8,.box 51 [aI (a3.fFrom),aI (a3.fTo),aI (a3.fVar),aI (a3.fType),aI (a3.fCond.fOp),.sl 8 (a3.fCond.fArgs.map idA),aI (a3.fCond.fVar),aI (a3.fCond.fField),aI (a3.fCond.fKind),aI (a3.fCond.fValue.fKind),aI (a3.fCond.fValue.fNum),.str (a3.fCond.fValue.fText),.sl 1 (a3.fOpens.map aI),.sl 1 (a3.fCloses.map aI),.sl 8 (a3.fChecks.map idA),.sl 2 (a3.fLimits.map z0r),.sl 1 (a3.fInside.map aI)]),(9,.box 66 [aI (a4.fSource),aI (a4.fSeq),aI (a4.fType),aI (a4.fTime),.sl 3 (a4.fValues.map z0a)]),(10,.box 77 [aI (0),.nils,.nils])]⟩
theorem zm0 {n a4 a3 a2 a1}:z3v E0b 167 (z12 n a4 a3 a2 a1) (zml a4 a3 a2 a1):=AW.jT
def zmk (a4:z01)(a3:z0j)(a2:z00)(a1:(List z01))(x1:z0h)(x2:z9b)(v1_0:Int)(cv1_0:Int->Option (z00×Bool))(w4_6:Bool):AS:=⟨[(1,.sl 5 (a1.map z04)),(7,.ptr 7 0),(8,.ptr 8 0),(9,.ptr 9 0),(10,.ptr 10 0),(12,.ptr 12 0),(13,.sl 11 (x2.fGuards.map z0t)),(14,aI (v1_0)),(54,.bool (w4_6))],[(7,.box 77 [aI (a2.fState),.sl 4 (a2.fBindings.map z06),.sl 2 (a2.fStarts.map z07)]),(8,.box 51 [aI (a3.fFrom),aI (a3.fTo),aI (a3.fVar),aI (a3.fType),aI (a3.fCond.fOp),.sl 8 (a3.fCond.fArgs.map idA),aI (a3.fCond.fVar),aI (a3.fCond.fField),aI (a3.fCond.fKind),aI (a3.fCond.fValue.fKind),aI (a3.fCond.fValue.fNum),.str (a3.fCond.fValue.fText),.sl 1 (a3.fOpens.map aI),.sl 1 (a3.fCloses.map aI),.sl 8 (a3.fChecks.map idA),.sl 2 (a3.fLimits.map z0r),.sl 1 (a3.fInside.map aI)]),(9,.box 66 [aI (a4.fSource),aI (a4.fSeq),aI (a4.fType),aI (a4.fTime),.sl 3 (a4.fValues.map z0a)]),(10,.box 77 [aI (0),.nils,.nils]),(12,.box 167 [.sl 1 (List.map (fun q=>AV.sl 5 (List.map z04 q)) (x1.fVars))])]⟩
theorem zlz {n a4 a3 a2 a1 x1 x2 v1_0 cv1_0}:z3v E0b 167 (z2t n a4 a3 a2 a1 x1 x2 v1_0 cv1_0) (zmk a4 a3 a2 a1 x1 x2 v1_0 cv1_0):=AW.jT
def zmj (a4:z01)(a3:z0j)(a2:z00)(a1:(List z01))(x1:z0h)(x2:z9b)(v1_0:Int):AS:=⟨[(1,.sl 5 (a1.map z04)),(7,.ptr 7 0),(8,.ptr 8 0),(9,.ptr 9 0),(10,.ptr 10 0),(12,.ptr 12 0),(13,.sl 11 (x2.fGuards.map z0t)),(14,aI (v1_0))],[(7,.box 77 [aI (a2.fState),.sl 4 (a2.fBindings.map z06),.sl 2 (a2.fStarts.map z07)]),(8,.box 51 [aI (a3.fFrom),aI (a3.fTo),aI (a3.fVar),aI (a3.fType),aI (a3.fCond.fOp),.sl 8 (a3.fCond.fArgs.map idA),aI (a3.fCond.fVar),aI (a3.fCond.fField),aI (a3.fCond.fKind),aI (a3.fCond.fValue.fKind),aI (a3.fCond.fValue.fNum),.str (a3.fCond.fValue.fText),.sl 1 (a3.fOpens.map aI),.sl 1 (a3.fCloses.map aI),.sl 8 (a3.fChecks.map idA),.sl 2 (a3.fLimits.map z0r),.sl 1 (a3.fInside.map aI)]),(9,.box 66 [aI (a4.fSource),aI (a4.fSeq),aI (a4.fType),aI (a4.fTime),.sl 3 (a4.fValues.map z0a)]),(10,.box 77 [aI (0),.nils,.nils]),(12,.box 167 [.sl 1 (List.map (fun q=>AV.sl 5 (List.map z04 q)) (x1.fVars))])]⟩
theorem zly {n a4 a3 a2 a1 x1 x2 k1_0_0}:z27 E0b 167 (z21 n a4 a3 a2 a1 x1 x2 k1_0_0) (zmj a4 a3 a2 a1 x1 x2):=LoopA.oT fun _=>rfl
def zgq (r:z00×Bool):AV:=.tup [.agg [aI (r.1.fState),.sl 4 (r.1.fBindings.map z06),.sl 2 (r.1.fStarts.map z07)],.bool (r.2)]
theorem zo1 {n a0 a1 a2 a3 a4 r}(hF:z4p n a0 a1 a2 a3 a4=some r):Con E0 false 122 [.agg [aI (a0.fVars),aI (a0.fScopes),.sl 1 (a0.fStates.map z0d),.sl 17 (a0.fEdges.map z0e)],.sl 5 (a1.map z04),.agg [aI (a2.fState),.sl 4 (a2.fBindings.map z06),.sl 2 (a2.fStarts.map z07)],.agg [aI (a3.fFrom),aI (a3.fTo),aI (a3.fVar),aI (a3.fType),aI (a3.fCond.fOp),.sl 8 (a3.fCond.fArgs.map idA),aI (a3.fCond.fVar),aI (a3.fCond.fField),aI (a3.fCond.fKind),aI (a3.fCond.fValue.fKind),aI (a3.fCond.fValue.fNum),.str (a3.fCond.fValue.fText),.sl 1 (a3.fOpens.map aI),.sl 1 (a3.fCloses.map aI),.sl 8 (a3.fChecks.map idA),.sl 2 (a3.fLimits.map z0r),.sl 1 (a3.fInside.map aI)],.agg [aI (a4.fSource),aI (a4.fSeq),aI (a4.fType),aI (a4.fTime),.sl 3 (a4.fValues.map z0a)]] (zgq r):=by
 unfold z4p at hF
 refine Con.env (E:=E0b) rfl rfl ?_
 refine Con.walk _ Tryz.func122 rfl (z08 Tryz.func122 rfl rfl) rfl (Or.inl rfl) ?_
 repeat' first
  |refine zm0 hF (fun hF=>?_) (fun v hF=>?_);rotate_left;unfold z12 at hF
  |refine zlz hF (fun hF=>?_) (fun v hF=>?_);rotate_left;unfold z2t at hF
  |refine AW.regO hF (fun hF=>?_)
  |refine AW.frzO hF 125 rfl (fun hF=>?_)
  |refine AW.stepU [21,6,8] ?_;conv=>whnf
  |refine z0v.o hF (fun hF=>?_) (fun hF=>?_)
  |refine z0m.o hF zdq (fun a h=>Con.env rfl rfl (zed h)) (fun a hF=>?_)
  |refine IdxX.o z0d hF (fun x hF=>?_)
  |refine AppX.o0 z06 hF (by first|exact SubR.refl _|(repeat' first|exact SubR.nil|refine SubR.cons ?_ ?_|exact SubL.nil|refine SubL.cons ?_ ?_|exact Sub.refl _|exact Sub.nil _)) (fun l hF=>?_)
  |refine z0m.o hF zaw (fun a h=>Con.env rfl rfl (zbp h)) (fun a hF=>?_)
  |refine OpX.bldS z06 hF rfl rfl rfl rfl rfl rfl rfl rfl rfl rfl rfl rfl rfl rfl (fun l hF=>?_)
  |refine AppX.o z06 hF (by first|exact SubR.refl _|(repeat' first|exact SubR.nil|refine SubR.cons ?_ ?_|exact SubL.nil|refine SubL.cons ?_ ?_|exact Sub.refl _|exact Sub.nil _)) (fun l hF=>?_)
  |refine OpX.bldR z04 hF rfl rfl rfl rfl rfl rfl rfl rfl rfl rfl rfl rfl rfl rfl rfl rfl (by first|exact SubR.refl _|(repeat' first|exact SubR.nil|refine SubR.cons ?_ ?_|exact SubL.nil|refine SubL.cons ?_ ?_|exact Sub.refl _|exact Sub.nil _)) rfl (fun l hF=>?_)
  |refine AppX.o z04 hF (by first|exact SubR.refl _|(repeat' first|exact SubR.nil|refine SubR.cons ?_ ?_|exact SubL.nil|refine SubL.cons ?_ ?_|exact Sub.refl _|exact Sub.nil _)) (fun l hF=>?_)
  |refine zbm.oE hF 130 zdq rfl (fun a h=>Con.env rfl rfl (zed h)) rfl rfl (fun a hF=>?_)
  |refine IdxX.o aI hF (fun x hF=>?_)
  |refine z0m.o hF ze2 (fun a h=>Con.env rfl rfl (zg2 h)) (fun a hF=>?_)
  |exact ⟨_,hF,LeX.a []⟩
  |refine zlu hF (LeX.a []) (fun m v hF=>?_);unfold z4f at hF
  |refine IdxX.oD hF z6u (fun x hF=>?_)
  |refine z0m.o hF zbr (fun a h=>Con.env rfl rfl (zdj h)) (fun a hF=>?_)
  |refine z0m.o hF zbr (fun a h=>Con.sub (by repeat' first|exact Sub.nil _|exact Sub.refl _|refine Sub.agg ?_|refine Sub.tup ?_|refine Sub.fn ?_|exact SubL.nil|refine SubL.cons ?_ ?_|refine Sub.sl _ ?_|exact SubE.nil|refine SubE.cons ?_ ?_) (Con.env rfl rfl (zdj h))) (fun a hF=>?_)
  |exact ⟨_,hF,LeX.a []⟩
  |refine zlv hF (LeX.a []) (fun m v hF=>?_);unfold z4g at hF
  |refine IdxX.o z0r hF (fun x hF=>?_)
  |refine z0m.o hF zj9 (fun a h=>Con.env rfl rfl (zv7 h)) (fun a hF=>?_)
  |exact ⟨_,hF,LeX.a []⟩
  |refine zlw hF (LeX.a []) (fun m v hF=>?_);unfold z4h at hF
  |refine z0m.o hF zh7 (fun a h=>Con.env rfl rfl (zq2 h)) (fun a hF=>?_)
  |refine zlx hF (LeX.a []) (fun m v hF=>?_);unfold z4i at hF
  |exact ⟨_,hF,LeX.a []⟩
  |exact ⟨_,hF,LeX.a []⟩
  |refine IdxX.o z0t hF (fun x hF=>?_)
  |refine z0m.o hF zl4 (fun a h=>Con.env rfl rfl (zx0 h)) (fun a hF=>?_)
  |refine z0m.o hF zcx (fun a h=>Con.env rfl rfl (zfa h)) (fun a hF=>?_)
  |exact ⟨_,hF,LeX.a []⟩
  |refine zly hF (LeX.a []) (fun m v hF=>?_);unfold z21 at hF
  |refine And.intro ⟨by kernel_rfl,by kernel_rfl⟩ ?_
  |exact RetX.oA hF
def zw5 (a1:z02)(a0:(List z02))(k1_0_0y:Int)(w3_1:Bool):AS:=⟨[(0,.sl 1 (a0.map z0f)),(3,.ptr 3 0),(5,aI (k1_0_0y)),(34,.bool (w3_1))],[(3,.box 83 [.sl 4 (a1.fBindings.map z06)])]⟩
theorem zuu {n a1 a0 k1_0_0y}:z3v E0 49 (z5s n a1 a0 k1_0_0y) (zw5 a1 a0 k1_0_0y):=AW.jT
def zw4 (a1:z02)(a0:(List z02))(v1_0:Int)(k1_0_0:Int->Option ((List z02)))(cv1_0:Int->Option ((List z02)))(w4_2:Bool):AS:=⟨[(0,.sl 1 (a0.map z0f)),(3,.ptr 3 0),(5,aI (v1_0)),(19,.bool (w4_2))],[(3,.box 83 [.sl 4 (a1.fBindings.map z06)])]⟩
theorem zut {n a1 a0 v1_0 k1_0_0 cv1_0}:z3v E0 49 (z5r n a1 a0 v1_0 k1_0_0 cv1_0) (zw4 a1 a0 v1_0 k1_0_0 cv1_0):=AW.jT
def zw3 (a1:z02)(a0:(List z02))(v1_0:Int):AS:=⟨[(0,.sl 1 (a0.map z0f)),(3,.ptr 3 0),(5,aI (v1_0))],[(3,.box 83 [.sl 4 (a1.fBindings.map z06)])]⟩
theorem zus {n a1 a0 k1_0_0}:z27 E0 49 (z3r n a1 a0 k1_0_0) (zw3 a1 a0):=LoopA.oT fun _=>rfl
def zav (r:(List z02)):AV:=.sl 1 (r.map z0f)
theorem zbo {n a0 a1 r}(hF:z6l n a0 a1=some r):Con E0 false 63 [.sl 1 (a0.map z0f),.agg [.sl 4 (a1.fBindings.map z06)]] (zav r):=by
 unfold z6l at hF
 refine Con.walk _ Tryz.func63 rfl (z08 Tryz.func63 rfl rfl) rfl (Or.inl rfl) ?_
 repeat' first
  |refine zuu hF (fun hF=>?_) (fun v hF=>?_);rotate_left;unfold z5s at hF
  |refine zut hF (fun hF=>?_) (fun v hF=>?_);rotate_left;unfold z5r at hF
  |refine AW.regO hF (fun hF=>?_)
  |refine AW.stepU [2,4] ?_;conv=>whnf
  |refine z0v.o hF (fun hF=>?_) (fun hF=>?_)
  |refine SlsX.o z0f hF (fun l hF=>?_)
  |refine AppX.o0 z0f hF (by first|exact SubR.refl _|(repeat' first|exact SubR.nil|refine SubR.cons ?_ ?_|exact SubL.nil|refine SubL.cons ?_ ?_|exact Sub.refl _|exact Sub.nil _)) (fun l hF=>?_)
  |refine AppX.o z0f hF (by first|exact SubR.refl _|(repeat' first|exact SubR.nil|refine SubR.cons ?_ ?_|exact SubL.nil|refine SubL.cons ?_ ?_|exact Sub.refl _|exact Sub.nil _)) (fun l hF=>?_)
  |refine IdxX.o z0f hF (fun x hF=>?_)
  |refine z0m.o hF zae (fun a h=>zcj h) (fun a hF=>?_)
  |exact ⟨_,hF,LeX.a []⟩
  |exact ⟨_,hF,LeX.a []⟩
  |refine zus hF (LeX.a []) (fun m v hF=>?_);unfold z3r at hF
  |refine And.intro ⟨by kernel_rfl,by kernel_rfl⟩ ?_
  |exact RetX.oA hF
def zvs (a3:z01)(a2:z00)(a1:(List z01))(a0:z05)(x4:(List z0j))(v1_1:(List z00)×(List z02)×Int):AS:=⟨[(1,.sl 5 (a1.map z04)),(4,.ptr 4 0),(6,.ptr 6 0),(7,.ptr 7 0),(10,.sl 3 (v1_1.1.map z0b)),(11,.sl 1 (v1_1.2.1.map z0f)),(12,.sl 17 (x4.map z0e)),(13,aI (v1_1.2.2))],[(4,.box 25 [aI (a0.fVars),aI (a0.fScopes),.sl 1 (a0.fStates.map z0d),.sl 17 (a0.fEdges.map z0e)]),(6,.box 77 [aI (a2.fState),.sl 4 (a2.fBindings.map z06),.sl 2 (a2.fStarts.map z07)]),(7,.box 66 [aI (a3.fSource),aI (a3.fSeq),aI (a3.fType),aI (a3.fTime),.sl 3 (a3.fValues.map z0a)])]⟩
theorem zuh {n a3 a2 a1 a0 x4 k1_1_0}:z27 E0 61 (z3o n a3 a2 a1 a0 x4 k1_1_0) (zvs a3 a2 a1 a0 x4):=LoopA.oT fun _=>rfl
def zvt (a3:z01)(a2:z00)(a1:(List z01))(a0:z05)(w1_0:(List z00)):AS:=⟨[(1,.sl 5 (a1.map z04)),(4,.ptr 4 0),(6,.ptr 6 0),(7,.ptr 7 0),(10,.sl 3 (w1_0.map z0b)),(11,.nils)],[(4,.box 25 [aI (a0.fVars),aI (a0.fScopes),.sl 1 (a0.fStates.map z0d),.sl 17 (a0.fEdges.map z0e)]),(6,.box 77 [aI (a2.fState),.sl 4 (a2.fBindings.map z06),.sl 2 (a2.fStarts.map z07)]),(7,.box 66 [aI (a3.fSource),aI (a3.fSeq),aI (a3.fType),aI (a3.fTime),.sl 3 (a3.fValues.map z0a)])]⟩
theorem zui {n a3 a2 a1 a0}:zjn E0 61 (z5o n a3 a2 a1 a0) (zvt a3 a2 a1 a0):=AW.jT2
def zl5 (r:(List z00)×(List z02)):AV:=.tup [.sl 3 (r.1.map z0b),.sl 1 (r.2.map z0f)]
theorem zx1 {n a0 a1 a2 a3 r}(hF:zaz n a0 a1 a2 a3=some r):Con E0 false 99 [.agg [aI (a0.fVars),aI (a0.fScopes),.sl 1 (a0.fStates.map z0d),.sl 17 (a0.fEdges.map z0e)],.sl 5 (a1.map z04),.agg [aI (a2.fState),.sl 4 (a2.fBindings.map z06),.sl 2 (a2.fStarts.map z07)],.agg [aI (a3.fSource),aI (a3.fSeq),aI (a3.fType),aI (a3.fTime),.sl 3 (a3.fValues.map z0a)]] (zl5 r):=by
 unfold zaz at hF
 refine Con.walk _ Tryz.func99 rfl (z08 Tryz.func99 rfl rfl) rfl (Or.inl rfl) ?_
 repeat' first
  |refine zui hF (fun hF=>?_) (fun v hF=>?_);rotate_left;unfold z5o at hF
  |refine AW.regO hF (fun hF=>?_)
  |refine AW.stepU [3,11] ?_;conv=>whnf
  |refine z0v.o hF (fun hF=>?_) (fun hF=>?_)
  |refine z0m.o hF zjd (fun a h=>zvb h) (fun a hF=>?_)
  |refine IdxX.o z0e hF (fun x hF=>?_)
  |refine z0m.o hF zgq (fun a h=>zo1 h) (fun a hF=>?_)
  |exact ⟨_,hF,LeX.a []⟩
  |refine z0m.o hF zav (fun a h=>zbo h) (fun a hF=>?_)
  |refine z0m.o hF zdp (fun a h=>zec h) (fun a hF=>?_)
  |refine zuh hF (LeX.trans (LeX.put 11 _ (by repeat' first|exact Sub.nil _|exact Sub.refl _|refine Sub.agg ?_|refine Sub.tup ?_|refine Sub.fn ?_|exact SubL.nil|refine SubL.cons ?_ ?_|refine Sub.sl _ ?_|exact SubE.nil|refine SubE.cons ?_ ?_)) (LeX.of [] rfl ⟨⟨rfl,rfl⟩,⟨rfl,rfl⟩,⟨rfl,rfl⟩,⟨rfl,rfl⟩,⟨rfl,rfl⟩,⟨rfl,rfl⟩,⟨rfl,rfl⟩,⟨rfl,rfl⟩,trivial⟩ ⟨⟨rfl,rfl⟩,⟨rfl,rfl⟩,⟨rfl,rfl⟩,trivial⟩)) (fun m v hF=>?_);unfold z3o at hF
  |refine z0m.o hF zik (fun a h=>zsq h) (fun a hF=>?_)
  |refine z0m.o hF zdp (fun a h=>Con.sub (by repeat' first|exact Sub.nil _|exact Sub.refl _|refine Sub.agg ?_|refine Sub.tup ?_|refine Sub.fn ?_|exact SubL.nil|refine SubL.cons ?_ ?_|refine Sub.sl _ ?_|exact SubE.nil|refine SubE.cons ?_ ?_) (zec h)) (fun a hF=>?_)
  |exact ⟨_,hF,LeX.a []⟩
  |exact ⟨_,hF,LeX.trans (LeX.put 10 _ (by repeat' first|exact Sub.nil _|exact Sub.refl _|refine Sub.agg ?_|refine Sub.tup ?_|refine Sub.fn ?_|exact SubL.nil|refine SubL.cons ?_ ?_|refine Sub.sl _ ?_|exact SubE.nil|refine SubE.cons ?_ ?_)) (LeX.of [] rfl ⟨⟨rfl,rfl⟩,⟨rfl,rfl⟩,⟨rfl,rfl⟩,⟨rfl,rfl⟩,⟨rfl,rfl⟩,⟨rfl,rfl⟩,trivial⟩ ⟨⟨rfl,rfl⟩,⟨rfl,rfl⟩,⟨rfl,rfl⟩,trivial⟩)⟩
  |refine And.intro ⟨by kernel_rfl,by kernel_rfl⟩ ?_
  |exact RetX.oA hF
def zvu (a3:z01)(a2:(List z00))(a1:(List z01))(a0:z05)(v1_0:(List z00)×(List z02)×Int)(k2_1_0y0:(List z00))(k2_1_0y1:(List z02))(v3_2:(List z02)×Int):AS:=⟨[(1,.sl 5 (a1.map z04)),(2,.sl 3 (a2.map z0b)),(4,.ptr 4 0),(7,.ptr 7 0),(10,.sl 3 (k2_1_0y0.map z0b)),(11,.sl 1 (v3_2.1.map z0f)),(12,aI (v1_0.2.2)),(14,.sl 1 (k2_1_0y1.map z0f)),(16,aI (v3_2.2))],[(4,.box 25 [aI (a0.fVars),aI (a0.fScopes),.sl 1 (a0.fStates.map z0d),.sl 17 (a0.fEdges.map z0e)]),(7,.box 66 [aI (a3.fSource),aI (a3.fSeq),aI (a3.fType),aI (a3.fTime),.sl 3 (a3.fValues.map z0a)])]⟩
theorem zuj {n a3 a2 a1 a0 v1_0 k2_1_0y0 k2_1_0y1 k3_2_0}:z27 E0 60 (z7h n a3 a2 a1 a0 v1_0 k2_1_0y0 k2_1_0y1 k3_2_0) (zvu a3 a2 a1 a0 v1_0 k2_1_0y0 k2_1_0y1):=LoopA.oT fun _=>rfl
def zvv (a3:z01)(a2:(List z00))(a1:(List z01))(a0:z05)(v1_0:(List z00)×(List z02)×Int)(x44:(List z00)×(List z02))(v2_1:(List z00)×Int):AS:=⟨[(1,.sl 5 (a1.map z04)),(2,.sl 3 (a2.map z0b)),(4,.ptr 4 0),(7,.ptr 7 0),(10,.sl 3 (v2_1.1.map z0b)),(11,.sl 1 (v1_0.2.1.map z0f)),(12,aI (v1_0.2.2)),(13,.sl 3 (x44.1.map z0b)),(14,.sl 1 (x44.2.map z0f)),(15,aI (v2_1.2))],[(4,.box 25 [aI (a0.fVars),aI (a0.fScopes),.sl 1 (a0.fStates.map z0d),.sl 17 (a0.fEdges.map z0e)]),(7,.box 66 [aI (a3.fSource),aI (a3.fSeq),aI (a3.fType),aI (a3.fTime),.sl 3 (a3.fValues.map z0a)])]⟩
theorem zuk {n a3 a2 a1 a0 v1_0 x44 k2_1_0}:z27 E0 60 (z7i n a3 a2 a1 a0 v1_0 x44 k2_1_0) (zvv a3 a2 a1 a0 v1_0 x44):=LoopA.oT fun _=>rfl
def zvw (a3:z01)(a2:(List z00))(a1:(List z01))(a0:z05)(v1_0:(List z00)×(List z02)×Int):AS:=⟨[(1,.sl 5 (a1.map z04)),(2,.sl 3 (a2.map z0b)),(4,.ptr 4 0),(7,.ptr 7 0),(10,.sl 3 (v1_0.1.map z0b)),(11,.sl 1 (v1_0.2.1.map z0f)),(12,aI (v1_0.2.2))],[(4,.box 25 [aI (a0.fVars),aI (a0.fScopes),.sl 1 (a0.fStates.map z0d),.sl 17 (a0.fEdges.map z0e)]),(7,.box 66 [aI (a3.fSource),aI (a3.fSeq),aI (a3.fType),aI (a3.fTime),.sl 3 (a3.fValues.map z0a)])]⟩
theorem zul {n a3 a2 a1 a0 k1_0_0}:z27 E0 60 (z7j n a3 a2 a1 a0 k1_0_0) (zvw a3 a2 a1 a0):=LoopA.oT fun _=>rfl
def zl6 (r:(List z00)×(List z02)):AV:=.tup [.sl 3 (r.1.map z0b),.sl 1 (r.2.map z0f)]
theorem zx2 {n a0 a1 a2 a3 r}(hF:zb0 n a0 a1 a2 a3=some r):Con E0 false 68 [.agg [aI (a0.fVars),aI (a0.fScopes),.sl 1 (a0.fStates.map z0d),.sl 17 (a0.fEdges.map z0e)],.sl 5 (a1.map z04),.sl 3 (a2.map z0b),.agg [aI (a3.fSource),aI (a3.fSeq),aI (a3.fType),aI (a3.fTime),.sl 3 (a3.fValues.map z0a)]] (zl6 r):=by
 unfold zb0 at hF
 refine Con.walk _ Tryz.func68 rfl (z08 Tryz.func68 rfl rfl) rfl (Or.inl rfl) ?_
 repeat' first
  |refine AW.step ?_;conv=>whnf
  |refine z0v.o hF (fun hF=>?_) (fun hF=>?_)
  |refine IdxX.o z0b hF (fun x hF=>?_)
  |refine z0m.o hF zl5 (fun a h=>zx1 h) (fun a hF=>?_)
  |exact ⟨_,hF,LeX.a []⟩
  |refine IdxX.o z0f hF (fun x hF=>?_)
  |refine z0m.o hF zav (fun a h=>zbo h) (fun a hF=>?_)
  |exact ⟨_,hF,LeX.a []⟩
  |refine zuj hF (LeX.a []) (fun m v hF=>?_);unfold z7h at hF
  |refine z0m.o hF zdp (fun a h=>zec h) (fun a hF=>?_)
  |exact ⟨_,hF,LeX.a []⟩
  |refine zuk hF (LeX.a []) (fun m v hF=>?_);unfold z7i at hF
  |refine zul hF (LeX.trans (LeX.put 10 _ (by repeat' first|exact Sub.nil _|exact Sub.refl _|refine Sub.agg ?_|refine Sub.tup ?_|refine Sub.fn ?_|exact SubL.nil|refine SubL.cons ?_ ?_|refine Sub.sl _ ?_|exact SubE.nil|refine SubE.cons ?_ ?_)) (LeX.trans (LeX.put 11 _ (by repeat' first|exact Sub.nil _|exact Sub.refl _|refine Sub.agg ?_|refine Sub.tup ?_|refine Sub.fn ?_|exact SubL.nil|refine SubL.cons ?_ ?_|refine Sub.sl _ ?_|exact SubE.nil|refine SubE.cons ?_ ?_)) (LeX.of [] rfl ⟨⟨rfl,rfl⟩,⟨rfl,rfl⟩,⟨rfl,rfl⟩,⟨rfl,rfl⟩,⟨rfl,rfl⟩,⟨rfl,rfl⟩,⟨rfl,rfl⟩,trivial⟩ ⟨⟨rfl,rfl⟩,⟨rfl,rfl⟩,trivial⟩))) (fun m v hF=>?_);unfold z7j at hF
  |refine And.intro ⟨by kernel_rfl,by kernel_rfl⟩ ?_
  |exact RetX.oA hF
end Go.Proofs.YtjpknpjjcddnnaaGreat
namespace Go.Proofs.YtjpknpjjcddnnaaGreat
open Go.RowKit
def zoi (a2:Int)(a1:(List z01))(a0:z05)(v1_0:(List z00)×(List z02)×Int)(cv1_0:((List z00)×(List z02)×Int)->Option ((List z00)×(List z02)×Bool))(k2_1_0y0:(List z02))(k2_1_0y1:(List z00))(w3_2:Bool):AS:=⟨[(1,.sl 5 (a1.map z04)),(2,aI (a2)),(3,.ptr 3 0),(10,.sl 1 (k2_1_0y0.map z0f)),(11,aI (v1_0.2.2)),(12,.sl 3 (k2_1_0y1.map z0b)),(55,.bool (w3_2))],[(3,.box 25 [aI (a0.fVars),aI (a0.fScopes),.sl 1 (a0.fStates.map z0d),.sl 17 (a0.fEdges.map z0e)])]⟩
theorem znk {n a2 a1 a0 v1_0 cv1_0 k2_1_0y0 k2_1_0y1}:z3v E0 59 (z3d n a2 a1 a0 v1_0 cv1_0 k2_1_0y0 k2_1_0y1) (zoi a2 a1 a0 v1_0 cv1_0 k2_1_0y0 k2_1_0y1):=AW.jT
def zog (a2:Int)(a1:(List z01))(a0:z05)(v1_0:(List z00)×(List z02)×Int)(x45:(List z00)×(List z02))(v2_1:(List z02)×Int):AS:=⟨[(1,.sl 5 (a1.map z04)),(2,aI (a2)),(3,.ptr 3 0),(10,.sl 1 (v2_1.1.map z0f)),(11,aI (v1_0.2.2)),(12,.sl 3 (x45.1.map z0b)),(13,.sl 1 (x45.2.map z0f)),(14,aI (v2_1.2))],[(3,.box 25 [aI (a0.fVars),aI (a0.fScopes),.sl 1 (a0.fStates.map z0d),.sl 17 (a0.fEdges.map z0e)])]⟩
theorem zni {n a2 a1 a0 v1_0 x45 k2_1_0}:z27 E0 59 (z57 n a2 a1 a0 v1_0 x45 k2_1_0) (zog a2 a1 a0 v1_0 x45):=LoopA.oT fun _=>rfl
def zoh (a2:Int)(a1:(List z01))(a0:z05)(v1_0:(List z00)×(List z02)×Int):AS:=⟨[(1,.sl 5 (a1.map z04)),(2,aI (a2)),(3,.ptr 3 0),(9,.sl 3 (v1_0.1.map z0b)),(10,.sl 1 (v1_0.2.1.map z0f)),(11,aI (v1_0.2.2))],[(3,.box 25 [aI (a0.fVars),aI (a0.fScopes),.sl 1 (a0.fStates.map z0d),.sl 17 (a0.fEdges.map z0e)])]⟩
theorem znj {n a2 a1 a0 k1_0_0}:z27 E0 59 (z2f n a2 a1 a0 k1_0_0) (zoh a2 a1 a0):=LoopA.oT fun _=>rfl
def zh8 (r:(List z00)×(List z02)×Bool):AV:=.tup [.sl 3 (r.1.map z0b),.sl 1 (r.2.1.map z0f),.bool (r.2.2)]
theorem zq3 {n a0 a1 a2 r}(hF:z7g n a0 a1 a2=some r):Con E0 false 35 [.agg [aI (a0.fVars),aI (a0.fScopes),.sl 1 (a0.fStates.map z0d),.sl 17 (a0.fEdges.map z0e)],.sl 5 (a1.map z04),aI (a2)] (zh8 r):=by
 unfold z7g at hF
 refine Con.walk _ Tryz.func35 rfl (z08 Tryz.func35 rfl rfl) rfl (Or.inl rfl) ?_
 repeat' first
  |refine znk hF (fun hF=>?_) (fun v hF=>?_);rotate_left;unfold z3d at hF
  |refine AW.regO hF (fun hF=>?_)
  |refine AW.stepU [11] ?_;conv=>whnf
  |refine z0v.o hF (fun hF=>?_) (fun hF=>?_)
  |refine z0m.o hF zil (fun a h=>zsr h) (fun a hF=>?_)
  |refine IdxX.o z04 hF (fun x hF=>?_)
  |refine z0m.o hF zl6 (fun a h=>zx2 h) (fun a hF=>?_)
  |exact ⟨_,hF,LeX.a []⟩
  |exact ⟨_,hF,LeX.a []⟩
  |refine IdxX.o z0f hF (fun x hF=>?_)
  |refine z0m.o hF zav (fun a h=>zbo h) (fun a hF=>?_)
  |exact ⟨_,hF,LeX.a []⟩
  |refine zni hF (LeX.a []) (fun m v hF=>?_);unfold z57 at hF
  |refine znj hF (LeX.trans (LeX.put 10 _ (by repeat' first|exact Sub.nil _|exact Sub.refl _|refine Sub.agg ?_|refine Sub.tup ?_|refine Sub.fn ?_|exact SubL.nil|refine SubL.cons ?_ ?_|refine Sub.sl _ ?_|exact SubE.nil|refine SubE.cons ?_ ?_)) (LeX.of [] rfl ⟨⟨rfl,rfl⟩,⟨rfl,rfl⟩,⟨rfl,rfl⟩,⟨rfl,rfl⟩,⟨rfl,rfl⟩,⟨rfl,rfl⟩,trivial⟩ ⟨⟨rfl,rfl⟩,trivial⟩)) (fun m v hF=>?_);unfold z2f at hF
  |refine And.intro ⟨by kernel_rfl,by kernel_rfl⟩ ?_
  |exact RetX.oA hF
def zqj (a1:(List z01))(a0:z05)(w1_0:Bool):AS:=⟨[(1,.sl 5 (a1.map z04)),(2,.ptr 2 0),(15,.bool (w1_0))],[(2,.box 25 [aI (a0.fVars),aI (a0.fScopes),.sl 1 (a0.fStates.map z0d),.sl 17 (a0.fEdges.map z0e)])]⟩
theorem zp0 {n a1 a0}:z3v E0 28 (z3z n a1 a0) (zqj a1 a0):=AW.jT
def zij (r:Bool):AV:=.bool (r)
theorem zsp {n a0 a1 r}(hF:z9m n a0 a1=some r):Con E0 true 7 [.agg [aI (a0.fVars),aI (a0.fScopes),.sl 1 (a0.fStates.map z0d),.sl 17 (a0.fEdges.map z0e)],.sl 5 (a1.map z04)] (zij r):=by
 unfold z9m at hF
 refine Con.walk _ Tryz.func7 rfl (z08 Tryz.func7 rfl rfl) rfl (Or.inr rfl) ?_
 repeat' first
  |refine zp0 hF (fun hF=>?_) (fun v hF=>?_);rotate_left;unfold z3z at hF
  |refine AW.regO hF (fun hF=>?_)
  |refine AW.stepU [1] ?_;conv=>whnf
  |refine z0v.o hF (fun hF=>?_) (fun hF=>?_)
  |refine z0m.o hF zja (fun a h=>zv8 h) (fun a hF=>?_)
  |refine z0m.o hF zh8 (fun a h=>zq3 h) (fun a hF=>?_)
  |refine z0m.o hF zl8 (fun a h=>zx4 h) (fun a hF=>?_)
  |exact ⟨_,hF,LeX.a []⟩
  |refine z0m.o hF zla (fun a h=>zx6 h) (fun a hF=>?_)
  |exact RetX.oA hF
end Go.Proofs.YtjpknpjjcddnnaaGreat
namespace Go.Proofs.YtjpknpjjcddnnaaGreat
open Go.RowKit
def zu2 (a1:z00)(a0:z0i)(v2_2:Int)(cv2_2:Int->Option (Int))(w11_4:Bool):AS:=⟨[(0,.ref [aI (a0.fa.fVars),aI (a0.fa.fScopes),.sl 1 (a0.fa.fStates.map z0d),.sl 17 (a0.fa.fEdges.map z0e),.mapv (List.map (encM z28 z04) (a0.fheld))]),(3,.ptr 3 0),(84,.sl 2 (a1.fStarts.map z07)),(85,aI (((a1.fStarts.map z07).length:Int))),(86,aI (v2_2)),(115,.bool (w11_4))],[(3,.box 77 [aI (a1.fState),.sl 4 (a1.fBindings.map z06),.sl 2 (a1.fStarts.map z07)])]⟩
theorem zsi {n a1 a0 v2_2 cv2_2}:z3v E0 131 (z52 n a1 a0 v2_2 cv2_2) (zu2 a1 a0 v2_2 cv2_2):=AW.jT
def zu3 (a1:z00)(a0:z0i)(v2_2:Int)(cv2_2:Int->Option (Int))(x82:z0c)(w10_3:Bool):AS:=⟨[(0,.ref [aI (a0.fa.fVars),aI (a0.fa.fScopes),.sl 1 (a0.fa.fStates.map z0d),.sl 17 (a0.fa.fEdges.map z0e),.mapv (List.map (encM z28 z04) (a0.fheld))]),(3,.ptr 3 0),(9,aI (v2_2)),(10,.ptr 10 0),(84,.sl 2 (a1.fStarts.map z07)),(85,aI (((a1.fStarts.map z07).length:Int))),(86,aI (v2_2)),(91,.bool (w10_3))],[(3,.box 77 [aI (a1.fState),.sl 4 (a1.fBindings.map z06),.sl 2 (a1.fStarts.map z07)]),(10,.box 120 [aI (x82.fScope),aI (x82.fTime)])]⟩
theorem zsj {n a1 a0 v2_2 cv2_2 x82}:z3v E0 131 (z2d n a1 a0 v2_2 cv2_2 x82) (zu3 a1 a0 v2_2 cv2_2 x82):=AW.jT
def zwb (a1:z00)(a0:z0i)(v2_2:Int):AS:=⟨[(0,.ref [aI (a0.fa.fVars),aI (a0.fa.fScopes),.sl 1 (a0.fa.fStates.map z0d),.sl 17 (a0.fa.fEdges.map z0e),.mapv (List.map (encM z28 z04) (a0.fheld))]),(3,.ptr 3 0),(84,.sl 2 (a1.fStarts.map z07)),(85,aI (((a1.fStarts.map z07).length:Int))),(86,aI (v2_2))],[(3,.box 77 [aI (a1.fState),.sl 4 (a1.fBindings.map z06),.sl 2 (a1.fStarts.map z07)])]⟩
theorem zv1 {n a1 a0 k2_2_0}:z27 E0 131 (z20 n a1 a0 k2_2_0) (zwb a1 a0):=LoopA.oT fun _=>rfl
def zu0 (a1:z00)(a0:z0i)(v1_1:Int)(cv1_1:Int->Option (Int))(x89:Bool)(w13_6:Bool):AS:=⟨[(0,.ref [aI (a0.fa.fVars),aI (a0.fa.fScopes),.sl 1 (a0.fa.fStates.map z0d),.sl 17 (a0.fa.fEdges.map z0e),.mapv (List.map (encM z28 z04) (a0.fheld))]),(3,.ptr 3 0),(8,.bool (x89)),(32,.sl 4 (a1.fBindings.map z06)),(33,aI (((a1.fBindings.map z06).length:Int))),(34,aI (v1_1)),(63,.bool (w13_6))],[(3,.box 77 [aI (a1.fState),.sl 4 (a1.fBindings.map z06),.sl 2 (a1.fStarts.map z07)])]⟩
theorem zsg {n a1 a0 v1_1 cv1_1 x89}:z3v E0 131 (z4z n a1 a0 v1_1 cv1_1 x89) (zu0 a1 a0 v1_1 cv1_1 x89):=AW.jT
def zu1 (a1:z00)(a0:z0i)(v1_1:Int)(cv1_1:Int->Option (Int))(x87:z0p)(x89:Bool)(w12_5:Bool):AS:=⟨[(0,.ref [aI (a0.fa.fVars),aI (a0.fa.fScopes),.sl 1 (a0.fa.fStates.map z0d),.sl 17 (a0.fa.fEdges.map z0e),.mapv (List.map (encM z28 z04) (a0.fheld))]),(3,.ptr 3 0),(5,aI (v1_1)),(6,.ptr 6 0),(8,.bool (x89)),(32,.sl 4 (a1.fBindings.map z06)),(33,aI (((a1.fBindings.map z06).length:Int))),(34,aI (v1_1)),(49,.bool (w12_5))],[(3,.box 77 [aI (a1.fState),.sl 4 (a1.fBindings.map z06),.sl 2 (a1.fStarts.map z07)]),(6,.box 128 [aI (x87.fVar),aI (x87.fRef.fTime),aI (x87.fRef.fSource),aI (x87.fRef.fSeq)])]⟩
theorem zsh {n a1 a0 v1_1 cv1_1 x87 x89}:z3v E0 131 (z51 n a1 a0 v1_1 cv1_1 x87 x89) (zu1 a1 a0 v1_1 cv1_1 x87 x89):=AW.jT
def zwc (a1:z00)(a0:z0i)(v1_1:Int):AS:=⟨[(0,.ref [aI (a0.fa.fVars),aI (a0.fa.fScopes),.sl 1 (a0.fa.fStates.map z0d),.sl 17 (a0.fa.fEdges.map z0e),.mapv (List.map (encM z28 z04) (a0.fheld))]),(3,.ptr 3 0),(32,.sl 4 (a1.fBindings.map z06)),(33,aI (((a1.fBindings.map z06).length:Int))),(34,aI (v1_1))],[(3,.box 77 [aI (a1.fState),.sl 4 (a1.fBindings.map z06),.sl 2 (a1.fStarts.map z07)])]⟩
theorem zv2 {n a1 a0 k1_1_0}:z27 E0 131 (z3t n a1 a0 k1_1_0) (zwc a1 a0):=LoopA.oT fun _=>rfl
def zwd (a1:z00)(a0:z0i)(w1_0:Bool):AS:=⟨[(0,.ref [aI (a0.fa.fVars),aI (a0.fa.fScopes),.sl 1 (a0.fa.fStates.map z0d),.sl 17 (a0.fa.fEdges.map z0e),.mapv (List.map (encM z28 z04) (a0.fheld))]),(3,.ptr 3 0),(11,.bool (w1_0))],[(3,.box 77 [aI (a1.fState),.sl 4 (a1.fBindings.map z06),.sl 2 (a1.fStarts.map z07)])]⟩
theorem zv3 {n a1 a0}:z3v E0 131 (z5w n a1 a0) (zwd a1 a0):=AW.jT
def zfz (r:Int):AV:=aI (r)
theorem zie {n a0 a1 r}(hF:z6o n a0 a1=some r):Con E0 true 61 [.ref [aI (a0.fa.fVars),aI (a0.fa.fScopes),.sl 1 (a0.fa.fStates.map z0d),.sl 17 (a0.fa.fEdges.map z0e),.mapv (List.map (encM z28 z04) (a0.fheld))],.agg [aI (a1.fState),.sl 4 (a1.fBindings.map z06),.sl 2 (a1.fStarts.map z07)]] (zfz r):=by
 unfold z6o at hF
 refine Con.walk _ Tryz.func61 rfl (z08 Tryz.func61 rfl rfl) rfl (Or.inr rfl) ?_
 repeat' first
  |refine zsi hF (fun hF=>?_) (fun v hF=>?_);rotate_left;unfold z52 at hF
  |refine zsj hF (fun hF=>?_) (fun v hF=>?_);rotate_left;unfold z2d at hF
  |refine zsg hF (fun hF=>?_) (fun v hF=>?_);rotate_left;unfold z4z at hF
  |refine zsh hF (fun hF=>?_) (fun v hF=>?_);rotate_left;unfold z51 at hF
  |refine zv3 hF (fun hF=>?_) (fun v hF=>?_);rotate_left;unfold z5w at hF
  |refine AW.regO hF (fun hF=>?_)
  |refine AW.stepU [1,9,11,19,21] ?_;conv=>whnf
  |refine z0v.o hF (fun hF=>?_) (fun hF=>?_)
  |refine z0v.t ?_
  |refine IdxX.o z07 hF (fun x hF=>?_)
  |exact ⟨_,hF,LeX.a []⟩
  |exact ⟨_,hF,LeX.a []⟩
  |exact ⟨_,hF,LeX.a []⟩
  |refine OpX.nckR rfl rfl rfl rfl ?_
  |refine zv1 hF (LeX.a []) (fun m v hF=>?_);unfold z20 at hF
  |refine IdxX.o z06 hF (fun x hF=>?_)
  |refine OpX.lkv z28 z04 hF eqK_108 rfl rfl rfl rfl rfl rfl rfl rfl rfl rfl (by first|rfl|kernel_rfl) (by repeat' first|exact Sub.nil _|exact Sub.refl _|refine Sub.agg ?_|refine Sub.tup ?_|refine Sub.fn ?_|exact SubL.nil|refine SubL.cons ?_ ?_|refine Sub.sl _ ?_|exact SubE.nil|refine SubE.cons ?_ ?_) (fun v b hF=>?_)
  |refine z0m.o hF R_run_refs (fun a h=>con_run_refs h) (fun a hF=>?_)
  |exact ⟨_,hF,LeX.a []⟩
  |exact ⟨_,hF,LeX.a []⟩
  |refine zv2 hF (LeX.a []) (fun m v hF=>?_);unfold z3t at hF
  |exact ⟨_,hF,LeX.a []⟩
  |refine And.intro ⟨by kernel_rfl,by kernel_rfl⟩ ?_
  |exact RetX.oA hF
def S_run_Advance_j1 (x49:(List z00)×(List z02))(w1_2:Bool):AS:=⟨[(17,.sl 3 (x49.1.map z0b)),(18,.sl 1 (x49.2.map z0f)),(64,.bool (w1_2))],[]⟩
theorem run_Advance_j1_o {n x49}:z3v E0 67 (za1 n x49) (S_run_Advance_j1 x49):=AW.jT
def S_run_Advance_l2 (a3:z01)(a2:(List z00))(x2:z0i)(v2_1:Int):AS:=⟨[(2,.sl 3 (a2.map z0b)),(7,.ptr 7 0),(11,.ref [aI (x2.fa.fVars),aI (x2.fa.fScopes),.sl 1 (x2.fa.fStates.map z0d),.sl 17 (x2.fa.fEdges.map z0e),.mapv (List.map (encM z28 z04) (x2.fheld))]),(31,.sl 3 (a2.map z0b)),(32,aI (((a2.map z0b).length:Int))),(33,aI (v2_1))],[(7,.box 66 [aI (a3.fSource),aI (a3.fSeq),aI (a3.fType),aI (a3.fTime),.sl 3 (a3.fValues.map z0a)])]⟩
theorem run_Advance_l2_o {n a3 a2 x2 k2_1_0}:z27 E0 67 (zbn n a3 a2 x2 k2_1_0) (S_run_Advance_l2 a3 a2 x2):=LoopA.oT fun _=>rfl
def y1z (r:(List z00)×(List z02)×Int):AV:=.tup [.sl 3 (r.1.map z0b),.sl 1 (r.2.1.map z0f),aI (r.2.2)]
theorem con_run_Advance {n a0 a1 a2 a3 r}(hF:zh2 n a0 a1 a2 a3=some r):Con E0 false 26 [.agg [aI (a0.fVars),aI (a0.fScopes),.sl 1 (a0.fStates.map z0d),.sl 17 (a0.fEdges.map z0e)],.sl 5 (a1.map z04),.sl 3 (a2.map z0b),.agg [aI (a3.fSource),aI (a3.fSeq),aI (a3.fType),aI (a3.fTime),.sl 3 (a3.fValues.map z0a)]] (y1z r):=by
 unfold zh2 at hF
 refine Con.walk _ Tryz.func26 rfl (z08 Tryz.func26 rfl rfl) rfl (Or.inl rfl) ?_
 repeat' first
  |refine run_Advance_j1_o hF (fun hF=>?_) (fun v hF=>?_);rotate_left;unfold za1 at hF
  |refine AW.regO hF (fun hF=>?_)
  |refine AW.stepU [17] ?_;conv=>whnf
  |refine z0v.o hF (fun hF=>?_) (fun hF=>?_)
  |refine z0m.oP hF zck (fun u=>.tup [.nilp,aI (u.2)]) (fun u y=>.tup [.ref [aI (y.fa.fVars),aI (y.fa.fScopes),.sl 1 (y.fa.fStates.map z0d),.sl 17 (y.fa.fEdges.map z0e),.mapv (List.map (encM z28 z04) (y.fheld))],aI (u.2)]) (fun u h=>by simp only [zck,h,zdh]) (fun u y h=>by simp only [zck,h,zdh]) (fun a h=>zt3 h) (fun a hF=>?_) (fun a y hF=>?_)
  |(cases hF;done)
  |refine z0m.o hF R_run_fits (fun a h=>con_run_fits h) (fun a hF=>?_)
  |refine z0m.o hF zem (fun a h=>zgm h) (fun a hF=>?_)
  |exact ⟨_,hF,LeX.a []⟩
  |refine IdxX.o z0b hF (fun x hF=>?_)
  |refine z0m.o hF zfz (fun a h=>zie h) (fun a hF=>?_)
  |exact ⟨_,hF,LeX.a []⟩
  |refine run_Advance_l2_o hF (LeX.a []) (fun m v hF=>?_);unfold zbn at hF
  |exact RetX.oA hF
def R_run_Check (r:Int):AV:=aI (r)
theorem con_run_Check {n a0 a1 a2 r}(hF:zlo n a0 a1 a2=some r):Con E0 true 27 [.agg [aI (a0.fVars),aI (a0.fScopes),.sl 1 (a0.fStates.map z0d),.sl 17 (a0.fEdges.map z0e)],.sl 5 (a1.map z04),.agg [aI (a2.fState),.sl 4 (a2.fBindings.map z06),.sl 2 (a2.fStarts.map z07)]] (R_run_Check r):=by
 unfold zlo at hF
 refine Con.walk _ Tryz.func27 rfl (z08 Tryz.func27 rfl rfl) rfl (Or.inr rfl) ?_
 repeat' first
  |refine AW.step ?_;conv=>whnf
  |refine z0v.o hF (fun hF=>?_) (fun hF=>?_)
  |refine z0m.oP hF zck (fun u=>.tup [.nilp,aI (u.2)]) (fun u y=>.tup [.ref [aI (y.fa.fVars),aI (y.fa.fScopes),.sl 1 (y.fa.fStates.map z0d),.sl 17 (y.fa.fEdges.map z0e),.mapv (List.map (encM z28 z04) (y.fheld))],aI (u.2)]) (fun u h=>by simp only [zck,h,zdh]) (fun u y h=>by simp only [zck,h,zdh]) (fun a h=>zt3 h) (fun a hF=>?_) (fun a y hF=>?_)
  |(cases hF;done)
  |refine z0m.o hF zfz (fun a h=>zie h) (fun a hF=>?_)
  |exact RetX.oA hF
set_option maxHeartbeats 400000 in
theorem clone31_any (l:List (Cel 1))(S:Nat->Prop)(v:Value)(w:World)(h:Sl w S 1 encC v l)(hl:l.length<=1000000000) :
  Calls Tryz.prog 31 #[v] w (RetOwn 83 1 encC l w):=by
 have eok:EOk Tryz.prog 30 83 1 24 (encC (n:=1)):=eokC (sz:=1) tyOk30 rfl tyOk83 (by omega) rfl
 obtain ⟨A,c,rfl,hc,_⟩:=h.form
 have hq:=fun (W:World)=>Lib.run_eql_slice_nil W 30 83 A l.length c 0 0 Tryz.underlying30
 have H:=hide h
 cases A with
 |none =>
  have h0:l=[]:=h.none_nil
  subst h0
  clear h H hl hc
  simp only [List.length_nil,Option.isNone_none] at hq ⊢
  go_enter Tryz.func31,Tryz.ntmps31
  go_wp2
  go_ret
  exact ⟨none,0,rfl,Own.nil_,by go_grown⟩
 |some ad =>
  clear h
  go_enter Tryz.func31,Tryz.ntmps31
  go_wp2_with (at_builtin;refine z9y rfl _ _ rfl eok rfl Own.made_ rfl (H.out.alloc _) (by simp;omega) (by omega) (by simp) ?_;intro A' c' w1 ho hg _)
  go_ret
  exact ⟨A',c',rfl,ho,(Own.made_ (sz:=1) (enc:=encC (n:=1))).grown ((Below.refl _ _).alloc (Nat.le_refl _) _) (Nat.le_refl _) (by simp) hg⟩
theorem conT_clone31 {n a r}(hF:zd7 n a=some r):ConT E0 31 [.sl 1 (List.map z0f a)] 83 1 (List.map z0f r) (.row 0):=zqg rfl (z08 Tryz.func31 rfl rfl) clone31_any hF
def zoo (a0:(List z02))(v1_0:(List z02)×Int):AS:=⟨[(0,.sl 1 (a0.map z0f)),(3,.sl 1 (v1_0.1.map z0f)),(4,aI (v1_0.2))],[]⟩
theorem znq {n a0 k1_0_0}:z27 E0 18 (z5a n a0 k1_0_0) (zoo a0):=LoopA.oT fun _=>rfl
def zhb (r:(List z02)):AV:=.sl 1 (r.map z0f)
theorem zq6 {n a0 r}(hF:z94 n a0=some r):Con E0 false 30 [.sl 1 (a0.map z0f)] (zhb r):=by
 unfold z94 at hF
 refine Con.walk _ Tryz.func30 rfl (z08 Tryz.func30 rfl rfl) rfl (Or.inl rfl) ?_
 repeat' first
  |refine AW.step ?_;conv=>whnf
  |refine z0v.o hF (fun hF=>?_) (fun hF=>?_)
  |refine IdxX.o z0f hF (fun x hF=>?_)
  |refine z0m.o hF zav (fun a h=>zbo h) (fun a hF=>?_)
  |exact ⟨_,hF,LeX.a []⟩
  |refine znq hF (LeX.trans (LeX.put 3 _ (by repeat' first|exact Sub.nil _|exact Sub.refl _|refine Sub.agg ?_|refine Sub.tup ?_|refine Sub.fn ?_|exact SubL.nil|refine SubL.cons ?_ ?_|refine Sub.sl _ ?_|exact SubE.nil|refine SubE.cons ?_ ?_)) (LeX.of [] rfl ⟨⟨rfl,rfl⟩,⟨rfl,rfl⟩,⟨rfl,rfl⟩,trivial⟩ trivial)) (fun m v hF=>?_);unfold z5a at hF
  |exact RetX.oA hF
def zhw (w5_3:Bool):AS:=⟨[(4,.bool (w5_3))],[]⟩
theorem zhm {n}:z3v E0 142 (z1a n) zhw:=AW.jT
def zhv (a1:(List z01))(a0:z05)(x7:(List z00)×(List z02)×Int)(x10:(List z00)×(List z02)×Int)(x11:(List z00)×(List z02)×Int)(v1_2:Int)(cv1_2:Int->Option (Bool))(w6_4:Bool):AS:=⟨[(1,.sl 5 (a1.map z04)),(2,.ptr 2 0),(6,.sl 3 (x7.1.map z0b)),(7,.sl 1 (x7.2.1.map z0f)),(10,.sl 1 (x10.2.1.map z0f)),(12,.sl 3 (x11.1.map z0b)),(13,.sl 1 (x11.2.1.map z0f)),(88,.sl 3 (x11.1.map z0b)),(89,aI (((x11.1.map z0b).length:Int))),(90,aI (v1_2)),(113,.bool (w6_4))],[(2,.box 25 [aI (a0.fVars),aI (a0.fScopes),.sl 1 (a0.fStates.map z0d),.sl 17 (a0.fEdges.map z0e)])]⟩
theorem zhl {n a1 a0 x7 x10 x11 v1_2 cv1_2}:z3v E0 142 (z1g n a1 a0 x7 x10 x11 v1_2 cv1_2) (zhv a1 a0 x7 x10 x11 v1_2 cv1_2):=AW.jT
def zhu (a1:(List z01))(a0:z05)(x7:(List z00)×(List z02)×Int)(x10:(List z00)×(List z02)×Int)(x11:(List z00)×(List z02)×Int)(v1_2:Int):AS:=⟨[(1,.sl 5 (a1.map z04)),(2,.ptr 2 0),(6,.sl 3 (x7.1.map z0b)),(7,.sl 1 (x7.2.1.map z0f)),(10,.sl 1 (x10.2.1.map z0f)),(12,.sl 3 (x11.1.map z0b)),(13,.sl 1 (x11.2.1.map z0f)),(88,.sl 3 (x11.1.map z0b)),(89,aI (((x11.1.map z0b).length:Int))),(90,aI (v1_2))],[(2,.box 25 [aI (a0.fVars),aI (a0.fScopes),.sl 1 (a0.fStates.map z0d),.sl 17 (a0.fEdges.map z0e)])]⟩
end Go.Proofs.YtjpknpjjcddnnaaGreat
namespace Go.Proofs.YtjpknpjjcddnnaaGreat
open Go.RowKit
theorem zhk {n a1 a0 x7 x10 x11 k1_2_0}:z27 E0 142 (z19 n a1 a0 x7 x10 x11 k1_2_0) (zhu a1 a0 x7 x10 x11):=LoopA.oT fun _=>rfl
def zhx (a1:(List z01))(a0:z05)(x7:(List z00)×(List z02)×Int)(x10:(List z00)×(List z02)×Int)(x11:(List z00)×(List z02)×Int)(w2_1:Bool):AS:=⟨[(1,.sl 5 (a1.map z04)),(2,.ptr 2 0),(6,.sl 3 (x7.1.map z0b)),(7,.sl 1 (x7.2.1.map z0f)),(10,.sl 1 (x10.2.1.map z0f)),(12,.sl 3 (x11.1.map z0b)),(13,.sl 1 (x11.2.1.map z0f)),(87,.bool (w2_1))],[(2,.box 25 [aI (a0.fVars),aI (a0.fScopes),.sl 1 (a0.fStates.map z0d),.sl 17 (a0.fEdges.map z0e)])]⟩
theorem zhn {n a1 a0 x7 x10 x11}:z3v E0 142 (z1b n a1 a0 x7 x10 x11) (zhx a1 a0 x7 x10 x11):=AW.jT
def zhy (a1:(List z01))(a0:z05)(w1_0:Bool):AS:=⟨[(1,.sl 5 (a1.map z04)),(2,.ptr 2 0),(37,.bool (w1_0))],[(2,.box 25 [aI (a0.fVars),aI (a0.fScopes),.sl 1 (a0.fStates.map z0d),.sl 17 (a0.fEdges.map z0e)])]⟩
theorem zho {n a1 a0}:z3v E0 142 (z0x n a1 a0) (zhy a1 a0):=AW.jT
def zk0 (r:Bool):AV:=.bool (r)
theorem zic {n a0 a1 r}(hF:z8j n a0 a1=some r):Con E0 true 6 [.agg [aI (a0.fVars),aI (a0.fScopes),.sl 1 (a0.fStates.map z0d),.sl 17 (a0.fEdges.map z0e)],.sl 5 (a1.map z04)] (zk0 r):=by
 unfold z8j at hF
 refine Con.walk _ Tryz.func6 rfl (z08 Tryz.func6 rfl rfl) rfl (Or.inr rfl) ?_
 repeat' first
  |refine zhm hF (fun hF=>?_) (fun v hF=>?_);rotate_left;unfold z1a at hF
  |refine zhl hF (fun hF=>?_) (fun v hF=>?_);rotate_left;unfold z1g at hF
  |refine zhn hF (fun hF=>?_) (fun v hF=>?_);rotate_left;unfold z1b at hF
  |refine zho hF (fun hF=>?_) (fun v hF=>?_);rotate_left;unfold z0x at hF
  |refine AW.regO hF (fun hF=>?_)
  |refine AW.stepU [1,7,12,16] ?_;conv=>whnf
  |refine z0v.o hF (fun hF=>?_) (fun hF=>?_)
  |refine z0v.t ?_
  |refine z0v.f ?_
  |refine z0m.o hF zit (fun a h=>zsz h) (fun a hF=>?_)
  |refine SlsX.o z04 hF (fun l hF=>?_)
  |refine z0m.o hF y1x (fun a h=>y0m h) (fun a hF=>?_)
  |refine IdxX.o z04 hF (fun x hF=>?_)
  |refine z0m.o hF y1z (fun a h=>con_run_Advance h) (fun a hF=>?_)
  |refine z0m.oR hF (fun r=>r) z0b (fun _=>AV.row 0) rfl (fun a h=>conT_clone29 h) (fun a hF=>?_)
  |refine AppX.o z0b hF (by first|exact SubR.refl _|(repeat' first|exact SubR.nil|refine SubR.cons ?_ ?_|exact SubL.nil|refine SubL.cons ?_ ?_|exact Sub.refl _|exact Sub.nil _)) (fun l hF=>?_)
  |refine zbm.oE hF 119 R_run_Sort rfl (fun a h=>con_run_Sort h) rfl rfl (fun a hF=>?_)
  |refine z0m.o hF zjb (fun a h=>zv9 h) (fun a hF=>?_)
  |refine z0m.oR hF (fun r=>r) z0f (fun _=>AV.row 0) rfl (fun a h=>conT_clone31 h) (fun a hF=>?_)
  |refine AppX.o z0f hF (by first|exact SubR.refl _|(repeat' first|exact SubR.nil|refine SubR.cons ?_ ?_|exact SubL.nil|refine SubL.cons ?_ ?_|exact Sub.refl _|exact Sub.nil _)) (fun l hF=>?_)
  |refine zbm.oE hF 134 zhb rfl (fun a h=>zq6 h) rfl rfl (fun a hF=>?_)
  |refine z0m.o hF zff (fun a h=>zh5 h) (fun a hF=>?_)
  |exact ⟨_,hF,LeX.a []⟩
  |refine IdxX.o z0b hF (fun x hF=>?_)
  |exact ⟨_,hF,LeX.a []⟩
  |refine z0m.o hF R_run_Check (fun a h=>con_run_Check h) (fun a hF=>?_)
  |exact ⟨_,hF,LeX.a []⟩
  |refine z0m.o hF zad (fun a h=>zci h) (fun a hF=>?_)
  |refine zhk hF (LeX.a []) (fun m v hF=>?_);unfold z19 at hF
  |exact ⟨_,hF,LeX.a []⟩
  |refine z0m.o hF zij (fun a h=>zsp h) (fun a hF=>?_)
  |exact ⟨_,hF,LeX.a []⟩
  |refine z0m.o hF zee (fun a h=>zge h) (fun a hF=>?_)
  |refine z0m.o hF zej (fun a h=>zgk h) (fun a hF=>?_)
  |refine And.intro ⟨by kernel_rfl,by kernel_rfl⟩ ?_
  |exact RetX.oA hF
end Go.Proofs.YtjpknpjjcddnnaaGreat
namespace Go.Proofs.YtjpknpjjcddnnaaGreat
open Go.RowKit
theorem continues_con25 (a:z05)(hw:WfA a)(l:List z01):Con E0 true 6 [zgc a,.sl 5 (l.map z04)] (.bool true):=zic (law_continues a hw l)
end Go.Proofs.YtjpknpjjcddnnaaGreat
namespace Go.Proofs.YtjpknpjjcddnnaaGreat
open Go.ChangeShapes Go.WideShapes Go.ChangeAt Go.RowKit
theorem args_two {w:World}{S:Nat->Prop}{a b:AV}{x y:Value}(ha:Rep w S G0 a x)(hb:Rep w S G0 b y):Args w S [a,b] #[x,y] :=
 ⟨rfl,fun i hi=>by
  have hi':i<2:=hi
  rcases i with _|_|i
  ·exact ha
  ·exact hb
  ·omega⟩
theorem own_knob:ownKnob Tryz.prog.godebug=none:=by kernel_rfl
theorem laid_out:laidOutB Tryz.prog=true:=by kernel_rfl
section
variable {H:Type} {enc:TypeId×Value->H}
theorem y0z {W W':World}{sp':Nat->Bool}(hb:Below W.heap.size W W')(ts:List TypeId):∀ (vs:List Value) (ds:List (DataW H)) (p:List MemPlace),ts.all (fun t=>Tryz.prog.readableRec t && decide (t<Tryz.prog.types.size))=true ->
  DataW.TrodAll enc Tryz.prog W 0 (fun _=>true) true ts vs ds p->(∀ x∈p,x.block<W.heap.size)->(∀ x∈p,sp' x.block=true)->DataW.TrodAll enc Tryz.prog W' 0 sp' true ts vs ds p:=by
 induction ts with
 |nil =>
  intro vs ds p _ h _ _
  match vs,ds,h with
  |[],[],h=>exact h
  |_::_,_,h=>exact h.elim
  |[],_::_,h=>exact h.elim
 |cons t ts ih =>
  intro vs ds p hr h hlt hs
  match vs,ds,h with
  |v::vs,d::ds,h =>
   obtain ⟨q,r,h1,h2,rfl⟩:=h
   have hr1:Tryz.prog.readableRec t=true/\t<Tryz.prog.types.size:=by
    have:=List.all_eq_true.mp hr t (List.mem_cons_self ..)
    rw [Bool.and_eq_true,decide_eq_true_eq] at this;exact this
   have hr2:ts.all (fun t=>Tryz.prog.readableRec t && decide (t<Tryz.prog.types.size))=true :=
    List.all_eq_true.mpr fun x hx=>List.all_eq_true.mp hr x (List.mem_cons_of_mem _ hx)
   exact ⟨q,r,WideElems.Trod_stays laid_out hr1.1 hr1.2 h1 (fun x hx=>hb.same (hlt x (List.mem_append_left _ hx))) (fun x hx=>hs x (List.mem_append_left _ hx)),
    ih vs ds r hr2 h2 (fun x hx=>hlt x (List.mem_append_right _ hx)) (fun x hx=>hs x (List.mem_append_right _ hx)),rfl⟩
  |[],_,h=>exact h.elim
  |_::_,[],h=>exact h.elim
theorem trodAll_len {W:World}{b:Nat}{sp:Nat->Bool}(ts:List TypeId):∀ (vs:List Value) (ds:List (DataW H)) (p:List MemPlace),DataW.TrodAll enc Tryz.prog W b sp true ts vs ds p->ds.length=ts.length:=by
 induction ts with
 |nil =>
  intro vs ds p h
  match vs,ds,h with
  |[],[],h=>rfl
  |_::_,_,h=>exact h.elim
  |[],_::_,h=>exact h.elim
 |cons t ts ih =>
  intro vs ds p h
  match vs,ds,h with
  |v::vs,d::ds,h =>
   obtain ⟨q,r,h1,h2,rfl⟩:=h
   simp only [List.length_cons]
   rw [ih vs ds r h2]
  |[],_,h=>exact h.elim
  |_::_,[],h=>exact h.elim
end
end Go.Proofs.YtjpknpjjcddnnaaGreat
namespace Go.Proofs.YtjpknpjjcddnnaaGreat
open Go.ChangeShapes Go.WideShapes Go.ChangeAt Go.RowKit
section
variable {H:Type} {enc:TypeId×Value->H}
set_option maxRecDepth 100000 in
theorem law_liftedU (F:Stop.Interp)(os:Os)(started:os.Started){f:FuncId}{fn:Func}{s:ChangeSpec}{fr:Bool}(hf:Tryz.prog.funcs[f]? = some fn)(hni:Tryz.prog.inits.idxOf? f=none)
  (hw:∃ (w:World) (tape:Tape) (i:Input),w.os=os/\(w.forCall tape i).Shaped Tryz.checked.prog/\i.vars=[]/\Input.okWide Tryz.checked.prog (w.forCall tape i) .any w.heap.size f i /\
    (Rows.OpenSpec.upto s).pre6 enc Tryz.checked.prog fn [] false (w.forCall tape i).memory i.args/\Assume.holds {} Tryz.checked.prog (lone (Frame.enter Tryz.checked.prog f i.args .normal) [] (w.forCall tape i)))
  (hvars:s.vars=[]) (hres:fn.resultTypes=#[4]) (hread:fn.params.toList.all (fun t=>Tryz.prog.readableRec t && decide (t<Tryz.prog.types.size))=true)
  (hspec:∀ ds:List (DataW H),ds.length=fn.params.size->s.fn H ds={ results:=[.lit (.bool true)],args:=ds })
  (hopen:∀ (W:World) (base:Nat) (args:Array Value) (ds:List (DataW H)) (p:List MemPlace),(∀ (j:Nat) t v,fn.params[j]? = some t->args[j]? = some v->Value.okWide Tryz.prog W .any base t v) ->
    DataW.TrodAll enc Tryz.prog W 0 (fun _=>true) true fn.params.toList args.toList ds p->Rows.uptoBulkAll ds<=1048576->∃ avs,Args W (fun _=>True) avs args/\Con E0 fr f avs (.bool true)) :
  ReturnsInHanded {} Tryz.checked os f .any ((Rows.OpenSpec.upto s).pre6 enc Tryz.prog fn [] false) (((Rows.OpenSpec.upto s).at F).post enc Tryz.prog fn false true false false):=by
 refine returnsInHanded_of_cond (C:=Tryz.checked) (s:=Rows.OpenSpec.upto s) (k:=Rows.uptoSmall) rfl own_knob started hni hf hw ?_
 intro W base args ds gs before hval hW hcnd hk _
 show Calls Tryz.checked.prog f args W fun e W'=>∃ v,e=.returned v/\s.post enc Tryz.prog fn false true false false W args v W'
 have hW':=hW
 obtain ⟨p,q,hA,hV,rfl,hfz,hnd⟩:=hW
 have hlt:∀ x∈p++q,x.block<W.heap.size:=fun x hx=>DataW.Whole.lt hW' x hx
 rw [show (Rows.OpenSpec.upto s).vars=s.vars from rfl,hvars] at hV
 obtain ⟨rfl,rfl⟩:=trodVars_none hV
 have hbk:Rows.uptoBulkAll ds<=1048576:=by
  have:=of_decide_eq_true hk
  rwa [List.append_nil] at this
 obtain ⟨avs,hargs,hcon⟩:=hopen W base args ds p hval hA hbk
 refine (hcon.2 (fun _=>True) W args hargs).mono fun e W' ⟨v,he,⟨hb,_⟩,hv⟩=>?_
 have hv:=hv.bool_inv
 subst hv
 subst he
 have hdl:ds.length=fn.params.size:=(trodAll_len _ _ _ _ hA).trans (by simp)
 have hsp:s.fn H (ds++[])={ results:=[.lit (.bool true)],args:=ds }:=by rw [List.append_nil];exact hspec ds hdl
 have hltp:∀ x∈p,x.block<W.heap.size:=fun x hx=>hlt x (by simp [hx])
 have k0:=y0z (sp':=fun b=>decide (b<W.heap.size)) hb _ _ _ _ hread hA hltp (fun x hx=>by simpa using hltp x hx)
 have k1:=y0z (sp':=fun _=>true) hb _ _ _ _ hread hA hltp (fun x hx=>rfl)
 have hrl:(Value.bool true).resultList fn.resultTypes.size=[.bool true]:=by rw [hres];rfl
 have hrt:fn.resultTypes.toList=[4]:=by rw [hres]
 refine ⟨_,rfl,ds,[],_,[],p,[],hW',?_,?_,?_,World.keptBut_mono (fun x hx=>⟨hx,?_⟩) (hb.frame (·∈p++[])),fun h=>?_⟩
 ·rw [hsp,hrt,hrl];exact trodAll_mk1 (shut_bool Tryz.underlying4 true)
 ·rw [hsp];exact k0
 ·rw [hsp,hvars];exact rfl
 ·exact Or.inr (Or.inl (by simpa using hx))
 ·rw [hrt,hrl,hvars]
  refine ⟨?_,[.lit (.bool true)]++ds,[],p,⟨p,[],?_,rfl,by simp,?_,fun h=>by simp at h⟩,?_⟩
  ·rw [hres];intro j t r ht hr
   match j with
   |0 =>
    obtain rfl:4=t:=Option.some.inj ht
    obtain rfl:Value.bool true=r:=Option.some.inj hr
    exact okWide_bool_mk Tryz.underlying4 true
   |j+1=>exact absurd hr (by simp)
  ·exact trodAll_append k1 (trodAll_mk1 (shut_bool Tryz.underlying4 true))
  ·intro b off hp
   have hin:MemPlace.cell b off∈p++[]:=by simpa using hp
   rw [hb.frozen (hlt _ hin)]
   exact hfz b off hin
  ·intro x hx _
   simpa using hx
end
end Go.Proofs.YtjpknpjjcddnnaaGreat
