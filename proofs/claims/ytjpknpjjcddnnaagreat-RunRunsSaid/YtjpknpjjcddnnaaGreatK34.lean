/- What some functions compute, over plain values. Printed by a program of mine (gen_fun.lean). Layer 25: the contract of the law RunRuns. From a contract of the abstract walk to a law's row: whatever the arguments, it returns true, and they read as they did. From a contract of the abstract walk to a law's row of the second form. Arguments opened: what any row needs. Arguments opened: cells of any struct, field by field. -/
import Derived.Test.YtjpknpjjcddnnaaGreatK33
import Derived.Test.YtjpknpjjcddnnaaGreatK27
import Derived.Test.YtjpknpjjcddnnaaGreatRows
import Derived.Test.YtjpknpjjcddnnaaGreatK17
import Derived.ProofKit
import Derived.Lib.SmallJoins
import Derived.Deep.Slices
import Derived.Carry
import Derived.Below
import Derived.OpenShut
import Derived.JoinedCond
set_option linter.unusedVariables false
set_option linter.unusedSimpArgs false
set_option maxRecDepth 100000
set_option maxHeartbeats 8000000
namespace Go.Proofs.YtjpknpjjcddnnaaGreat
open Go.RowKit
def zkx (a4:z01)(a3:z0j)(a2:z00)(a1:(List z01))(v2_2:Int×(List z0b)):AS:=⟨[(1,.sl 5 (a1.map z04)),(7,.ptr 7 0),(8,.ptr 8 0),(9,.ptr 9 0),(10,.ptr 10 0),(15,.ptr 15 0),(16,aI (v2_2.1))],[(7,.box 77 [aI (a2.fState),.sl 4 (a2.fBindings.map z0a),.sl 2 (a2.fStarts.map z08)]),(8,.box 51 [aI (a3.fFrom),aI (a3.fTo),aI (a3.fVar),aI (a3.fType),aI (a3.fCond.fOp),.sl 8 (a3.fCond.fArgs.map idA),aI (a3.fCond.fVar),aI (a3.fCond.fField),aI (a3.fCond.fKind),aI (a3.fCond.fValue.fKind),aI (a3.fCond.fValue.fNum),.str (a3.fCond.fValue.fText),.sl 1 (a3.fOpens.map aI),.sl 1 (a3.fCloses.map aI),.sl 8 (a3.fChecks.map idA),.sl 2 (a3.fLimits.map z0p),.sl 1 (a3.fInside.map aI)]),(9,.box 66 [aI (a4.fSource),aI (a4.fSeq),aI (a4.fType),aI (a4.fTime),.sl 3 (a4.fValues.map z07)]),(10,.box 77 [aI (0),.nils,.nils]),(15,.box 77 [aI (a3.fTo),.nils,.sl 2 (v2_2.2.map z08)])]⟩
theorem zkb {n a4 a3 a2 a1 k2_2_0}:z2d E0b 167 (z47 n a4 a3 a2 a1 k2_2_0) (zkx a4 a3 a2 a1):=LoopA.oT fun _=>rfl
def zl0 (a4:z01)(a3:z0j)(a2:z00)(a1:(List z01))(w3_1:Bool):AS:=⟨[(1,.sl 5 (a1.map z04)),(7,.ptr 7 0),(8,.ptr 8 0),(9,.ptr 9 0),(10,.ptr 10 0),(70,.bool (w3_1))],[(7,.box 77 [aI (a2.fState),.sl 4 (a2.fBindings.map z0a),.sl 2 (a2.fStarts.map z08)]),(8,.box 51 [aI (a3.fFrom),aI (a3.fTo),aI (a3.fVar),aI (a3.fType),aI (a3.fCond.fOp),.sl 8 (a3.fCond.fArgs.map idA),aI (a3.fCond.fVar),aI (a3.fCond.fField),aI (a3.fCond.fKind),aI (a3.fCond.fValue.fKind),aI (a3.fCond.fValue.fNum),.str (a3.fCond.fValue.fText),.sl 1 (a3.fOpens.map aI),.sl 1 (a3.fCloses.map aI),.sl 8 (a3.fChecks.map idA),.sl 2 (a3.fLimits.map z0p),.sl 1 (a3.fInside.map aI)]),(9,.box 66 [aI (a4.fSource),aI (a4.fSeq),aI (a4.fType),aI (a4.fTime),.sl 3 (a4.fValues.map z07)]),(10,.box 77 [aI (0),.nils,.nils])]⟩
theorem zke {n a4 a3 a2 a1}:z5l E0b 167 (z11 n a4 a3 a2 a1) (zl0 a4 a3 a2 a1):=AW.jT
def zkz (a4:z01)(a3:z0j)(a2:z00)(a1:(List z01))(x1:z0h)(x2:za1)(v1_0:Int)(cv1_0:Int->Option (z00×Bool))(w4_6:Bool):AS:=⟨[(1,.sl 5 (a1.map z04)),(7,.ptr 7 0),(8,.ptr 8 0),(9,.ptr 9 0),(10,.ptr 10 0),(12,.ptr 12 0),(13,.sl 11 (x2.fGuards.map z0r)),(14,aI (v1_0)),(54,.bool (w4_6))],[(7,.box 77 [aI (a2.fState),.sl 4 (a2.fBindings.map z0a),.sl 2 (a2.fStarts.map z08)]),(8,.box 51 [aI (a3.fFrom),aI (a3.fTo),aI (a3.fVar),aI (a3.fType),aI (a3.fCond.fOp),.sl 8 (a3.fCond.fArgs.map idA),aI (a3.fCond.fVar),aI (a3.fCond.fField),aI (a3.fCond.fKind),aI (a3.fCond.fValue.fKind),aI (a3.fCond.fValue.fNum),.str (a3.fCond.fValue.fText),.sl 1 (a3.fOpens.map aI),.sl 1 (a3.fCloses.map aI),.sl 8 (a3.fChecks.map idA),.sl 2 (a3.fLimits.map z0p),.sl 1 (a3.fInside.map aI)]),(9,.box 66 [aI (a4.fSource),aI (a4.fSeq),aI (a4.fType),aI (a4.fTime),.sl 3 (a4.fValues.map z07)]),(10,.box 77 [aI (0),.nils,.nils]),(12,.box 167 [.sl 1 (List.map (fun q=>AV.sl 5 (List.map z04 q)) (x1.fVars))])]⟩
theorem zkd {n a4 a3 a2 a1 x1 x2 v1_0 cv1_0}:z5l E0b 167 (z2i n a4 a3 a2 a1 x1 x2 v1_0 cv1_0) (zkz a4 a3 a2 a1 x1 x2 v1_0 cv1_0):=AW.jT
def zky (a4:z01)(a3:z0j)(a2:z00)(a1:(List z01))(x1:z0h)(x2:za1)(v1_0:Int):AS:=⟨[(1,.sl 5 (a1.map z04)),(7,.ptr 7 0),(8,.ptr 8 0),(9,.ptr 9 0),(10,.ptr 10 0),(12,.ptr 12 0),(13,.sl 11 (x2.fGuards.map z0r)),(14,aI (v1_0))],[(7,.box 77 [aI (a2.fState),.sl 4 (a2.fBindings.map z0a),.sl 2 (a2.fStarts.map z08)]),(8,.box 51 [aI (a3.fFrom),aI (a3.fTo),aI (a3.fVar),aI (a3.fType),aI (a3.fCond.fOp),.sl 8 (a3.fCond.fArgs.map idA),aI (a3.fCond.fVar),aI (a3.fCond.fField),aI (a3.fCond.fKind),aI (a3.fCond.fValue.fKind),aI (a3.fCond.fValue.fNum),.str (a3.fCond.fValue.fText),.sl 1 (a3.fOpens.map aI),.sl 1 (a3.fCloses.map aI),.sl 8 (a3.fChecks.map idA),.sl 2 (a3.fLimits.map z0p),.sl 1 (a3.fInside.map aI)]),(9,.box 66 [aI (a4.fSource),aI (a4.fSeq),aI (a4.fType),aI (a4.fTime),.sl 3 (a4.fValues.map z07)]),(10,.box 77 [aI (0),.nils,.nils]),(12,.box 167 [.sl 1 (List.map (fun q=>AV.sl 5 (List.map z04 q)) (x1.fVars))])]⟩
theorem zkc {n a4 a3 a2 a1 x1 x2 k1_0_0}:z2d E0b 167 (z1v n a4 a3 a2 a1 x1 x2 k1_0_0) (zky a4 a3 a2 a1 x1 x2):=LoopA.oT fun _=>rfl
def zfm (r:z00×Bool):AV:=.tup [.agg [aI (r.1.fState),.sl 4 (r.1.fBindings.map z0a),.sl 2 (r.1.fStarts.map z08)],.bool (r.2)]
theorem zmc {n a0 a1 a2 a3 a4 r}(hF:z4d n a0 a1 a2 a3 a4=some r):Con E0 false 122 [.agg [aI (a0.fVars),aI (a0.fScopes),.sl 1 (a0.fStates.map z0c),.sl 17 (a0.fEdges.map z0d)],.sl 5 (a1.map z04),.agg [aI (a2.fState),.sl 4 (a2.fBindings.map z0a),.sl 2 (a2.fStarts.map z08)],.agg [aI (a3.fFrom),aI (a3.fTo),aI (a3.fVar),aI (a3.fType),aI (a3.fCond.fOp),.sl 8 (a3.fCond.fArgs.map idA),aI (a3.fCond.fVar),aI (a3.fCond.fField),aI (a3.fCond.fKind),aI (a3.fCond.fValue.fKind),aI (a3.fCond.fValue.fNum),.str (a3.fCond.fValue.fText),.sl 1 (a3.fOpens.map aI),.sl 1 (a3.fCloses.map aI),.sl 8 (a3.fChecks.map idA),.sl 2 (a3.fLimits.map z0p),.sl 1 (a3.fInside.map aI)],.agg [aI (a4.fSource),aI (a4.fSeq),aI (a4.fType),aI (a4.fTime),.sl 3 (a4.fValues.map z07)]] (zfm r):=by
 unfold z4d at hF
 refine Con.env (E:=E0b) rfl rfl ?_
 refine Con.walk _ Tryz.func122 rfl (z06 Tryz.func122 rfl rfl) rfl (Or.inl rfl) ?_
 repeat' first
  |refine zke hF (fun hF=>?_) (fun v hF=>?_);rotate_left;unfold z11 at hF
  |refine zkd hF (fun hF=>?_) (fun v hF=>?_);rotate_left;unfold z2i at hF
  |refine AW.regO hF (fun hF=>?_)
  |refine AW.frzO hF 125 rfl (fun hF=>?_)
  |refine AW.stepU [21,6,8] ?_;conv=>whnf
  |refine z0v.o hF (fun hF=>?_) (fun hF=>?_)
  |refine z0m.o hF zcs (fun a h=>Con.env rfl rfl (zdk h)) (fun a hF=>?_)
  |refine IdxX.o z0c hF (fun x hF=>?_)
  |refine AppX.o0 z0a hF (by first|exact SubR.refl _|(repeat' first|exact SubR.nil|refine SubR.cons ?_ ?_|exact SubL.nil|refine SubL.cons ?_ ?_|exact Sub.refl _|exact Sub.nil _)) (fun l hF=>?_)
  |refine z0m.o hF za2 (fun a h=>Con.env rfl rfl (zas h)) (fun a hF=>?_)
  |refine OpX.bldS z0a hF rfl rfl rfl rfl rfl rfl rfl rfl rfl rfl rfl rfl rfl rfl (fun l hF=>?_)
  |refine AppX.o z0a hF (by first|exact SubR.refl _|(repeat' first|exact SubR.nil|refine SubR.cons ?_ ?_|exact SubL.nil|refine SubL.cons ?_ ?_|exact Sub.refl _|exact Sub.nil _)) (fun l hF=>?_)
  |refine OpX.bldR z04 hF rfl rfl rfl rfl rfl rfl rfl rfl rfl rfl rfl rfl rfl rfl rfl rfl (by first|exact SubR.refl _|(repeat' first|exact SubR.nil|refine SubR.cons ?_ ?_|exact SubL.nil|refine SubL.cons ?_ ?_|exact Sub.refl _|exact Sub.nil _)) rfl (fun l hF=>?_)
  |refine AppX.o z04 hF (by first|exact SubR.refl _|(repeat' first|exact SubR.nil|refine SubR.cons ?_ ?_|exact SubL.nil|refine SubL.cons ?_ ?_|exact Sub.refl _|exact Sub.nil _)) (fun l hF=>?_)
  |refine zcc.oE hF 130 zcs rfl (fun a h=>Con.env rfl rfl (zdk h)) rfl rfl (fun a hF=>?_)
  |refine IdxX.o aI hF (fun x hF=>?_)
  |refine z0m.o hF zd9 (fun a h=>Con.env rfl rfl (zf0 h)) (fun a hF=>?_)
  |exact ⟨_,hF,LeX.a []⟩
  |refine zk8 hF (LeX.a []) (fun m v hF=>?_);unfold z42 at hF
  |refine IdxX.oD hF z6b (fun x hF=>?_)
  |refine z0m.o hF zav (fun a h=>Con.env rfl rfl (zcl h)) (fun a hF=>?_)
  |refine z0m.o hF zav (fun a h=>Con.sub (by repeat' first|exact Sub.nil _|exact Sub.refl _|refine Sub.agg ?_|refine Sub.tup ?_|refine Sub.fn ?_|exact SubL.nil|refine SubL.cons ?_ ?_|refine Sub.sl _ ?_|exact SubE.nil|refine SubE.cons ?_ ?_) (Con.env rfl rfl (zcl h))) (fun a hF=>?_)
  |exact ⟨_,hF,LeX.a []⟩
  |refine zk9 hF (LeX.a []) (fun m v hF=>?_);unfold z43 at hF
  |refine IdxX.o z0p hF (fun x hF=>?_)
  |refine z0m.o hF zhs (fun a h=>Con.env rfl rfl (zt5 h)) (fun a hF=>?_)
  |exact ⟨_,hF,LeX.a []⟩
  |refine zka hF (LeX.a []) (fun m v hF=>?_);unfold z44 at hF
  |refine z0m.o hF zg5 (fun a h=>Con.env rfl rfl (zob h)) (fun a hF=>?_)
  |refine zkb hF (LeX.a []) (fun m v hF=>?_);unfold z47 at hF
  |exact ⟨_,hF,LeX.a []⟩
  |exact ⟨_,hF,LeX.a []⟩
  |refine IdxX.o z0r hF (fun x hF=>?_)
  |refine z0m.o hF zjj (fun a h=>Con.env rfl rfl (zut h)) (fun a hF=>?_)
  |refine z0m.o hF zc0 (fun a h=>Con.env rfl rfl (zec h)) (fun a hF=>?_)
  |exact ⟨_,hF,LeX.a []⟩
  |refine zkc hF (LeX.a []) (fun m v hF=>?_);unfold z1v at hF
  |refine And.intro ⟨by kernel_rfl,by kernel_rfl⟩ ?_
  |exact RetX.oA hF
def zu2 (a1:z03)(a0:(List z03))(k1_0_0y:Int)(w3_1:Bool):AS:=⟨[(0,.sl 1 (a0.map z0f)),(3,.ptr 3 0),(5,aI (k1_0_0y)),(34,.bool (w3_1))],[(3,.box 83 [.sl 4 (a1.fBindings.map z0a)])]⟩
theorem zsu {n a1 a0 k1_0_0y}:z5l E0 49 (z5d n a1 a0 k1_0_0y) (zu2 a1 a0 k1_0_0y):=AW.jT
def zu1 (a1:z03)(a0:(List z03))(v1_0:Int)(k1_0_0:Int->Option ((List z03)))(cv1_0:Int->Option ((List z03)))(w4_2:Bool):AS:=⟨[(0,.sl 1 (a0.map z0f)),(3,.ptr 3 0),(5,aI (v1_0)),(19,.bool (w4_2))],[(3,.box 83 [.sl 4 (a1.fBindings.map z0a)])]⟩
theorem zst {n a1 a0 v1_0 k1_0_0 cv1_0}:z5l E0 49 (z5c n a1 a0 v1_0 k1_0_0 cv1_0) (zu1 a1 a0 v1_0 k1_0_0 cv1_0):=AW.jT
def zu0 (a1:z03)(a0:(List z03))(v1_0:Int):AS:=⟨[(0,.sl 1 (a0.map z0f)),(3,.ptr 3 0),(5,aI (v1_0))],[(3,.box 83 [.sl 4 (a1.fBindings.map z0a)])]⟩
theorem zss {n a1 a0 k1_0_0}:z2d E0 49 (z3g n a1 a0 k1_0_0) (zu0 a1 a0):=LoopA.oT fun _=>rfl
def zcu (r:(List z03)):AV:=.sl 1 (r.map z0f)
theorem zdl {n a0 a1 r}(hF:z7f n a0 a1=some r):Con E0 false 63 [.sl 1 (a0.map z0f),.agg [.sl 4 (a1.fBindings.map z0a)]] (zcu r):=by
 unfold z7f at hF
 refine Con.walk _ Tryz.func63 rfl (z06 Tryz.func63 rfl rfl) rfl (Or.inl rfl) ?_
 repeat' first
  |refine zsu hF (fun hF=>?_) (fun v hF=>?_);rotate_left;unfold z5d at hF
  |refine zst hF (fun hF=>?_) (fun v hF=>?_);rotate_left;unfold z5c at hF
  |refine AW.regO hF (fun hF=>?_)
  |refine AW.stepU [2,4] ?_;conv=>whnf
  |refine z0v.o hF (fun hF=>?_) (fun hF=>?_)
  |refine SlsX.o z0f hF (fun l hF=>?_)
  |refine AppX.o0 z0f hF (by first|exact SubR.refl _|(repeat' first|exact SubR.nil|refine SubR.cons ?_ ?_|exact SubL.nil|refine SubL.cons ?_ ?_|exact Sub.refl _|exact Sub.nil _)) (fun l hF=>?_)
  |refine AppX.o z0f hF (by first|exact SubR.refl _|(repeat' first|exact SubR.nil|refine SubR.cons ?_ ?_|exact SubL.nil|refine SubL.cons ?_ ?_|exact Sub.refl _|exact Sub.nil _)) (fun l hF=>?_)
  |refine IdxX.o z0f hF (fun x hF=>?_)
  |refine z0m.o hF z9m (fun a h=>zbl h) (fun a hF=>?_)
  |exact ⟨_,hF,LeX.a []⟩
  |exact ⟨_,hF,LeX.a []⟩
  |refine zss hF (LeX.a []) (fun m v hF=>?_);unfold z3g at hF
  |refine And.intro ⟨by kernel_rfl,by kernel_rfl⟩ ?_
  |exact RetX.oA hF
def ztp (a3:z01)(a2:z00)(a1:(List z01))(a0:z05)(x4:(List z0j))(v1_1:(List z00)×(List z03)×Int):AS:=⟨[(1,.sl 5 (a1.map z04)),(4,.ptr 4 0),(6,.ptr 6 0),(7,.ptr 7 0),(10,.sl 3 (v1_1.1.map z0e)),(11,.sl 1 (v1_1.2.1.map z0f)),(12,.sl 17 (x4.map z0d)),(13,aI (v1_1.2.2))],[(4,.box 25 [aI (a0.fVars),aI (a0.fScopes),.sl 1 (a0.fStates.map z0c),.sl 17 (a0.fEdges.map z0d)]),(6,.box 77 [aI (a2.fState),.sl 4 (a2.fBindings.map z0a),.sl 2 (a2.fStarts.map z08)]),(7,.box 66 [aI (a3.fSource),aI (a3.fSeq),aI (a3.fType),aI (a3.fTime),.sl 3 (a3.fValues.map z07)])]⟩
theorem zsh {n a3 a2 a1 a0 x4 k1_1_0}:z2d E0 61 (z3d n a3 a2 a1 a0 x4 k1_1_0) (ztp a3 a2 a1 a0 x4):=LoopA.oT fun _=>rfl
def ztq (a3:z01)(a2:z00)(a1:(List z01))(a0:z05)(w1_0:(List z00)):AS:=⟨[(1,.sl 5 (a1.map z04)),(4,.ptr 4 0),(6,.ptr 6 0),(7,.ptr 7 0),(10,.sl 3 (w1_0.map z0e)),(11,.nils)],[(4,.box 25 [aI (a0.fVars),aI (a0.fScopes),.sl 1 (a0.fStates.map z0c),.sl 17 (a0.fEdges.map z0d)]),(6,.box 77 [aI (a2.fState),.sl 4 (a2.fBindings.map z0a),.sl 2 (a2.fStarts.map z08)]),(7,.box 66 [aI (a3.fSource),aI (a3.fSeq),aI (a3.fType),aI (a3.fTime),.sl 3 (a3.fValues.map z07)])]⟩
theorem zsi {n a3 a2 a1 a0}:zi5 E0 61 (z59 n a3 a2 a1 a0) (ztq a3 a2 a1 a0):=AW.jT2
def zjl (r:(List z00)×(List z03)):AV:=.tup [.sl 3 (r.1.map z0e),.sl 1 (r.2.map z0f)]
theorem zuv {n a0 a1 a2 a3 r}(hF:za5 n a0 a1 a2 a3=some r):Con E0 false 99 [.agg [aI (a0.fVars),aI (a0.fScopes),.sl 1 (a0.fStates.map z0c),.sl 17 (a0.fEdges.map z0d)],.sl 5 (a1.map z04),.agg [aI (a2.fState),.sl 4 (a2.fBindings.map z0a),.sl 2 (a2.fStarts.map z08)],.agg [aI (a3.fSource),aI (a3.fSeq),aI (a3.fType),aI (a3.fTime),.sl 3 (a3.fValues.map z07)]] (zjl r):=by
 unfold za5 at hF
 refine Con.walk _ Tryz.func99 rfl (z06 Tryz.func99 rfl rfl) rfl (Or.inl rfl) ?_
 repeat' first
  |refine zsi hF (fun hF=>?_) (fun v hF=>?_);rotate_left;unfold z59 at hF
  |refine AW.regO hF (fun hF=>?_)
  |refine AW.stepU [3,11] ?_;conv=>whnf
  |refine z0v.o hF (fun hF=>?_) (fun hF=>?_)
  |refine z0m.o hF zhv (fun a h=>zt8 h) (fun a hF=>?_)
  |refine IdxX.o z0d hF (fun x hF=>?_)
  |refine z0m.o hF zfm (fun a h=>zmc h) (fun a hF=>?_)
  |exact ⟨_,hF,LeX.a []⟩
  |refine z0m.o hF zcu (fun a h=>zdl h) (fun a hF=>?_)
  |refine z0m.o hF zcr (fun a h=>zdj h) (fun a hF=>?_)
  |refine zsh hF (LeX.trans (LeX.put 11 _ (by repeat' first|exact Sub.nil _|exact Sub.refl _|refine Sub.agg ?_|refine Sub.tup ?_|refine Sub.fn ?_|exact SubL.nil|refine SubL.cons ?_ ?_|refine Sub.sl _ ?_|exact SubE.nil|refine SubE.cons ?_ ?_)) (LeX.of [] rfl ⟨⟨rfl,rfl⟩,⟨rfl,rfl⟩,⟨rfl,rfl⟩,⟨rfl,rfl⟩,⟨rfl,rfl⟩,⟨rfl,rfl⟩,⟨rfl,rfl⟩,⟨rfl,rfl⟩,trivial⟩ ⟨⟨rfl,rfl⟩,⟨rfl,rfl⟩,⟨rfl,rfl⟩,trivial⟩)) (fun m v hF=>?_);unfold z3d at hF
  |refine z0m.o hF zh3 (fun a h=>zqq h) (fun a hF=>?_)
  |refine z0m.o hF zcr (fun a h=>Con.sub (by repeat' first|exact Sub.nil _|exact Sub.refl _|refine Sub.agg ?_|refine Sub.tup ?_|refine Sub.fn ?_|exact SubL.nil|refine SubL.cons ?_ ?_|refine Sub.sl _ ?_|exact SubE.nil|refine SubE.cons ?_ ?_) (zdj h)) (fun a hF=>?_)
  |exact ⟨_,hF,LeX.a []⟩
  |exact ⟨_,hF,LeX.trans (LeX.put 10 _ (by repeat' first|exact Sub.nil _|exact Sub.refl _|refine Sub.agg ?_|refine Sub.tup ?_|refine Sub.fn ?_|exact SubL.nil|refine SubL.cons ?_ ?_|refine Sub.sl _ ?_|exact SubE.nil|refine SubE.cons ?_ ?_)) (LeX.of [] rfl ⟨⟨rfl,rfl⟩,⟨rfl,rfl⟩,⟨rfl,rfl⟩,⟨rfl,rfl⟩,⟨rfl,rfl⟩,⟨rfl,rfl⟩,trivial⟩ ⟨⟨rfl,rfl⟩,⟨rfl,rfl⟩,⟨rfl,rfl⟩,trivial⟩)⟩
  |refine And.intro ⟨by kernel_rfl,by kernel_rfl⟩ ?_
  |exact RetX.oA hF
def ztr (a3:z01)(a2:(List z00))(a1:(List z01))(a0:z05)(v1_0:(List z00)×(List z03)×Int)(k2_1_0y0:(List z00))(k2_1_0y1:(List z03))(v3_2:(List z03)×Int):AS:=⟨[(1,.sl 5 (a1.map z04)),(2,.sl 3 (a2.map z0e)),(4,.ptr 4 0),(7,.ptr 7 0),(10,.sl 3 (k2_1_0y0.map z0e)),(11,.sl 1 (v3_2.1.map z0f)),(12,aI (v1_0.2.2)),(14,.sl 1 (k2_1_0y1.map z0f)),(16,aI (v3_2.2))],[(4,.box 25 [aI (a0.fVars),aI (a0.fScopes),.sl 1 (a0.fStates.map z0c),.sl 17 (a0.fEdges.map z0d)]),(7,.box 66 [aI (a3.fSource),aI (a3.fSeq),aI (a3.fType),aI (a3.fTime),.sl 3 (a3.fValues.map z07)])]⟩
theorem zsj {n a3 a2 a1 a0 v1_0 k2_1_0y0 k2_1_0y1 k3_2_0}:z2d E0 60 (z6v n a3 a2 a1 a0 v1_0 k2_1_0y0 k2_1_0y1 k3_2_0) (ztr a3 a2 a1 a0 v1_0 k2_1_0y0 k2_1_0y1):=LoopA.oT fun _=>rfl
def zts (a3:z01)(a2:(List z00))(a1:(List z01))(a0:z05)(v1_0:(List z00)×(List z03)×Int)(x44:(List z00)×(List z03))(v2_1:(List z00)×Int):AS:=⟨[(1,.sl 5 (a1.map z04)),(2,.sl 3 (a2.map z0e)),(4,.ptr 4 0),(7,.ptr 7 0),(10,.sl 3 (v2_1.1.map z0e)),(11,.sl 1 (v1_0.2.1.map z0f)),(12,aI (v1_0.2.2)),(13,.sl 3 (x44.1.map z0e)),(14,.sl 1 (x44.2.map z0f)),(15,aI (v2_1.2))],[(4,.box 25 [aI (a0.fVars),aI (a0.fScopes),.sl 1 (a0.fStates.map z0c),.sl 17 (a0.fEdges.map z0d)]),(7,.box 66 [aI (a3.fSource),aI (a3.fSeq),aI (a3.fType),aI (a3.fTime),.sl 3 (a3.fValues.map z07)])]⟩
theorem zsk {n a3 a2 a1 a0 v1_0 x44 k2_1_0}:z2d E0 60 (z6w n a3 a2 a1 a0 v1_0 x44 k2_1_0) (zts a3 a2 a1 a0 v1_0 x44):=LoopA.oT fun _=>rfl
def ztt (a3:z01)(a2:(List z00))(a1:(List z01))(a0:z05)(v1_0:(List z00)×(List z03)×Int):AS:=⟨[(1,.sl 5 (a1.map z04)),(2,.sl 3 (a2.map z0e)),(4,.ptr 4 0),(7,.ptr 7 0),(10,.sl 3 (v1_0.1.map z0e)),(11,.sl 1 (v1_0.2.1.map z0f)),(12,aI (v1_0.2.2))],[(4,.box 25 [aI (a0.fVars),aI (a0.fScopes),.sl 1 (a0.fStates.map z0c),.sl 17 (a0.fEdges.map z0d)]),(7,.box 66 [aI (a3.fSource),aI (a3.fSeq),aI (a3.fType),aI (a3.fTime),.sl 3 (a3.fValues.map z07)])]⟩
theorem zsl {n a3 a2 a1 a0 k1_0_0}:z2d E0 60 (z6x n a3 a2 a1 a0 k1_0_0) (ztt a3 a2 a1 a0):=LoopA.oT fun _=>rfl
def zjm (r:(List z00)×(List z03)):AV:=.tup [.sl 3 (r.1.map z0e),.sl 1 (r.2.map z0f)]
theorem zuw {n a0 a1 a2 a3 r}(hF:za6 n a0 a1 a2 a3=some r):Con E0 false 68 [.agg [aI (a0.fVars),aI (a0.fScopes),.sl 1 (a0.fStates.map z0c),.sl 17 (a0.fEdges.map z0d)],.sl 5 (a1.map z04),.sl 3 (a2.map z0e),.agg [aI (a3.fSource),aI (a3.fSeq),aI (a3.fType),aI (a3.fTime),.sl 3 (a3.fValues.map z07)]] (zjm r):=by
 unfold za6 at hF
 refine Con.walk _ Tryz.func68 rfl (z06 Tryz.func68 rfl rfl) rfl (Or.inl rfl) ?_
 repeat' first
  |refine AW.step ?_;conv=>whnf
  |refine z0v.o hF (fun hF=>?_) (fun hF=>?_)
  |refine IdxX.o z0e hF (fun x hF=>?_)
  |refine z0m.o hF zjl (fun a h=>zuv h) (fun a hF=>?_)
  |exact ⟨_,hF,LeX.a []⟩
  |refine IdxX.o z0f hF (fun x hF=>?_)
  |refine z0m.o hF zcu (fun a h=>zdl h) (fun a hF=>?_)
  |exact ⟨_,hF,LeX.a []⟩
  |refine zsj hF (LeX.a []) (fun m v hF=>?_);unfold z6v at hF
  |refine z0m.o hF zcr (fun a h=>zdj h) (fun a hF=>?_)
  |exact ⟨_,hF,LeX.a []⟩
  |refine zsk hF (LeX.a []) (fun m v hF=>?_);unfold z6w at hF
  |refine zsl hF (LeX.trans (LeX.put 10 _ (by repeat' first|exact Sub.nil _|exact Sub.refl _|refine Sub.agg ?_|refine Sub.tup ?_|refine Sub.fn ?_|exact SubL.nil|refine SubL.cons ?_ ?_|refine Sub.sl _ ?_|exact SubE.nil|refine SubE.cons ?_ ?_)) (LeX.trans (LeX.put 11 _ (by repeat' first|exact Sub.nil _|exact Sub.refl _|refine Sub.agg ?_|refine Sub.tup ?_|refine Sub.fn ?_|exact SubL.nil|refine SubL.cons ?_ ?_|refine Sub.sl _ ?_|exact SubE.nil|refine SubE.cons ?_ ?_)) (LeX.of [] rfl ⟨⟨rfl,rfl⟩,⟨rfl,rfl⟩,⟨rfl,rfl⟩,⟨rfl,rfl⟩,⟨rfl,rfl⟩,⟨rfl,rfl⟩,⟨rfl,rfl⟩,trivial⟩ ⟨⟨rfl,rfl⟩,⟨rfl,rfl⟩,trivial⟩))) (fun m v hF=>?_);unfold z6x at hF
  |refine And.intro ⟨by kernel_rfl,by kernel_rfl⟩ ?_
  |exact RetX.oA hF
end Go.Proofs.YtjpknpjjcddnnaaGreat
namespace Go.Proofs.YtjpknpjjcddnnaaGreat
open Go.RowKit
def zmu (a2:Int)(a1:(List z01))(a0:z05)(v1_0:(List z00)×(List z03)×Int)(cv1_0:((List z00)×(List z03)×Int)->Option ((List z00)×(List z03)×Bool))(k2_1_0y0:(List z03))(k2_1_0y1:(List z00))(w3_2:Bool):AS:=⟨[(1,.sl 5 (a1.map z04)),(2,aI (a2)),(3,.ptr 3 0),(10,.sl 1 (k2_1_0y0.map z0f)),(11,aI (v1_0.2.2)),(12,.sl 3 (k2_1_0y1.map z0e)),(55,.bool (w3_2))],[(3,.box 25 [aI (a0.fVars),aI (a0.fScopes),.sl 1 (a0.fStates.map z0c),.sl 17 (a0.fEdges.map z0d)])]⟩
theorem zly {n a2 a1 a0 v1_0 cv1_0 k2_1_0y0 k2_1_0y1}:z5l E0 59 (z31 n a2 a1 a0 v1_0 cv1_0 k2_1_0y0 k2_1_0y1) (zmu a2 a1 a0 v1_0 cv1_0 k2_1_0y0 k2_1_0y1):=AW.jT
def zms (a2:Int)(a1:(List z01))(a0:z05)(v1_0:(List z00)×(List z03)×Int)(x45:(List z00)×(List z03))(v2_1:(List z03)×Int):AS:=⟨[(1,.sl 5 (a1.map z04)),(2,aI (a2)),(3,.ptr 3 0),(10,.sl 1 (v2_1.1.map z0f)),(11,aI (v1_0.2.2)),(12,.sl 3 (x45.1.map z0e)),(13,.sl 1 (x45.2.map z0f)),(14,aI (v2_1.2))],[(3,.box 25 [aI (a0.fVars),aI (a0.fScopes),.sl 1 (a0.fStates.map z0c),.sl 17 (a0.fEdges.map z0d)])]⟩
theorem zlw {n a2 a1 a0 v1_0 x45 k2_1_0}:z2d E0 59 (z4r n a2 a1 a0 v1_0 x45 k2_1_0) (zms a2 a1 a0 v1_0 x45):=LoopA.oT fun _=>rfl
def zmt (a2:Int)(a1:(List z01))(a0:z05)(v1_0:(List z00)×(List z03)×Int):AS:=⟨[(1,.sl 5 (a1.map z04)),(2,aI (a2)),(3,.ptr 3 0),(9,.sl 3 (v1_0.1.map z0e)),(10,.sl 1 (v1_0.2.1.map z0f)),(11,aI (v1_0.2.2))],[(3,.box 25 [aI (a0.fVars),aI (a0.fScopes),.sl 1 (a0.fStates.map z0c),.sl 17 (a0.fEdges.map z0d)])]⟩
theorem zlx {n a2 a1 a0 k1_0_0}:z2d E0 59 (z27 n a2 a1 a0 k1_0_0) (zmt a2 a1 a0):=LoopA.oT fun _=>rfl
def zda (r:(List z00)×(List z03)×Bool):AV:=.tup [.sl 3 (r.1.map z0e),.sl 1 (r.2.1.map z0f),.bool (r.2.2)]
theorem zf1 {n a0 a1 a2 r}(hF:z6u n a0 a1 a2=some r):Con E0 false 35 [.agg [aI (a0.fVars),aI (a0.fScopes),.sl 1 (a0.fStates.map z0c),.sl 17 (a0.fEdges.map z0d)],.sl 5 (a1.map z04),aI (a2)] (zda r):=by
 unfold z6u at hF
 refine Con.walk _ Tryz.func35 rfl (z06 Tryz.func35 rfl rfl) rfl (Or.inl rfl) ?_
 repeat' first
  |refine zly hF (fun hF=>?_) (fun v hF=>?_);rotate_left;unfold z31 at hF
  |refine AW.regO hF (fun hF=>?_)
  |refine AW.stepU [11] ?_;conv=>whnf
  |refine z0v.o hF (fun hF=>?_) (fun hF=>?_)
  |refine z0m.o hF zh4 (fun a h=>zqr h) (fun a hF=>?_)
  |refine IdxX.o z04 hF (fun x hF=>?_)
  |refine z0m.o hF zjm (fun a h=>zuw h) (fun a hF=>?_)
  |exact ⟨_,hF,LeX.a []⟩
  |exact ⟨_,hF,LeX.a []⟩
  |refine IdxX.o z0f hF (fun x hF=>?_)
  |refine z0m.o hF zcu (fun a h=>zdl h) (fun a hF=>?_)
  |exact ⟨_,hF,LeX.a []⟩
  |refine zlw hF (LeX.a []) (fun m v hF=>?_);unfold z4r at hF
  |refine zlx hF (LeX.trans (LeX.put 10 _ (by repeat' first|exact Sub.nil _|exact Sub.refl _|refine Sub.agg ?_|refine Sub.tup ?_|refine Sub.fn ?_|exact SubL.nil|refine SubL.cons ?_ ?_|refine Sub.sl _ ?_|exact SubE.nil|refine SubE.cons ?_ ?_)) (LeX.of [] rfl ⟨⟨rfl,rfl⟩,⟨rfl,rfl⟩,⟨rfl,rfl⟩,⟨rfl,rfl⟩,⟨rfl,rfl⟩,⟨rfl,rfl⟩,trivial⟩ ⟨⟨rfl,rfl⟩,trivial⟩)) (fun m v hF=>?_);unfold z27 at hF
  |refine And.intro ⟨by kernel_rfl,by kernel_rfl⟩ ?_
  |exact RetX.oA hF
def zoo (a1:(List z01))(a0:z05)(w1_0:Bool):AS:=⟨[(1,.sl 5 (a1.map z04)),(2,.ptr 2 0),(15,.bool (w1_0))],[(2,.box 25 [aI (a0.fVars),aI (a0.fScopes),.sl 1 (a0.fStates.map z0c),.sl 17 (a0.fEdges.map z0d)])]⟩
theorem zn9 {n a1 a0}:z5l E0 28 (z3m n a1 a0) (zoo a1 a0):=AW.jT
def zh2 (r:Bool):AV:=.bool (r)
theorem zqp {n a0 a1 r}(hF:z8w n a0 a1=some r):Con E0 true 7 [.agg [aI (a0.fVars),aI (a0.fScopes),.sl 1 (a0.fStates.map z0c),.sl 17 (a0.fEdges.map z0d)],.sl 5 (a1.map z04)] (zh2 r):=by
 unfold z8w at hF
 refine Con.walk _ Tryz.func7 rfl (z06 Tryz.func7 rfl rfl) rfl (Or.inr rfl) ?_
 repeat' first
  |refine zn9 hF (fun hF=>?_) (fun v hF=>?_);rotate_left;unfold z3m at hF
  |refine AW.regO hF (fun hF=>?_)
  |refine AW.stepU [1] ?_;conv=>whnf
  |refine z0v.o hF (fun hF=>?_) (fun hF=>?_)
  |refine z0m.o hF zeh (fun a h=>zg2 h) (fun a hF=>?_)
  |refine z0m.o hF zda (fun a h=>zf1 h) (fun a hF=>?_)
  |refine z0m.o hF zjo (fun a h=>zuy h) (fun a hF=>?_)
  |exact ⟨_,hF,LeX.a []⟩
  |refine z0m.o hF zjq (fun a h=>zv0 h) (fun a hF=>?_)
  |exact RetX.oA hF
def zjk (r:(List z00)×(List z03)×Int):AV:=.tup [.sl 3 (r.1.map z0e),.sl 1 (r.2.1.map z0f),aI (r.2.2)]
theorem zuu {n a0 a1 r}(hF:z7c n a0 a1=some r):Con E0 false 10 [.agg [aI (a0.fVars),aI (a0.fScopes),.sl 1 (a0.fStates.map z0c),.sl 17 (a0.fEdges.map z0d)],.sl 5 (a1.map z04)] (zjk r):=by
 unfold z7c at hF
 refine Con.walk _ Tryz.func10 rfl (z06 Tryz.func10 rfl rfl) rfl (Or.inl rfl) ?_
 repeat' first
  |refine AW.step ?_;conv=>whnf
  |refine z0v.o hF (fun hF=>?_) (fun hF=>?_)
  |refine z0m.o hF zeh (fun a h=>zg2 h) (fun a hF=>?_)
  |refine z0m.o hF zda (fun a h=>zf1 h) (fun a hF=>?_)
  |exact RetX.oA hF
def zl6 (w1_0:Bool):AS:=⟨[(4,.bool (w1_0))],[]⟩
theorem zkk {n}:z5l E0 64 (z17 n) zl6:=AW.jT
def zs2 (r:Bool):AV:=.bool (r)
theorem zmf {n a0 a1 r}(hF:z9q n a0 a1=some r):Con E0 true 3 [.agg [aI (a0.fVars),aI (a0.fScopes),.sl 1 (a0.fStates.map z0c),.sl 17 (a0.fEdges.map z0d)],.sl 5 (a1.map z04)] (zs2 r):=by
 unfold z9q at hF
 refine Con.walk _ Tryz.func3 rfl (z06 Tryz.func3 rfl rfl) rfl (Or.inr rfl) ?_
 repeat' first
  |refine zkk hF (fun hF=>?_) (fun v hF=>?_);rotate_left;unfold z17 at hF
  |refine AW.regO hF (fun hF=>?_)
  |refine AW.stepU [6] ?_;conv=>whnf
  |refine z0v.o hF (fun hF=>?_) (fun hF=>?_)
  |refine z0v.f ?_
  |refine z0m.o hF zh2 (fun a h=>zqp h) (fun a hF=>?_)
  |refine z0m.o hF zhd (fun a h=>zr1 h) (fun a hF=>?_)
  |refine z0m.o hF zzr (fun a h=>zyf h) (fun a hF=>?_)
  |refine z0m.o hF zjk (fun a h=>zuu h) (fun a hF=>?_)
  |refine z0m.o hF zs4 (fun a h=>zv3 h) (fun a hF=>?_)
  |refine z0m.o hF zht (fun a h=>zt6 h) (fun a hF=>?_)
  |refine z0m.o hF zei (fun a h=>zg3 h) (fun a hF=>?_)
  |exact ⟨_,hF,LeX.a []⟩
  |exact RetX.oA hF
end Go.Proofs.YtjpknpjjcddnnaaGreat
namespace Go.Proofs.YtjpknpjjcddnnaaGreat
open Go.RowKit
theorem runs_con25 (a:z05)(hw:WfA a)(l:List z01):Con E0 true 3 [zfa a,.sl 5 (l.map z04)] (.bool true):=zmf (law_runs a hw l)
end Go.Proofs.YtjpknpjjcddnnaaGreat
namespace Go.Proofs.YtjpknpjjcddnnaaGreat
open Go.ChangeShapes Go.WideShapes Go.ChangeAt Go.RowKit
theorem args_two {w:World}{S:Nat->Prop}{a b:AV}{x y:Value}(ha:Rep w S G0 a x)(hb:Rep w S G0 b y):Args w S [a,b] #[x,y] :=
 ⟨rfl,fun i hi=>by
  have hi':i<2:=hi
  rcases i with _|_|i
  ·exact ha
  ·exact hb
  ·omega⟩
theorem own_knob:ownKnob Tryz.prog.godebug=none:=by kernel_rfl
theorem laid_out:laidOutB Tryz.prog=true:=by kernel_rfl
section
variable {H:Type} {enc:TypeId×Value->H}
theorem zys {W W':World}{sp':Nat->Bool}(hb:Below W.heap.size W W')(ts:List TypeId):∀ (vs:List Value) (ds:List (DataW H)) (p:List MemPlace),ts.all (fun t=>Tryz.prog.readableRec t && decide (t<Tryz.prog.types.size))=true ->
  DataW.TrodAll enc Tryz.prog W 0 (fun _=>true) true ts vs ds p->(∀ x∈p,x.block<W.heap.size)->(∀ x∈p,sp' x.block=true)->DataW.TrodAll enc Tryz.prog W' 0 sp' true ts vs ds p:=by
 induction ts with
 |nil =>
  intro vs ds p _ h _ _
  match vs,ds,h with
  |[],[],h=>exact h
  |_::_,_,h=>exact h.elim
  |[],_::_,h=>exact h.elim
 |cons t ts ih =>
  intro vs ds p hr h hlt hs
  match vs,ds,h with
  |v::vs,d::ds,h =>
   obtain ⟨q,r,h1,h2,rfl⟩:=h
   have hr1:Tryz.prog.readableRec t=true/\t<Tryz.prog.types.size:=by
    have:=List.all_eq_true.mp hr t (List.mem_cons_self ..)
    rw [Bool.and_eq_true,decide_eq_true_eq] at this;exact this
   have hr2:ts.all (fun t=>Tryz.prog.readableRec t && decide (t<Tryz.prog.types.size))=true :=
    List.all_eq_true.mpr fun x hx=>List.all_eq_true.mp hr x (List.mem_cons_of_mem _ hx)
   exact ⟨q,r,WideElems.Trod_stays laid_out hr1.1 hr1.2 h1 (fun x hx=>hb.same (hlt x (List.mem_append_left _ hx))) (fun x hx=>hs x (List.mem_append_left _ hx)),
    ih vs ds r hr2 h2 (fun x hx=>hlt x (List.mem_append_right _ hx)) (fun x hx=>hs x (List.mem_append_right _ hx)),rfl⟩
  |[],_,h=>exact h.elim
  |_::_,[],h=>exact h.elim
theorem trodAll_len {W:World}{b:Nat}{sp:Nat->Bool}(ts:List TypeId):∀ (vs:List Value) (ds:List (DataW H)) (p:List MemPlace),DataW.TrodAll enc Tryz.prog W b sp true ts vs ds p->ds.length=ts.length:=by
 induction ts with
 |nil =>
  intro vs ds p h
  match vs,ds,h with
  |[],[],h=>rfl
  |_::_,_,h=>exact h.elim
  |[],_::_,h=>exact h.elim
 |cons t ts ih =>
  intro vs ds p h
  match vs,ds,h with
  |v::vs,d::ds,h =>
   obtain ⟨q,r,h1,h2,rfl⟩:=h
   simp only [List.length_cons]
   rw [ih vs ds r h2]
  |[],_,h=>exact h.elim
  |_::_,[],h=>exact h.elim
end
end Go.Proofs.YtjpknpjjcddnnaaGreat
namespace Go.Proofs.YtjpknpjjcddnnaaGreat
open Go.ChangeShapes Go.WideShapes Go.ChangeAt Go.RowKit
section
variable {H:Type} {enc:TypeId×Value->H}
set_option maxRecDepth 100000 in
theorem zy7 (F:Stop.Interp)(os:Os)(started:os.Started){f:FuncId}{fn:Func}{s:ChangeSpec}{fr:Bool}(hf:Tryz.prog.funcs[f]? = some fn)(hni:Tryz.prog.inits.idxOf? f=none)
  (hw:∃ (w:World) (tape:Tape) (i:Input),w.os=os/\(w.forCall tape i).Shaped Tryz.checked.prog/\i.vars=[]/\Input.okWide Tryz.checked.prog (w.forCall tape i) .any w.heap.size f i /\
    (Rows.OpenSpec.upto s).pre6 enc Tryz.checked.prog fn [] false (w.forCall tape i).memory i.args/\Assume.holds {} Tryz.checked.prog (lone (Frame.enter Tryz.checked.prog f i.args .normal) [] (w.forCall tape i)))
  (hvars:s.vars=[]) (hres:fn.resultTypes=#[4]) (hread:fn.params.toList.all (fun t=>Tryz.prog.readableRec t && decide (t<Tryz.prog.types.size))=true)
  (hspec:∀ ds:List (DataW H),ds.length=fn.params.size->s.fn H ds={ results:=[.lit (.bool true)],args:=ds })
  (hopen:∀ (W:World) (base:Nat) (args:Array Value) (ds:List (DataW H)) (p:List MemPlace),(∀ (j:Nat) t v,fn.params[j]? = some t->args[j]? = some v->Value.okWide Tryz.prog W .any base t v) ->
    DataW.TrodAll enc Tryz.prog W 0 (fun _=>true) true fn.params.toList args.toList ds p->Rows.uptoBulkAll ds<=1048576->∃ avs,Args W (fun _=>True) avs args/\Con E0 fr f avs (.bool true)) :
  ReturnsInHanded {} Tryz.checked os f .any ((Rows.OpenSpec.upto s).pre6 enc Tryz.prog fn [] false) (((Rows.OpenSpec.upto s).at F).post enc Tryz.prog fn false true false false):=by
 refine returnsInHanded_of_cond (C:=Tryz.checked) (s:=Rows.OpenSpec.upto s) (k:=Rows.uptoSmall) rfl own_knob started hni hf hw ?_
 intro W base args ds gs before hval hW hcnd hk _
 show Calls Tryz.checked.prog f args W fun e W'=>∃ v,e=.returned v/\s.post enc Tryz.prog fn false true false false W args v W'
 have hW':=hW
 obtain ⟨p,q,hA,hV,rfl,hfz,hnd⟩:=hW
 have hlt:∀ x∈p++q,x.block<W.heap.size:=fun x hx=>DataW.Whole.lt hW' x hx
 rw [show (Rows.OpenSpec.upto s).vars=s.vars from rfl,hvars] at hV
 obtain ⟨rfl,rfl⟩:=trodVars_none hV
 have hbk:Rows.uptoBulkAll ds<=1048576:=by
  have:=of_decide_eq_true hk
  rwa [List.append_nil] at this
 obtain ⟨avs,hargs,hcon⟩:=hopen W base args ds p hval hA hbk
 refine (hcon.2 (fun _=>True) W args hargs).mono fun e W' ⟨v,he,⟨hb,_⟩,hv⟩=>?_
 have hv:=hv.bool_inv
 subst hv
 subst he
 have hdl:ds.length=fn.params.size:=(trodAll_len _ _ _ _ hA).trans (by simp)
 have hsp:s.fn H (ds++[])={ results:=[.lit (.bool true)],args:=ds }:=by rw [List.append_nil];exact hspec ds hdl
 have hltp:∀ x∈p,x.block<W.heap.size:=fun x hx=>hlt x (by simp [hx])
 have k0:=zys (sp':=fun b=>decide (b<W.heap.size)) hb _ _ _ _ hread hA hltp (fun x hx=>by simpa using hltp x hx)
 have k1:=zys (sp':=fun _=>true) hb _ _ _ _ hread hA hltp (fun x hx=>rfl)
 have hrl:(Value.bool true).resultList fn.resultTypes.size=[.bool true]:=by rw [hres];rfl
 have hrt:fn.resultTypes.toList=[4]:=by rw [hres]
 refine ⟨_,rfl,ds,[],_,[],p,[],hW',?_,?_,?_,World.keptBut_mono (fun x hx=>⟨hx,?_⟩) (hb.frame (·∈p++[])),fun h=>?_⟩
 ·rw [hsp,hrt,hrl];exact trodAll_mk1 (shut_bool Tryz.underlying4 true)
 ·rw [hsp];exact k0
 ·rw [hsp,hvars];exact rfl
 ·exact Or.inr (Or.inl (by simpa using hx))
 ·rw [hrt,hrl,hvars]
  refine ⟨?_,[.lit (.bool true)]++ds,[],p,⟨p,[],?_,rfl,by simp,?_,fun h=>by simp at h⟩,?_⟩
  ·rw [hres];intro j t r ht hr
   match j with
   |0 =>
    obtain rfl:4=t:=Option.some.inj ht
    obtain rfl:Value.bool true=r:=Option.some.inj hr
    exact okWide_bool_mk Tryz.underlying4 true
   |j+1=>exact absurd hr (by simp)
  ·exact trodAll_append k1 (trodAll_mk1 (shut_bool Tryz.underlying4 true))
  ·intro b off hp
   have hin:MemPlace.cell b off∈p++[]:=by simpa using hp
   rw [hb.frozen (hlt _ hin)]
   exact hfz b off hin
  ·intro x hx _
   simpa using hx
end
end Go.Proofs.YtjpknpjjcddnnaaGreat
namespace Go.Proofs.YtjpknpjjcddnnaaGreat
open Go.ChangeShapes Go.WideShapes Go.ChangeAt Go.RowKit Go.Joins Go.Deep
section
variable {H:Type} {enc:TypeId×Value->H} {W:World} {base:Nat} {v:Value} {d:DataW H} {p:List MemPlace}
theorem spot_none {a:Addr}{u:Value}(h:W.cell? a=some u):a.spot=none/\a.block<W.heap.size:=by
 unfold World.cell? at h
 split at h
 ·rename_i c _ _ hg
  split at h
  ·cases h
  ·rename_i hs
   refine ⟨by cases hh:a.spot with|none=>rfl|some _=>simp [hh] at hs,?_⟩
   rcases Nat.lt_or_ge a.block W.heap.size with hlt|hge
   ·exact hlt
   ·rw [Array.getElem?_eq_none hge] at hg;cases hg
 ·cases h
theorem add_eq (b off k:Nat):(⟨b,off,none⟩:Addr).add k=⟨b,off+k,none⟩:=by
 by_cases h:k=0<;>simp [Addr.add,h]
theorem mapM_some {α β:Type}{f:α->Option β}:∀ {l:List α} {r:List β},l.mapM f=some r->r.length=l.length/\∀ k (hk:k<l.length) (hr:k<r.length),f l[k]=some r[k]
 |[],r,h=>by simp at h;subst h;exact ⟨rfl,fun k hk=>absurd hk (by simp)⟩
 |a::l,r,h=>by
  simp only [List.mapM_cons] at h
  cases ha:f a with
  |none=>rw [ha] at h;simp at h
  |some b =>
   rw [ha] at h
   cases hl:l.mapM f with
   |none=>rw [hl] at h;simp at h
   |some s =>
    rw [hl] at h
    simp at h
    subst h
    obtain ⟨i1,i2⟩:=mapM_some hl
    refine ⟨by simp [i1],fun k hk hr=>?_⟩
    cases k with
    |zero=>exact ha
    |succ k=>exact i2 k (by simpa using hk) (by simpa using hr)
theorem zwu {a:Addr}{n:Nat}{cs:List Value}(h:W.cells? 0 a n=some cs):cs.length=n/\∀ j,j<n->W.cell? (a.add j)=some (cs.getD j undef):=by
 unfold World.cells? at h
 rw [if_pos (Nat.zero_le _)] at h
 obtain ⟨i1,i2⟩:=mapM_some h
 have hl:cs.length=n:=by simpa using i1
 refine ⟨hl,fun j hj=>?_⟩
 have:=i2 j (by simpa using hj) (by omega)
 rw [List.getElem_range] at this
 rw [this]
 simp [List.getElem?_eq_getElem (show j<cs.length by omega)]
set_option maxRecDepth 100000
def CellsOf {α:Type}(W:World)(a:α->AV)(m:α)(cs:List Value):Prop :=
 cs.length=(a m).cells.length/\∀ j (hj:j<(a m).cells.length),Rep W (fun _=>True) G0 ((a m).cells[j]) (cs.getD j undef)/\(cs.getD j undef).oneCell'=true
theorem sl_open {α:Type}{a:α->AV}{t e:TypeId}{sz:Nat}(ht:Tryz.prog.underlying t=some (.slice e))(hsz:Tryz.prog.cellsOf e=sz)(h0:0<sz)(i0:Inhabited α)(hlen:∀ m,(a m).cells.length=sz)
  (each:∀ (n:Nat) (cs:List Value) (x:DataW H×List MemPlace),cs.length=sz->DataW.trod enc Tryz.prog W 0 (fun _=>true) true n e cs=some x->∃ m:α,CellsOf W a m cs)
  {n:Nat} {u:Value} {x:DataW H×List MemPlace} (h:DataW.trod enc Tryz.prog W 0 (fun _=>true) true n t [u]=some x):∃ l:List α,Rep W (fun _=>True) G0 (.sl sz (l.map a)) u:=by
 rcases open_slice ht h with ⟨h1,_⟩|⟨A,len,cap,m,n',D,Pl,h1,_,hlc,hm,hmm,_,hc⟩
 ·simp only [List.cons.injEq,and_true] at h1
  subst h1
  exact ⟨[],.sl none 0 (fun _ _=>.bool true) (by simp) (fun k hk=>absurd hk (by simp)) (fun h=>absurd h (by simp)) (fun k hk=>absurd hk (by simp)) (fun _ _=>rfl)⟩
 ·simp only [List.cons.injEq,and_true] at h1
  subst h1
  simp only [if_true] at hmm
  subst hmm
  rw [hsz] at hc
  have every:∀ i,∃ q:α×List Value,i<len->W.cells? 0 (A.add (i*sz)) sz=some q.2/\CellsOf W a q.1 q.2:=fun i=>by
   by_cases hi:i<len
   ·obtain ⟨cs,c1,c2⟩:=hc i (by omega)
    obtain ⟨k,hk⟩:=each n' cs _ (zwu c1).1 c2
    exact ⟨(k,cs),fun _=>⟨c1,hk⟩⟩
   ·exact ⟨(i0.default,[]),fun h=>absurd h hi⟩
  obtain ⟨f,hf⟩:=Classical.axiomOfChoice every
  have hl:((List.range len).map fun i=>(f i).1).length=len:=by simp
  refine ⟨(List.range len).map fun i=>(f i).1,?_⟩
  have e:len=(((List.range len).map fun i=>(f i).1).map a).length:=by simp
  have hcell:∀ k j,k<len->j<sz->W.cell? ((A.add (k*sz)).add j)=some ((f k).2.getD j undef):=fun k j hk hj=>(zwu (hf k hk).1).2 j hj
  have:Rep W (fun _=>True) G0 (.sl sz (((List.range len).map fun i=>(f i).1).map a)) (.slice (some A) (((List.range len).map fun i=>(f i).1).map a).length m):=by
   refine .sl (some A) m (fun k j=>if k<len/\j<sz then (f k).2.getD j undef else .bool true) (by simpa using hlc) (fun k hk=>?_) (fun h0'=>?_) (fun k hk j hj=>?_) (fun k j=>?_)
   ·simp only [List.getElem_map];exact hlen _
   ·have hlp:0<len:=by simpa using h0'
    have c0:=spot_none (hcell 0 0 hlp h0)
    obtain ⟨b,off,sp⟩:=A
    have e1:sp=none:=by simpa [Addr.add] using c0.1
    subst e1
    rw [add_eq,add_eq] at c0
    refine ⟨b,off,rfl,trivial,c0.2,fun k j hk hj=>?_⟩
    have hk':k<len:=by simpa using hk
    have:=hcell k j hk' hj
    rw [add_eq,add_eq] at this
    rw [if_pos ⟨hk',hj⟩,<-this]
    congr 2
    omega
   ·have hk':k<len:=by simpa using hk
    simp only [List.getElem_map,List.getElem_range] at hj ⊢
    have hj':j<sz:=by rw [hlen] at hj;exact hj
    rw [if_pos ⟨hk',hj'⟩]
    exact ((hf k hk').2.2 j hj).1
   ·by_cases hkj:k<len/\j<sz
    ·rw [if_pos hkj]
     exact ((hf k hkj.1).2.2 j (by rw [hlen];exact hkj.2)).2
    ·rw [if_neg hkj];rfl
  rw [<-e] at this
  exact this
theorem Rep.one_sl {sz:Nat}{xs:List AV}{u:Value}(h:Rep W (fun _=>True) G0 (.sl sz xs) u):u.oneCell'=true:=by
 cases h;rfl
theorem slArg_open {α:Type}{a:α->AV}{t e:TypeId}{sz:Nat}(ht:Tryz.prog.underlying t=some (.slice e))(hsz:Tryz.prog.cellsOf e=sz)(h0:0<sz)(i0:Inhabited α)(hlen:∀ m,(a m).cells.length=sz)
  (each:∀ (n:Nat) (cs:List Value) (x:DataW H×List MemPlace),cs.length=sz->DataW.trod enc Tryz.prog W 0 (fun _=>true) true n e cs=some x->∃ m:α,CellsOf W a m cs)
  (hv:Value.okWide Tryz.prog W .any base t v) (h:DataW.Trod enc Tryz.prog W 0 (fun _=>true) true t v d p):∃ l:List α,Rep W (fun _=>True) G0 (.sl sz (l.map a)) v:=by
 obtain ⟨A,len,cap,rfl⟩:=okWide_slice ht hv
 obtain ⟨fuel,hf⟩:=h
 exact sl_open ht hsz h0 i0 hlen each hf
theorem agg_of {α:Type}{a:α->AV}{m:α}{cs:Array Value}{xs:List AV}(hm:a m=.agg xs)(h:CellsOf W a m cs.toList):Rep W (fun _=>True) G0 (a m) (.agg cs):=by
 obtain ⟨h1,h2⟩:=h
 rw [hm] at h1 h2 ⊢
 have hl:cs.size=xs.length:=by simpa [AV.cells] using h1
 have g:∀ i,cs.toList.getD i undef=cs.getD i undef:=fun i=>by
  by_cases hi:i<cs.size
  ·simp [Array.getD,hi]
  ·simp [Array.getD,hi]
 refine .agg _ hl (fun i hi=>?_) (fun i hi=>?_)
 ·have:=(h2 i hi).1
  rw [g] at this
  exact this
 ·have:=(h2 i (show i<xs.length by rw [<-hl];exact hi)).2
  rw [g] at this
  exact this
end
end Go.Proofs.YtjpknpjjcddnnaaGreat
namespace Go.Proofs.YtjpknpjjcddnnaaGreat
open Go.ChangeShapes Go.WideShapes Go.ChangeAt Go.RowKit Go.Joins Go.Deep
section
variable {H:Type} {enc:TypeId×Value->H} {W:World} {base:Nat} {v:Value} {d:DataW H} {p:List MemPlace}
set_option maxRecDepth 100000
def z9t (W:World)(xs:List AV)(cs:List Value):Prop :=
 cs.length=xs.length/\∀ j (hj:j<xs.length),Rep W (fun _=>True) G0 (xs[j]) (cs.getD j undef)/\(cs.getD j undef).oneCell'=true
theorem z9t.one {a:AV}{c:Value}(h:Rep W (fun _=>True) G0 a c)(h1:c.oneCell'=true):z9t W [a] [c]:=by
 refine ⟨rfl,fun j hj=>?_⟩
 have hj':j<1:=hj
 rcases j with _|j
 ·exact ⟨h,h1⟩
 ·omega
theorem z9t.append {xs ys:List AV}{cs ds:List Value}(h1:z9t W xs cs)(h2:z9t W ys ds):z9t W (xs++ys) (cs++ds):=by
 refine ⟨by rw [List.length_append,List.length_append,h1.1,h2.1],fun j hj=>?_⟩
 by_cases h:j<xs.length
 ·have:=h1.2 j h
  rw [List.getElem_append_left h]
  have e:(cs++ds).getD j undef=cs.getD j undef:=by
   simp only [List.getD_eq_getElem?_getD]
   rw [List.getElem?_append_left (by rw [h1.1];exact h)]
  rw [e];exact this
 ·have hj':j-xs.length<ys.length:=by rw [List.length_append] at hj;omega
  have:=h2.2 (j-xs.length) hj'
  rw [List.getElem_append_right (by omega)]
  have e:(cs++ds).getD j undef=ds.getD (j-xs.length) undef:=by
   simp only [List.getD_eq_getElem?_getD]
   rw [List.getElem?_append_right (by rw [h1.1];omega),h1.1]
  rw [e];exact this
theorem z9t.cut {cs:List Value}{o s:Nat}{xs ys:List AV}(h1:z9t W xs ((cs.drop o).take s))(h2:z9t W ys (cs.drop (o+s))):z9t W (xs++ys) (cs.drop o):=by
 have:cs.drop o=(cs.drop o).take s++cs.drop (o+s):=by rw [<-List.drop_drop,List.take_append_drop]
 rw [this]
 exact h1.append h2
theorem z9t.done {cs:List Value}{o:Nat}(h:cs.length<=o):z9t W [] (cs.drop o):=by
 rw [List.drop_eq_nil_of_le h]
 exact ⟨rfl,fun j hj=>absurd hj (by simp)⟩
theorem z63 {cs:List Value}{o s:Nat}(h:o+s<=cs.length):((cs.drop o).take s).length=s:=by rw [List.length_take,List.length_drop];omega
abbrev FO (enc:TypeId×Value->H)(W:World)(t:TypeId)(sz:Nat){α:Type}(e:α->List AV):Prop :=
 ∀ (n:Nat) (cs:List Value) (x:DataW H×List MemPlace),cs.length=sz->DataW.trod enc Tryz.prog W 0 (fun _=>true) true n t cs=some x->∃ m:α,z9t W (e m) cs
theorem zeb {t:TypeId}(ht:Tryz.prog.underlying t=some (.int .i64)):FO enc W t 1 (fun z:Int=>[aI z]):=fun n cs x hl h=>by
 obtain ⟨z,rfl,_⟩:=DataW.trod_int (k:=.i64) ht h
 exact ⟨z,.one (.int _ _) rfl⟩
theorem fo_str {t:TypeId}(ht:Tryz.prog.underlying t=some .string):FO enc W t 1 (fun z:ByteArray=>[AV.str z]):=fun n cs x hl h=>by
 obtain ⟨z,rfl,_⟩:=DataW.trod_string ht h
 exact ⟨z,.one (.str _) rfl⟩
theorem fo_sl {t e:TypeId}{sz:Nat}{α:Type}{a:α->AV}(ht:Tryz.prog.underlying t=some (.slice e))(hsz:Tryz.prog.cellsOf e=sz)(h0:0<sz)(i0:Inhabited α)(hlen:∀ m,(a m).cells.length=sz)
  (each:FO enc W e sz (fun m:α=>(a m).cells)):FO enc W t 1 (fun l:List α=>[AV.sl sz (l.map a)]):=fun n cs x hl h=>by
 match cs,hl with
 |[c],_ =>
  obtain ⟨l,hl⟩:=sl_open (a:=a) ht hsz h0 i0 hlen each h
  exact ⟨l,.one hl hl.one_sl⟩
theorem fo_aI {t:TypeId}(ht:Tryz.prog.underlying t=some (.int .i64)):FO enc W t 1 (fun z:Int=>(aI z).cells):=zeb ht
theorem arg_slice {α:Type}{a:α->AV}{t e:TypeId}{sz:Nat}(ht:Tryz.prog.underlying t=some (.slice e))(hsz:Tryz.prog.cellsOf e=sz)(h0:0<sz)(i0:Inhabited α)(hlen:∀ m,(a m).cells.length=sz)
  (each:FO enc W e sz (fun m:α=>(a m).cells)) (hv:Value.okWide Tryz.prog W .any base t v) (h:DataW.Trod enc Tryz.prog W 0 (fun _=>true) true t v d p):∃ l:List α,Rep W (fun _=>True) G0 (.sl sz (l.map a)) v :=
 slArg_open ht hsz h0 i0 hlen each hv h
end
end Go.Proofs.YtjpknpjjcddnnaaGreat
