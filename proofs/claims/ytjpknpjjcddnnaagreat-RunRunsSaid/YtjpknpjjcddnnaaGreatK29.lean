/- What some functions compute, over plain values. Printed by a program of mine (gen_fun.lean). -/
import Derived.Test.YtjpknpjjcddnnaaGreatK28
set_option linter.unusedVariables false
set_option linter.unusedSimpArgs false
set_option maxRecDepth 100000
set_option maxHeartbeats 8000000
namespace Go.Proofs.YtjpknpjjcddnnaaGreat
open Go.RowKit
theorem zx0 {n a0 a1 a2 r}(hF:z98 n a0 a1 a2=some r):Con E0 true 229 [aI (a0),.sl 3 (a1.map z07),.agg [aI (a2.fKind),aI (a2.fNum),.str (a2.fText)]] (zlg r):=by
 unfold z98 at hF
 refine Con.walk _ Tryz.func229 rfl (z06 Tryz.func229 rfl rfl) rfl (Or.inr rfl) ?_
 repeat' first
  |refine AW.step ?_;conv=>whnf
  |refine z0v.o hF (fun hF=>?_) (fun hF=>?_)
  |refine z0m.o hF zek (fun a h=>zg4 h) (fun a hF=>?_)
  |refine z0m.o hF zg8 (fun a h=>zoe h) (fun a hF=>?_)
  |refine IdxX.o z07 hF (fun x hF=>?_)
  |refine z0m.o hF zjp (fun a h=>zuz h) (fun a hF=>?_)
  |exact ⟨_,hF,LeX.a []⟩
  |refine zud hF (LeX.a []) (fun m v hF=>?_);unfold z7m at hF
  |refine And.intro ⟨by kernel_rfl,by kernel_rfl⟩ ?_
  |exact RetX.oA hF
def zn0 (a1:Int)(a0:z0h)(w1_0:Bool):AS:=⟨[(1,aI (a1)),(2,.ptr 2 0),(13,.bool (w1_0))],[(2,.box 167 [.sl 1 (List.map (fun q=>AV.sl 5 (List.map z04 q)) (a0.fVars))])]⟩
theorem zm4 {n a1 a0}:z5l E0 19 (z33 n a1 a0) (zn0 a1 a0):=AW.jT
def zdb (r:(List z01)):AV:=.sl 5 (r.map z04)
theorem zf2 {n a0 a1 r}(hF:z5f n a0 a1=some r):Con E0 false 228 [.agg [.sl 1 (List.map (fun q=>AV.sl 5 (List.map z04 q)) (a0.fVars))],aI (a1)] (zdb r):=by
 unfold z5f at hF
 refine Con.walk _ Tryz.func228 rfl (z06 Tryz.func228 rfl rfl) rfl (Or.inl rfl) ?_
 repeat' first
  |refine zm4 hF (fun hF=>?_) (fun v hF=>?_);rotate_left;unfold z33 at hF
  |refine AW.regO hF (fun hF=>?_)
  |refine AW.stepU [1] ?_;conv=>whnf
  |refine z0v.o hF (fun hF=>?_) (fun hF=>?_)
  |refine IdxX.o (fun q=>AV.sl 5 (List.map z04 q)) hF (fun x hF=>?_)
  |exact ⟨_,hF,LeX.a []⟩
  |exact RetX.oA hF
def zhz (r:z01×Bool):AV:=.tup [.agg [aI (r.1.fSource),aI (r.1.fSeq),aI (r.1.fType),aI (r.1.fTime),.sl 3 (r.1.fValues.map z07)],.bool (r.2)]
theorem ztc {n a0 a1 a2 a3 r}(hF:zbt n a0 a1 a2 a3=some r):Con E0 false 230 [.agg [.sl 1 (List.map (fun q=>AV.sl 5 (List.map z04 q)) (a0.fVars))],aI (a1),aI (a2),.agg [aI (a3.fSource),aI (a3.fSeq),aI (a3.fType),aI (a3.fTime),.sl 3 (a3.fValues.map z07)]] (zhz r):=by
 unfold zbt at hF
 refine Con.walk _ Tryz.func230 rfl (z06 Tryz.func230 rfl rfl) rfl (Or.inl rfl) ?_
 repeat' first
  |refine AW.step ?_;conv=>whnf
  |refine z0v.o hF (fun hF=>?_) (fun hF=>?_)
  |refine z0m.o hF zdb (fun a h=>zf2 h) (fun a hF=>?_)
  |refine IdxX.o z04 hF (fun x hF=>?_)
  |exact RetX.oA hF
def zrq (a0:z0i)(x2:(List z01))(v1_0:Int×(List z02)):AS:=⟨[(4,.ptr 4 0),(8,.ptr 8 0),(10,.row 7063),(11,.sl 5 (x2.map z04)),(12,aI (v1_0.1))],[(4,.box 47 [aI (a0.fOp),.sl 8 (a0.fArgs.map idA),aI (a0.fVar),aI (a0.fField),aI (a0.fKind),aI (a0.fValue.fKind),aI (a0.fValue.fNum),.str (a0.fValue.fText)]),(8,.box 45 [aI (0),aI (0),.str (ByteArray.empty)]),(7063,.row 45 3 (v1_0.2.map z07))]⟩
theorem zq8 {n a0 x2 k1_0_0}:z2d E0 114 (z6i n a0 x2 k1_0_0) (zrq a0 x2):=LoopA.oT fun _=>rfl
def zhx (r:z02×Int):AV:=.tup [.agg [aI (r.1.fKind),aI (r.1.fNum),.str (r.1.fText)],aI (r.2)]
theorem zta {n a0 a1 a2 a3 r}(hF:z9h n a0 a1 a2 a3=some r):Con E0 true 220 [.agg [aI (a0.fOp),.sl 8 (a0.fArgs.map idA),aI (a0.fVar),aI (a0.fField),aI (a0.fKind),aI (a0.fValue.fKind),aI (a0.fValue.fNum),.str (a0.fValue.fText)],.agg [.sl 1 (List.map (fun q=>AV.sl 5 (List.map z04 q)) (a1.fVars))],aI (a2),.agg [aI (a3.fSource),aI (a3.fSeq),aI (a3.fType),aI (a3.fTime),.sl 3 (a3.fValues.map z07)]] (zhx r):=by
 unfold z9h at hF
 refine Con.walk _ Tryz.func220 rfl (z06 Tryz.func220 rfl rfl) rfl (Or.inr rfl) ?_
 repeat' first
  |refine AW.step ?_;conv=>whnf
  |refine z0v.o hF (fun hF=>?_) (fun hF=>?_)
  |refine z0m.o hF zdb (fun a h=>zf2 h) (fun a hF=>?_)
  |refine zcc.o hF zlg (fun a h=>zx0 h) (fun _=>Or.inr rfl) (fun a hF=>?_)
  |refine IdxX.o z04 hF (fun x hF=>?_)
  |refine IdxX.o z07 hF (fun x hF=>?_)
  |refine AppX.o z07 hF (by first|exact SubR.refl _|(repeat' first|exact SubR.nil|refine SubR.cons ?_ ?_|exact SubL.nil|refine SubL.cons ?_ ?_|exact Sub.refl _|exact Sub.nil _)) (fun l hF=>?_)
  |exact ⟨_,hF,LeX.a [(7063,63)]⟩
  |refine zq8 hF (LeX.trans (LeX.adopt 10 7063 45 3 rfl rfl) (LeX.a [])) (fun m v hF=>?_);unfold z6i at hF
  |refine z0m.o hF zhz (fun a h=>ztc h) (fun a hF=>?_)
  |refine z0m.o hF z8v (fun a h=>z9l h) (fun a hF=>?_)
  |refine And.intro ⟨by kernel_rfl,by kernel_rfl⟩ ?_
  |exact RetX.oA hF
def zjf (w2_1:Bool):AS:=⟨[(9,.bool (w2_1))],[]⟩
theorem ziq {n}:zi5 E0 13 (z1o n) zjf:=AW.jT2
def zjg (a0:Int)(w1_0:Bool):AS:=⟨[(3,aI (a0)),(4,.bool (w1_0))],[]⟩
theorem zir {n a0}:zi5 E0 13 (z1g n a0) (zjg a0):=AW.jT2
def zf5 (r:Int):AV:=aI (r)
theorem zks {n a0 r}(hF:z7k n a0=some r):Con E0 true 231 [aI (a0)] (zf5 r):=by
 unfold z7k at hF
 refine Con.walk _ Tryz.func231 rfl (z06 Tryz.func231 rfl rfl) rfl (Or.inr rfl) ?_
 repeat' first
  |refine ziq hF (fun hF=>?_) (fun v hF=>?_);rotate_left;unfold z1o at hF
  |refine zir hF (fun hF=>?_) (fun v hF=>?_);rotate_left;unfold z1g at hF
  |refine AW.regO hF (fun hF=>?_)
  |refine AW.stepU [2,3,4,7,8] ?_;conv=>whnf
  |refine z0v.o hF (fun hF=>?_) (fun hF=>?_)
  |exact ⟨_,hF,LeX.a []⟩
  |exact ⟨_,hF,LeX.a []⟩
  |exact RetX.oA hF
def zje (a1:(List Int))(a0:Int)(v1_0:Int)(cv1_0:Int->Option (Int))(w3_1:Bool):AS:=⟨[(0,aI (a0)),(1,.sl 1 (a1.map aI)),(5,aI (v1_0)),(38,.bool (w3_1))],[]⟩
theorem zio {n a1 a0 v1_0 cv1_0}:z5l E0 39 (z1a n a1 a0 v1_0 cv1_0) (zje a1 a0 v1_0 cv1_0):=AW.jT
def zjd (a1:(List Int))(a0:Int)(v1_0:Int):AS:=⟨[(0,aI (a0)),(1,.sl 1 (a1.map aI)),(5,aI (v1_0))],[]⟩
theorem zin {n a1 a0 k1_0_0}:z2d E0 39 (z13 n a1 a0 k1_0_0) (zjd a1 a0):=LoopA.oT fun _=>rfl
def zf4 (r:Int):AV:=aI (r)
theorem zkr {n a0 a1 r}(hF:z97 n a0 a1=some r):Con E0 true 221 [aI (a0),.sl 1 (a1.map aI)] (zf4 r):=by
 unfold z97 at hF
 refine Con.walk _ Tryz.func221 rfl (z06 Tryz.func221 rfl rfl) rfl (Or.inr rfl) ?_
 repeat' first
  |refine zio hF (fun hF=>?_) (fun v hF=>?_);rotate_left;unfold z1a at hF
  |refine AW.regO hF (fun hF=>?_)
  |refine AW.stepU [5] ?_;conv=>whnf
  |refine z0v.o hF (fun hF=>?_) (fun hF=>?_)
  |refine z0v.f ?_
  |refine z0m.o hF zf5 (fun a h=>zks h) (fun a hF=>?_)
  |exact ⟨_,hF,LeX.a []⟩
  |refine IdxX.o aI hF (fun x hF=>?_)
  |exact ⟨_,hF,LeX.a []⟩
  |refine zin hF (LeX.a []) (fun m v hF=>?_);unfold z13 at hF
  |refine And.intro ⟨by kernel_rfl,by kernel_rfl⟩ ?_
  |exact RetX.oA hF
def z9a (r:z02):AV:=.agg [aI (r.fKind),aI (r.fNum),.str (r.fText)]
theorem zar {n a0 r}(hF:z19 n a0=some r):Con E0 true 69 [.bool (a0)] (z9a r):=by
 unfold z19 at hF
 refine Con.walk _ Tryz.func69 rfl (z06 Tryz.func69 rfl rfl) rfl (Or.inr rfl) ?_
 repeat' first
  |refine AW.step ?_;conv=>whnf
  |refine z0v.o hF (fun hF=>?_) (fun hF=>?_)
  |exact RetX.oA hF
def zp3 (w1_0:Int×Int×ByteArray):AS:=⟨[(4,.ptr 4 0)],[(4,.box 45 [aI (w1_0.1),aI (w1_0.2.1),.str (w1_0.2.2)])]⟩
theorem zno {n}:z5l E0 100 (z3p n) zp3:=AW.jT
def zp2 (w2_1:Int×Int×ByteArray):AS:=⟨[(4,.ptr 4 0)],[(4,.box 45 [aI (w2_1.1),aI (w2_1.2.1),.str (w2_1.2.2)])]⟩
theorem znn {n}:z5l E0 100 (z3o n) zp2:=AW.jT
def zhb (r:z02):AV:=.agg [aI (r.fKind),aI (r.fNum),.str (r.fText)]
theorem zqz {n a0 a1 r}(hF:z64 n a0 a1=some r):Con E0 true 222 [aI (a0),.sl 3 (a1.map z07)] (zhb r):=by
 unfold z64 at hF
 refine Con.walk _ Tryz.func222 rfl (z06 Tryz.func222 rfl rfl) rfl (Or.inr rfl) ?_
 repeat' first
  |refine zno hF (fun hF=>?_) (fun v hF=>?_);rotate_left;unfold z3p at hF
  |refine znn hF (fun hF=>?_) (fun v hF=>?_);rotate_left;unfold z3o at hF
  |refine AW.regO hF (fun hF=>?_)
  |refine AW.stepU [13,15] ?_;conv=>whnf
  |refine z0v.o hF (fun hF=>?_) (fun hF=>?_)
  |refine IdxX.o z07 hF (fun x hF=>?_)
  |refine z0m.o hF z9a (fun a h=>zar h) (fun a hF=>?_)
  |exact ⟨_,hF,LeX.a []⟩
  |refine And.intro ⟨by kernel_rfl,by kernel_rfl⟩ ?_
  |refine EqX.mk (by first|rfl|kernel_rfl) ?_
  |exact RetX.oA hF
def zrx (rF_tidegateref08_eval:z0i->z0h->Int->z01->Option (z02×Int))(a3:z01)(a2:Int)(a1:z0h)(a0:z0i)(v1_0:Int×(List z02)×(List Int)):AS:=⟨[(2,aI (a2)),(4,.ptr 4 0),(5,.ptr 5 0),(7,.ptr 7 0),(8,.ptr 8 0),(10,.row 7053),(11,.row 7058),(12,aI (v1_0.1))],[(4,.box 47 [aI (a0.fOp),.sl 8 (a0.fArgs.map idA),aI (a0.fVar),aI (a0.fField),aI (a0.fKind),aI (a0.fValue.fKind),aI (a0.fValue.fNum),.str (a0.fValue.fText)]),(5,.box 167 [.sl 1 (List.map (fun q=>AV.sl 5 (List.map z04 q)) (a1.fVars))]),(7,.box 66 [aI (a3.fSource),aI (a3.fSeq),aI (a3.fType),aI (a3.fTime),.sl 3 (a3.fValues.map z07)]),(8,.box 45 [aI (0),aI (0),.str (ByteArray.empty)]),(7053,.row 45 3 (v1_0.2.1.map z07)),(7058,.row 3 1 (v1_0.2.2.map aI))]⟩
theorem zqf {n rF_tidegateref08_eval a3 a2 a1 a0 k1_0_0}:z2d E0 71 (z6j n rF_tidegateref08_eval a3 a2 a1 a0 k1_0_0) (zrx rF_tidegateref08_eval a3 a2 a1 a0):=LoopA.oT fun _=>rfl
def zej (r:z02×Int):AV:=.tup [.agg [aI (r.1.fKind),aI (r.1.fNum),.str (r.1.fText)],aI (r.2)]
theorem ztd {n a0 a1 a2 a3 r}(hF:z52 n a0 a1 a2 a3=some r):Con E0 true 206 [.agg [aI (a0.fOp),.sl 8 (a0.fArgs.map idA),aI (a0.fVar),aI (a0.fField),aI (a0.fKind),aI (a0.fValue.fKind),aI (a0.fValue.fNum),.str (a0.fValue.fText)],.agg [.sl 1 (List.map (fun q=>AV.sl 5 (List.map z04 q)) (a1.fVars))],aI (a2),.agg [aI (a3.fSource),aI (a3.fSeq),aI (a3.fType),aI (a3.fTime),.sl 3 (a3.fValues.map z07)]] (zej r):=by
 induction n generalizing a0 a1 a2 a3 r
 case zero=>cases hF
 case succ n ih =>
 unfold z52 at hF
 refine Con.walk _ Tryz.func206 rfl (z06 Tryz.func206 rfl rfl) rfl (Or.inr rfl) ?_
 repeat' first
  |refine AW.step ?_;conv=>whnf
  |refine z0v.o hF (fun hF=>?_) (fun hF=>?_)
  |refine z0m.o hF zhx (fun a h=>zta h) (fun a hF=>?_)
  |refine zcc.o hF zf4 (fun a h=>zkr h) (fun _=>Or.inr rfl) (fun a hF=>?_)
  |refine zcc.o hF zhb (fun a h=>zqz h) (fun _=>Or.inr rfl) (fun a hF=>?_)
  |refine IdxX.oD hF z6b (fun x hF=>?_)
  |refine z0m.o hF zej (fun a h=>ih h) (fun a hF=>?_)
  |refine AppX.o z07 hF (by first|exact SubR.refl _|(repeat' first|exact SubR.nil|refine SubR.cons ?_ ?_|exact SubL.nil|refine SubL.cons ?_ ?_|exact Sub.refl _|exact Sub.nil _)) (fun l hF=>?_)
  |refine AppX.o aI hF (by first|exact SubR.refl _|(repeat' first|exact SubR.nil|refine SubR.cons ?_ ?_|exact SubL.nil|refine SubL.cons ?_ ?_|exact Sub.refl _|exact Sub.nil _)) (fun l hF=>?_)
  |exact ⟨_,hF,LeX.a [(7053,53),(7058,58)]⟩
  |refine zqf hF (LeX.trans (LeX.adopt 10 7053 45 3 rfl rfl) (LeX.trans (LeX.adopt 11 7058 3 1 rfl rfl) (LeX.a []))) (fun m v hF=>?_);unfold z6j at hF
  |refine And.intro ⟨by kernel_rfl,by kernel_rfl⟩ ?_
  |exact RetX.oA hF
def zi0 (r:z02×Int):AV:=.tup [.agg [aI (r.1.fKind),aI (r.1.fNum),.str (r.1.fText)],aI (r.2)]
theorem zte {n a0 a1 a2 a3 r}(hF:zbu n a0 a1 a2 a3=some r):Con E0 true 194 [.agg [aI (a0.fOp),.sl 8 (a0.fArgs.map idA),aI (a0.fVar),aI (a0.fField),aI (a0.fKind),aI (a0.fValue.fKind),aI (a0.fValue.fNum),.str (a0.fValue.fText)],.agg [.sl 1 (List.map (fun q=>AV.sl 5 (List.map z04 q)) (a1.fVars))],aI (a2),.agg [aI (a3.fSource),aI (a3.fSeq),aI (a3.fType),aI (a3.fTime),.sl 3 (a3.fValues.map z07)]] (zi0 r):=by
 unfold zbu at hF
 refine Con.walk _ Tryz.func194 rfl (z06 Tryz.func194 rfl rfl) rfl (Or.inr rfl) ?_
 repeat' first
  |refine AW.step ?_;conv=>whnf
  |refine z0v.o hF (fun hF=>?_) (fun hF=>?_)
  |refine z0m.o hF zay (fun a h=>zcm h) (fun a hF=>?_)
  |refine z0m.o hF zej (fun a h=>ztd h) (fun a hF=>?_)
  |exact RetX.oA hF
def zp4 (w1_0:Bool):AS:=⟨[(8,.bool (w1_0))],[]⟩
theorem znp {n}:z5l E0 26 (z3q n) zp4:=AW.jT
def zav (r:Bool):AV:=.bool (r)
end Go.Proofs.YtjpknpjjcddnnaaGreat
namespace Go.Proofs.YtjpknpjjcddnnaaGreat
open Go.RowKit
theorem zcl {n a0 a1 a2 a3 r}(hF:z29 n a0 a1 a2 a3=some r):Con E0 true 164 [.agg [aI (a0.fOp),.sl 8 (a0.fArgs.map idA),aI (a0.fVar),aI (a0.fField),aI (a0.fKind),aI (a0.fValue.fKind),aI (a0.fValue.fNum),.str (a0.fValue.fText)],.agg [.sl 1 (List.map (fun q=>AV.sl 5 (List.map z04 q)) (a1.fVars))],aI (a2),.agg [aI (a3.fSource),aI (a3.fSeq),aI (a3.fType),aI (a3.fTime),.sl 3 (a3.fValues.map z07)]] (zav r):=by
 unfold z29 at hF
 refine Con.walk _ Tryz.func164 rfl (z06 Tryz.func164 rfl rfl) rfl (Or.inr rfl) ?_
 repeat' first
  |refine znp hF (fun hF=>?_) (fun v hF=>?_);rotate_left;unfold z3q at hF
  |refine AW.regO hF (fun hF=>?_)
  |refine AW.stepU [2] ?_;conv=>whnf
  |refine z0v.o hF (fun hF=>?_) (fun hF=>?_)
  |refine z0m.o hF zi0 (fun a h=>zte h) (fun a hF=>?_)
  |refine z0m.o hF z9a (fun a h=>zar h) (fun a hF=>?_)
  |exact ⟨_,hF,LeX.a []⟩
  |refine And.intro ⟨by kernel_rfl,by kernel_rfl⟩ ?_
  |refine EqX.mk (by first|rfl|kernel_rfl) ?_
  |exact RetX.oA hF
def zdp (r:Int):AV:=aI (r)
theorem zfg {n a0 a1 r}(hF:z7o n a0 a1=some r):Con E0 true 49 [.agg [aI (a0.fTime),aI (a0.fSource),aI (a0.fSeq)],.agg [aI (a1.fTime),aI (a1.fSource),aI (a1.fSeq)]] (zdp r):=by
 unfold z7o at hF
 refine Con.walk _ Tryz.func49 rfl (z06 Tryz.func49 rfl rfl) rfl (Or.inr rfl) ?_
 repeat' first
  |refine AW.step ?_;conv=>whnf
  |refine z0v.o hF (fun hF=>?_) (fun hF=>?_)
  |exact RetX.oA hF
def zh7 (r:Int):AV:=aI (r)
theorem zqu {n a0 a1 r}(hF:z8y n a0 a1=some r):Con E0 true 82 [.agg [aI (a0.fVar),aI (a0.fRef.fTime),aI (a0.fRef.fSource),aI (a0.fRef.fSeq)],.agg [aI (a1.fVar),aI (a1.fRef.fTime),aI (a1.fRef.fSource),aI (a1.fRef.fSeq)]] (zh7 r):=by
 unfold z8y at hF
 refine Con.walk _ Tryz.func82 rfl (z06 Tryz.func82 rfl rfl) rfl (Or.inr rfl) ?_
 repeat' first
  |refine AW.step ?_;conv=>whnf
  |refine z0v.o hF (fun hF=>?_) (fun hF=>?_)
  |refine z0m.o hF zdp (fun a h=>zfg h) (fun a hF=>?_)
  |exact RetX.oA hF
def zl5 (a1:z03)(a0:z03)(v1_0:Int)(k1_0_0:Option (Int))(cv1_0:Int->Option (Int))(w3_1:Bool):AS:=⟨[(2,.ptr 2 0),(3,.ptr 3 0),(5,aI (v1_0)),(18,.bool (w3_1))],[(2,.box 83 [.sl 4 (a0.fBindings.map z0a)]),(3,.box 83 [.sl 4 (a1.fBindings.map z0a)])]⟩
theorem zkj {n a1 a0 v1_0 k1_0_0 cv1_0}:z5l E0 49 (z2k n a1 a0 v1_0 k1_0_0 cv1_0) (zl5 a1 a0 v1_0 k1_0_0 cv1_0):=AW.jT
def zl4 (a1:z03)(a0:z03)(v1_0:Int):AS:=⟨[(2,.ptr 2 0),(3,.ptr 3 0),(5,aI (v1_0))],[(2,.box 83 [.sl 4 (a0.fBindings.map z0a)]),(3,.box 83 [.sl 4 (a1.fBindings.map z0a)])]⟩
theorem zki {n a1 a0 k1_0_0}:z2d E0 49 (z1y n a1 a0 k1_0_0) (zl4 a1 a0):=LoopA.oT fun _=>rfl
def z9m (r:Int):AV:=aI (r)
theorem zbl {n a0 a1 r}(hF:z2n n a0 a1=some r):Con E0 true 44 [.agg [.sl 4 (a0.fBindings.map z0a)],.agg [.sl 4 (a1.fBindings.map z0a)]] (z9m r):=by
 unfold z2n at hF
 refine Con.walk _ Tryz.func44 rfl (z06 Tryz.func44 rfl rfl) rfl (Or.inr rfl) ?_
 repeat' first
  |refine zkj hF (fun hF=>?_) (fun v hF=>?_);rotate_left;unfold z2k at hF
  |refine AW.regO hF (fun hF=>?_)
  |refine AW.stepU [2] ?_;conv=>whnf
  |refine z0v.o hF (fun hF=>?_) (fun hF=>?_)
  |refine IdxX.o z0a hF (fun x hF=>?_)
  |refine z0m.o hF zh7 (fun a h=>zqu h) (fun a hF=>?_)
  |exact ⟨_,hF,LeX.a []⟩
  |exact ⟨_,hF,LeX.a []⟩
  |refine zki hF (LeX.a []) (fun m v hF=>?_);unfold z1y at hF
  |refine And.intro ⟨by kernel_rfl,by kernel_rfl⟩ ?_
  |exact RetX.oA hF
def zl2 (a1:z00)(a0:z00)(v1_0:Int)(cv1_0:Int->Option (Int))(x43:z0b)(x44:z0b)(w6_2:Bool):AS:=⟨[(2,.ptr 2 0),(3,.ptr 3 0),(6,aI (v1_0)),(7,.ptr 7 0),(8,.ptr 8 0),(71,.bool (w6_2))],[(2,.box 77 [aI (a0.fState),.sl 4 (a0.fBindings.map z0a),.sl 2 (a0.fStarts.map z08)]),(3,.box 77 [aI (a1.fState),.sl 4 (a1.fBindings.map z0a),.sl 2 (a1.fStarts.map z08)]),(7,.box 120 [aI (x43.fScope),aI (x43.fTime)]),(8,.box 120 [aI (x44.fScope),aI (x44.fTime)])]⟩
theorem zkg {n a1 a0 v1_0 cv1_0 x43 x44}:z5l E0 89 (z1x n a1 a0 v1_0 cv1_0 x43 x44) (zl2 a1 a0 v1_0 cv1_0 x43 x44):=AW.jT
def zl3 (a1:z00)(a0:z00)(v1_0:Int)(k1_0_0:Option (Int))(cv1_0:Int->Option (Int))(w5_1:Bool):AS:=⟨[(2,.ptr 2 0),(3,.ptr 3 0),(6,aI (v1_0)),(40,.bool (w5_1))],[(2,.box 77 [aI (a0.fState),.sl 4 (a0.fBindings.map z0a),.sl 2 (a0.fStarts.map z08)]),(3,.box 77 [aI (a1.fState),.sl 4 (a1.fBindings.map z0a),.sl 2 (a1.fStarts.map z08)])]⟩
theorem zkh {n a1 a0 v1_0 k1_0_0 cv1_0}:z5l E0 89 (z2j n a1 a0 v1_0 k1_0_0 cv1_0) (zl3 a1 a0 v1_0 k1_0_0 cv1_0):=AW.jT
def zl1 (a1:z00)(a0:z00)(v1_0:Int):AS:=⟨[(2,.ptr 2 0),(3,.ptr 3 0),(6,aI (v1_0))],[(2,.box 77 [aI (a0.fState),.sl 4 (a0.fBindings.map z0a),.sl 2 (a0.fStarts.map z08)]),(3,.box 77 [aI (a1.fState),.sl 4 (a1.fBindings.map z0a),.sl 2 (a1.fStarts.map z08)])]⟩
theorem zkf {n a1 a0 k1_0_0}:z2d E0 89 (z1w n a1 a0 k1_0_0) (zl1 a1 a0):=LoopA.oT fun _=>rfl
def zct (r:Int):AV:=aI (r)
theorem zen {n a0 a1 r}(hF:z4e n a0 a1=some r):Con E0 true 28 [.agg [aI (a0.fState),.sl 4 (a0.fBindings.map z0a),.sl 2 (a0.fStarts.map z08)],.agg [aI (a1.fState),.sl 4 (a1.fBindings.map z0a),.sl 2 (a1.fStarts.map z08)]] (zct r):=by
 unfold z4e at hF
 refine Con.walk _ Tryz.func28 rfl (z06 Tryz.func28 rfl rfl) rfl (Or.inr rfl) ?_
 repeat' first
  |refine zkg hF (fun hF=>?_) (fun v hF=>?_);rotate_left;unfold z1x at hF
  |refine zkh hF (fun hF=>?_) (fun v hF=>?_);rotate_left;unfold z2j at hF
  |refine AW.regO hF (fun hF=>?_)
  |refine AW.stepU [9,12] ?_;conv=>whnf
  |refine z0v.o hF (fun hF=>?_) (fun hF=>?_)
  |refine z0m.o hF z9m (fun a h=>zbl h) (fun a hF=>?_)
  |refine IdxX.o z08 hF (fun x hF=>?_)
  |exact ⟨_,hF,LeX.a []⟩
  |exact ⟨_,hF,LeX.a []⟩
  |exact ⟨_,hF,LeX.a []⟩
  |refine zkf hF (LeX.a []) (fun m v hF=>?_);unfold z1w at hF
  |refine And.intro ⟨by kernel_rfl,by kernel_rfl⟩ ?_
  |refine EqX.mk (by first|rfl|kernel_rfl) ?_
  |exact RetX.oA hF
def zto (a1:z00)(a0:(List z00))(k1_0_0y:Int)(w3_1:Bool):AS:=⟨[(0,.sl 3 (a0.map z0e)),(3,.ptr 3 0),(5,aI (k1_0_0y)),(34,.bool (w3_1))],[(3,.box 77 [aI (a1.fState),.sl 4 (a1.fBindings.map z0a),.sl 2 (a1.fStarts.map z08)])]⟩
theorem zsg {n a1 a0 k1_0_0y}:z5l E0 49 (z58 n a1 a0 k1_0_0y) (zto a1 a0 k1_0_0y):=AW.jT
def ztn (a1:z00)(a0:(List z00))(v1_0:Int)(k1_0_0:Int->Option ((List z00)))(cv1_0:Int->Option ((List z00)))(w4_2:Bool):AS:=⟨[(0,.sl 3 (a0.map z0e)),(3,.ptr 3 0),(5,aI (v1_0)),(19,.bool (w4_2))],[(3,.box 77 [aI (a1.fState),.sl 4 (a1.fBindings.map z0a),.sl 2 (a1.fStarts.map z08)])]⟩
theorem zsf {n a1 a0 v1_0 k1_0_0 cv1_0}:z5l E0 49 (z57 n a1 a0 v1_0 k1_0_0 cv1_0) (ztn a1 a0 v1_0 k1_0_0 cv1_0):=AW.jT
def ztm (a1:z00)(a0:(List z00))(v1_0:Int):AS:=⟨[(0,.sl 3 (a0.map z0e)),(3,.ptr 3 0),(5,aI (v1_0))],[(3,.box 77 [aI (a1.fState),.sl 4 (a1.fBindings.map z0a),.sl 2 (a1.fStarts.map z08)])]⟩
theorem zse {n a1 a0 k1_0_0}:z2d E0 49 (z3c n a1 a0 k1_0_0) (ztm a1 a0):=LoopA.oT fun _=>rfl
def zcr (r:(List z00)):AV:=.sl 3 (r.map z0e)
theorem zdj {n a0 a1 r}(hF:z7d n a0 a1=some r):Con E0 false 91 [.sl 3 (a0.map z0e),.agg [aI (a1.fState),.sl 4 (a1.fBindings.map z0a),.sl 2 (a1.fStarts.map z08)]] (zcr r):=by
 unfold z7d at hF
 refine Con.walk _ Tryz.func91 rfl (z06 Tryz.func91 rfl rfl) rfl (Or.inl rfl) ?_
 repeat' first
  |refine zsg hF (fun hF=>?_) (fun v hF=>?_);rotate_left;unfold z58 at hF
  |refine zsf hF (fun hF=>?_) (fun v hF=>?_);rotate_left;unfold z57 at hF
  |refine AW.regO hF (fun hF=>?_)
  |refine AW.stepU [2,4] ?_;conv=>whnf
  |refine z0v.o hF (fun hF=>?_) (fun hF=>?_)
  |refine SlsX.o z0e hF (fun l hF=>?_)
  |refine AppX.o0 z0e hF (by first|exact SubR.refl _|(repeat' first|exact SubR.nil|refine SubR.cons ?_ ?_|exact SubL.nil|refine SubL.cons ?_ ?_|exact Sub.refl _|exact Sub.nil _)) (fun l hF=>?_)
  |refine AppX.o z0e hF (by first|exact SubR.refl _|(repeat' first|exact SubR.nil|refine SubR.cons ?_ ?_|exact SubL.nil|refine SubL.cons ?_ ?_|exact Sub.refl _|exact Sub.nil _)) (fun l hF=>?_)
  |refine IdxX.o z0e hF (fun x hF=>?_)
  |refine z0m.o hF zct (fun a h=>zen h) (fun a hF=>?_)
  |exact ⟨_,hF,LeX.a []⟩
  |exact ⟨_,hF,LeX.a []⟩
  |refine zse hF (LeX.a []) (fun m v hF=>?_);unfold z3c at hF
  |refine And.intro ⟨by kernel_rfl,by kernel_rfl⟩ ?_
  |exact RetX.oA hF
def zxo (w1_0:Bool):AS:=⟨[(2,.bool (w1_0))],[]⟩
theorem zxf {n}:z5l E0 9 (z54 n) zxo:=AW.jT
def zgq (r:Bool):AV:=.bool (r)
theorem zj9 {n a0 r}(hF:z9z n a0=some r):Con E0 true 236 [aI (a0)] (zgq r):=by
 unfold z9z at hF
 refine Con.walk _ Tryz.func236 rfl (z06 Tryz.func236 rfl rfl) rfl (Or.inr rfl) ?_
 repeat' first
  |refine zxf hF (fun hF=>?_) (fun v hF=>?_);rotate_left;unfold z54 at hF
  |refine AW.regO hF (fun hF=>?_)
  |refine AW.stepU [1] ?_;conv=>whnf
  |refine z0v.o hF (fun hF=>?_) (fun hF=>?_)
  |exact ⟨_,hF,LeX.a []⟩
  |exact RetX.oA hF
def zxn (w1_0:Bool):AS:=⟨[(4,.bool (w1_0))],[]⟩
theorem zxe {n}:z5l E0 20 (z3k n) zxn:=AW.jT
def zgp (r:Bool):AV:=.bool (r)
theorem zj8 {n a0 a1 r}(hF:z9y n a0 a1=some r):Con E0 true 246 [aI (a0),.agg [aI (a1.fKind),aI (a1.fNum),.str (a1.fText)]] (zgp r):=by
 unfold z9y at hF
 refine Con.walk _ Tryz.func246 rfl (z06 Tryz.func246 rfl rfl) rfl (Or.inr rfl) ?_
 repeat' first
  |refine zxe hF (fun hF=>?_) (fun v hF=>?_);rotate_left;unfold z3k at hF
  |refine AW.regO hF (fun hF=>?_)
  |refine AW.stepU [1] ?_;conv=>whnf
  |refine z0v.o hF (fun hF=>?_) (fun hF=>?_)
  |refine z0v.f ?_
  |exact ⟨_,hF,LeX.a []⟩
  |exact RetX.oA hF
def zgo (r:Int):AV:=aI (r)
theorem zj7 {n a0 a1 r}(hF:z8q n a0 a1=some r):Con E0 true 237 [aI (a0),.agg [aI (a1.fKind),aI (a1.fNum),.str (a1.fText)]] (zgo r):=by
 unfold z8q at hF
 refine Con.walk _ Tryz.func237 rfl (z06 Tryz.func237 rfl rfl) rfl (Or.inr rfl) ?_
 repeat' first
  |refine AW.step ?_;conv=>whnf
  |refine z0v.o hF (fun hF=>?_) (fun hF=>?_)
  |refine z0m.o hF zfl (fun a h=>zfb h) (fun a hF=>?_)
  |refine z0m.o hF zgp (fun a h=>zj8 h) (fun a hF=>?_)
  |exact RetX.oA hF
def zln (r:z02):AV:=.agg [aI (r.fKind),aI (r.fNum),.str (r.fText)]
theorem zx5 {n a0 a1 r}(hF:zdf n a0 a1=some r):Con E0 true 241 [aI (a0),.agg [aI (a1.fKind),aI (a1.fNum),.str (a1.fText)]] (zln r):=by
 unfold zdf at hF
 refine Con.walk _ Tryz.func241 rfl (z06 Tryz.func241 rfl rfl) rfl (Or.inr rfl) ?_
 repeat' first
  |refine AW.step ?_;conv=>whnf
  |refine z0v.o hF (fun hF=>?_) (fun hF=>?_)
  |exact RetX.oA hF
def zhh (r:z02):AV:=.agg [aI (r.fKind),aI (r.fNum),.str (r.fText)]
theorem zrb {n r}(hF:zbk n=some r):Con E0 true 249 [] (zhh r):=by
 unfold zbk at hF
 refine Con.walk _ Tryz.func249 rfl (z06 Tryz.func249 rfl rfl) rfl (Or.inr rfl) ?_
 repeat' first
  |refine AW.step ?_;conv=>whnf
  |exact RetX.oA hF
def zwj (m0:z02)(m1:z02):List (Nat×Ent):=[(100000,.box 45 [aI (m0.fKind),aI (m0.fNum),.str (m0.fText)]),(100001,.box 45 [aI (m1.fKind),aI (m1.fNum),.str (m1.fText)])]
def zb5 (r:z02×z02×z02):List (Nat×Ent):=[(2,.box 45 [aI (r.1.fKind),aI (r.1.fNum),.str (r.1.fText)]),(100000,.box 45 [aI (r.2.1.fKind),aI (r.2.1.fNum),.str (r.2.1.fText)]),(100001,.box 45 [aI (r.2.2.fKind),aI (r.2.2.fNum),.str (r.2.2.fText)])]
def zdy (r:z02×z02×z02):AV:=.agg [aI (r.1.fKind),aI (r.1.fNum),.str (r.1.fText)]
def zvu (r:z02×z02×z02):AS:=⟨[(2,.ptr 2 0),(0,.ptr 100000 0),(1,.ptr 100001 0)],zb5 r⟩
end Go.Proofs.YtjpknpjjcddnnaaGreat
namespace Go.Proofs.YtjpknpjjcddnnaaGreat
open Go.RowKit
theorem zra {n m0 m1 r}(hF:zbj n m0 m1=some r):ConG E0.P none (CalF E0.P 250 0) [.ptr 100000 0,.ptr 100001 0] [] (zwj m0 m1) (zdy r) (zb5 r):=by
 unfold zbj at hF
 refine ConG.walk (E:=(E0p 2)) (caps:=[]) _ Tryz.func250 rfl rfl rfl rfl rfl ?_
 repeat' first
  |refine AW.step ?_;conv=>whnf
  |refine GX.o (res:=zdy) (meF:=zb5) hF ?_;exact GX.mk (zvu _) (LeX.a []) rfl _ rfl (by repeat' first|exact Sub.nil _|exact Sub.refl _|refine Sub.agg ?_|refine Sub.tup ?_|refine Sub.fn ?_|exact SubL.nil|refine SubL.cons ?_ ?_|refine Sub.sl _ ?_|exact SubE.nil|refine SubE.cons ?_ ?_) [] trivial rfl
def zwi (m0:z02)(m1:z02):List (Nat×Ent):=[(100000,.box 45 [aI (m0.fKind),aI (m0.fNum),.str (m0.fText)]),(100001,.box 45 [aI (m1.fKind),aI (m1.fNum),.str (m1.fText)])]
def zb4 (r:z02×z02×z02):List (Nat×Ent):=[(2,.box 45 [aI (r.1.fKind),aI (r.1.fNum),.str (r.1.fText)]),(100000,.box 45 [aI (r.2.1.fKind),aI (r.2.1.fNum),.str (r.2.1.fText)]),(100001,.box 45 [aI (r.2.2.fKind),aI (r.2.2.fNum),.str (r.2.2.fText)])]
def zdx (r:z02×z02×z02):AV:=.agg [aI (r.1.fKind),aI (r.1.fNum),.str (r.1.fText)]
def zvt (r:z02×z02×z02):AS:=⟨[(2,.ptr 2 0),(0,.ptr 100000 0),(1,.ptr 100001 0)],zb4 r⟩
theorem zr9 {n m0 m1 r}(hF:zbi n m0 m1=some r):ConG E0.P none (CalF E0.P 251 0) [.ptr 100000 0,.ptr 100001 0] [] (zwi m0 m1) (zdx r) (zb4 r):=by
 unfold zbi at hF
 refine ConG.walk (E:=(E0p 2)) (caps:=[]) _ Tryz.func251 rfl rfl rfl rfl rfl ?_
 repeat' first
  |refine AW.step ?_;conv=>whnf
  |refine GX.o (res:=zdx) (meF:=zb4) hF ?_;exact GX.mk (zvt _) (LeX.a []) rfl _ rfl (by repeat' first|exact Sub.nil _|exact Sub.refl _|refine Sub.agg ?_|refine Sub.tup ?_|refine Sub.fn ?_|exact SubL.nil|refine SubL.cons ?_ ?_|refine Sub.sl _ ?_|exact SubE.nil|refine SubE.cons ?_ ?_) [] trivial rfl
def zwh (m0:z02)(m1:z02):List (Nat×Ent):=[(100000,.box 45 [aI (m0.fKind),aI (m0.fNum),.str (m0.fText)]),(100001,.box 45 [aI (m1.fKind),aI (m1.fNum),.str (m1.fText)])]
def zb3 (r:z02×z02×z02):List (Nat×Ent):=[(2,.box 45 [aI (r.1.fKind),aI (r.1.fNum),.str (r.1.fText)]),(100000,.box 45 [aI (r.2.1.fKind),aI (r.2.1.fNum),.str (r.2.1.fText)]),(100001,.box 45 [aI (r.2.2.fKind),aI (r.2.2.fNum),.str (r.2.2.fText)])]
def zdw (r:z02×z02×z02):AV:=.agg [aI (r.1.fKind),aI (r.1.fNum),.str (r.1.fText)]
def zvs (r:z02×z02×z02):AS:=⟨[(2,.ptr 2 0),(0,.ptr 100000 0),(1,.ptr 100001 0)],zb3 r⟩
theorem zr8 {n m0 m1 r}(hF:zbh n m0 m1=some r):ConG E0.P none (CalF E0.P 252 0) [.ptr 100000 0,.ptr 100001 0] [] (zwh m0 m1) (zdw r) (zb3 r):=by
 unfold zbh at hF
 refine ConG.walk (E:=(E0p 2)) (caps:=[]) _ Tryz.func252 rfl rfl rfl rfl rfl ?_
 repeat' first
  |refine AW.step ?_;conv=>whnf
  |refine GX.o (res:=zdw) (meF:=zb3) hF ?_;exact GX.mk (zvs _) (LeX.a []) rfl _ rfl (by repeat' first|exact Sub.nil _|exact Sub.refl _|refine Sub.agg ?_|refine Sub.tup ?_|refine Sub.fn ?_|exact SubL.nil|refine SubL.cons ?_ ?_|refine Sub.sl _ ?_|exact SubE.nil|refine SubE.cons ?_ ?_) [] trivial rfl
def zwg (m0:z02):List (Nat×Ent):=[(100000,.box 45 [aI (m0.fKind),aI (m0.fNum),.str (m0.fText)])]
def zb2 (r:z02×z02):List (Nat×Ent):=[(1,.box 45 [aI (r.1.fKind),aI (r.1.fNum),.str (r.1.fText)]),(100000,.box 45 [aI (r.2.fKind),aI (r.2.fNum),.str (r.2.fText)])]
def zdv (r:z02×z02):AV:=.agg [aI (r.1.fKind),aI (r.1.fNum),.str (r.1.fText)]
def zvr (r:z02×z02):AS:=⟨[(1,.ptr 1 0),(0,.ptr 100000 0)],zb2 r⟩
theorem zr7 {n m0 r}(hF:zbg n m0=some r):ConG E0.P none (CalF E0.P 253 0) [.ptr 100000 0] [] (zwg m0) (zdv r) (zb2 r):=by
 unfold zbg at hF
 refine ConG.walk (E:=(E0p 1)) (caps:=[]) _ Tryz.func253 rfl rfl rfl rfl rfl ?_
 repeat' first
  |refine AW.step ?_;conv=>whnf
  |refine GX.o (res:=zdv) (meF:=zb2) hF ?_;exact GX.mk (zvr _) (LeX.a []) rfl _ rfl (by repeat' first|exact Sub.nil _|exact Sub.refl _|refine Sub.agg ?_|refine Sub.tup ?_|refine Sub.fn ?_|exact SubL.nil|refine SubL.cons ?_ ?_|refine Sub.sl _ ?_|exact SubE.nil|refine SubE.cons ?_ ?_) [] trivial rfl
def zwf (m0:z02):List (Nat×Ent):=[(100000,.box 45 [aI (m0.fKind),aI (m0.fNum),.str (m0.fText)])]
def zb1 (r:z02×z02):List (Nat×Ent):=[(1,.box 45 [aI (r.1.fKind),aI (r.1.fNum),.str (r.1.fText)]),(100000,.box 45 [aI (r.2.fKind),aI (r.2.fNum),.str (r.2.fText)])]
def zdu (r:z02×z02):AV:=.agg [aI (r.1.fKind),aI (r.1.fNum),.str (r.1.fText)]
def zvq (r:z02×z02):AS:=⟨[(1,.ptr 1 0),(0,.ptr 100000 0)],zb1 r⟩
theorem zr6 {n m0 r}(hF:zbf n m0=some r):ConG E0.P none (CalF E0.P 254 0) [.ptr 100000 0] [] (zwf m0) (zdu r) (zb1 r):=by
 unfold zbf at hF
 refine ConG.walk (E:=(E0p 1)) (caps:=[]) _ Tryz.func254 rfl rfl rfl rfl rfl ?_
 repeat' first
  |refine AW.step ?_;conv=>whnf
  |refine GX.o (res:=zdu) (meF:=zb1) hF ?_;exact GX.mk (zvq _) (LeX.a []) rfl _ rfl (by repeat' first|exact Sub.nil _|exact Sub.refl _|refine Sub.agg ?_|refine Sub.tup ?_|refine Sub.fn ?_|exact SubL.nil|refine SubL.cons ?_ ?_|refine Sub.sl _ ?_|exact SubE.nil|refine SubE.cons ?_ ?_) [] trivial rfl
def zk2 (r:z02):AV:=.agg [aI (r.fKind),aI (r.fNum),.str (r.fText)]
theorem zvd {n a0 a1 a2 r}(hF:zap n a0 a1 a2=some r):Con E0 true 247 [aI (a0),.agg [aI (a1.fKind),aI (a1.fNum),.str (a1.fText)],.agg [aI (a2.fKind),aI (a2.fNum),.str (a2.fText)]] (zk2 r):=by
 unfold zap at hF
 refine Con.walk _ Tryz.func247 rfl (z06 Tryz.func247 rfl rfl) rfl (Or.inr rfl) ?_
 repeat' first
  |refine AW.step ?_;conv=>whnf
  |refine NatX.oS hF rfl (fun hF=>?_) (fun hF=>?_)
  |(cases hF;done)
  |refine z0m.o hF zhh (fun a h=>zrb h) (fun a hF=>?_)
  |refine zcc.oM (zcq 15 hF) [(100000,4),(100001,5)] [(2,16000000),(100000,4),(100001,5)] _ _ zb5 zdy [] (fun a h=>ConG.up (zra h)) (z06 Tryz.func250 rfl rfl) rfl rfl rfl ⟨⟨rfl,rfl⟩,⟨⟨rfl,rfl⟩,trivial⟩⟩ (fun a=>⟨rfl,rfl,rfl,rfl,rfl,rfl,rfl,rfl⟩) (fun a hF=>?_)
  |refine zcc.oM (zcq 15 hF) [(100000,4),(100001,5)] [(2,16000000),(100000,4),(100001,5)] _ _ zb4 zdx [] (fun a h=>ConG.up (zr9 h)) (z06 Tryz.func251 rfl rfl) rfl rfl rfl ⟨⟨rfl,rfl⟩,⟨⟨rfl,rfl⟩,trivial⟩⟩ (fun a=>⟨rfl,rfl,rfl,rfl,rfl,rfl,rfl,rfl⟩) (fun a hF=>?_)
  |refine zcc.oM (zcq 15 hF) [(100000,4),(100001,5)] [(2,16000000),(100000,4),(100001,5)] _ _ zb3 zdw [] (fun a h=>ConG.up (zr8 h)) (z06 Tryz.func252 rfl rfl) rfl rfl rfl ⟨⟨rfl,rfl⟩,⟨⟨rfl,rfl⟩,trivial⟩⟩ (fun a=>⟨rfl,rfl,rfl,rfl,rfl,rfl,rfl,rfl⟩) (fun a hF=>?_)
  |refine zcc.oM (zcq 15 hF) [(100000,4)] [(1,16000000),(100000,4)] _ _ zb2 zdv [] (fun a h=>ConG.up (zr7 h)) (z06 Tryz.func253 rfl rfl) rfl rfl rfl ⟨⟨rfl,rfl⟩,trivial⟩ (fun a=>⟨rfl,rfl,rfl,rfl,rfl,rfl,rfl,rfl⟩) (fun a hF=>?_)
  |refine zcc.oM (zcq 15 hF) [(100000,5)] [(1,16000000),(100000,5)] _ _ zb1 zdu [] (fun a h=>ConG.up (zr6 h)) (z06 Tryz.func254 rfl rfl) rfl rfl rfl ⟨⟨rfl,rfl⟩,trivial⟩ (fun a=>⟨rfl,rfl,rfl,rfl,rfl,rfl,rfl,rfl⟩) (fun a hF=>?_)
  |exact RetX.oA hF
def zlo (r:z0k):AV:=.agg [aI (r.fKind),aI (r.fCount),aI (r.fValue.fKind),aI (r.fValue.fNum),.str (r.fValue.fText)]
theorem zx6 {n a0 a1 r}(hF:zdg n a0 a1=some r):Con E0 true 240 [.agg [aI (a0.fKind),aI (a0.fCount),aI (a0.fValue.fKind),aI (a0.fValue.fNum),.str (a0.fValue.fText)],.agg [aI (a1.fKind),aI (a1.fCount),aI (a1.fValue.fKind),aI (a1.fValue.fNum),.str (a1.fValue.fText)]] (zlo r):=by
 unfold zdg at hF
 refine Con.walk _ Tryz.func240 rfl (z06 Tryz.func240 rfl rfl) rfl (Or.inr rfl) ?_
 repeat' first
  |refine AW.step ?_;conv=>whnf
  |refine z0v.o hF (fun hF=>?_) (fun hF=>?_)
  |refine z0m.o hF zk2 (fun a h=>zvd h) (fun a hF=>?_)
  |refine And.intro ⟨by kernel_rfl,by kernel_rfl⟩ ?_
  |exact RetX.oA hF
def zsc (r:z0k):AV:=.agg [aI (r.fKind),aI (r.fCount),aI (r.fValue.fKind),aI (r.fValue.fNum),.str (r.fValue.fText)]
theorem zzi {n a0 a1 a2 r}(hF:zew n a0 a1 a2=some r):Con E0 true 239 [.agg [aI (a0.fKind),aI (a0.fCount),aI (a0.fValue.fKind),aI (a0.fValue.fNum),.str (a0.fValue.fText)],.agg [aI (a1.fKind),aI (a1.fNum),.str (a1.fText)],.ref [aI (a2)]] (zsc r):=by
 unfold zew at hF
 refine Con.walk _ Tryz.func239 rfl (z06 Tryz.func239 rfl rfl) rfl (Or.inr rfl) ?_
 repeat' first
  |refine AW.step ?_;conv=>whnf
  |refine z0m.o hF zln (fun a h=>zx5 h) (fun a hF=>?_)
  |refine z0m.o hF zlo (fun a h=>zx6 h) (fun a hF=>?_)
  |refine And.intro ⟨by kernel_rfl,by kernel_rfl⟩ ?_
  |exact RetX.oA hF
def zw4 (a2c0:Int)(a1:(List z02))(v1_0:Int×Int×Int×Int×Int×ByteArray):AS:=⟨[(2,.fn 239 [.ref [aI (a2c0)]]),(3,.ptr 3 0),(6,.ptr 6 0),(9,.sl 3 (a1.map z07)),(10,aI (((a1.map z07).length:Int))),(11,aI (v1_0.1))],[(3,.box 275 [aI (v1_0.2.1),aI (v1_0.2.2.1),aI (v1_0.2.2.2.1),aI (v1_0.2.2.2.2.1),.str (v1_0.2.2.2.2.2)]),(6,.box 275 [aI (0),aI (0),aI (0),aI (0),.str (ByteArray.empty)])]⟩
theorem zvn {n a2c0 a1 k1_0_0}:z2d E0 21 (z7u n a2c0 a1 k1_0_0) (zw4 a2c0 a1):=LoopA.oT fun _=>rfl
def zlp (r:z0k):AV:=.agg [aI (r.fKind),aI (r.fCount),aI (r.fValue.fKind),aI (r.fValue.fNum),.str (r.fValue.fText)]
theorem zx7 {n a0 a1 a2c0 r}(hF:zbe n a0 a1 a2c0=some r):Con E0 true 238 [.agg [aI (a0.fKind),aI (a0.fCount),aI (a0.fValue.fKind),aI (a0.fValue.fNum),.str (a0.fValue.fText)],.sl 3 (a1.map z07),.fn 239 [.ref [aI (a2c0)]]] (zlp r):=by
 unfold zbe at hF
 refine Con.walk _ Tryz.func238 rfl (z06 Tryz.func238 rfl rfl) rfl (Or.inr rfl) ?_
 repeat' first
  |refine AW.step ?_;conv=>whnf
  |refine z0v.o hF (fun hF=>?_) (fun hF=>?_)
  |refine IdxX.o z07 hF (fun x hF=>?_)
  |refine z0m.o hF zsc (fun a h=>zzi h) (fun a hF=>?_)
  |exact ⟨_,hF,LeX.a []⟩
  |refine zvn hF (LeX.a []) (fun m v hF=>?_);unfold z7u at hF
  |exact RetX.oA hF
def zxp (a0:z0k)(w1_0:Bool):AS:=⟨[(1,.ptr 1 0),(10,.bool (w1_0))],[(1,.box 275 [aI (a0.fKind),aI (a0.fCount),aI (a0.fValue.fKind),aI (a0.fValue.fNum),.str (a0.fValue.fText)])]⟩
theorem zxg {n a0}:z5l E0 77 (z6q n a0) (zxp a0):=AW.jT
def zpt (r:Int):AV:=aI (r)
theorem zyj {n a0 r}(hF:zcb n a0=some r):Con E0 true 248 [.agg [aI (a0.fKind),aI (a0.fCount),aI (a0.fValue.fKind),aI (a0.fValue.fNum),.str (a0.fValue.fText)]] (zpt r):=by
 unfold zcb at hF
 refine Con.walk _ Tryz.func248 rfl (z06 Tryz.func248 rfl rfl) rfl (Or.inr rfl) ?_
 repeat' first
  |refine zxg hF (fun hF=>?_) (fun v hF=>?_);rotate_left;unfold z6q at hF
  |refine AW.regO hF (fun hF=>?_)
  |refine AW.stepU [3,7,9,11,6] ?_;conv=>whnf
  |refine z0v.o hF (fun hF=>?_) (fun hF=>?_)
  |refine z0v.t ?_
  |refine z0v.f ?_
  |refine z0m.o hF zgq (fun a h=>zj9 h) (fun a hF=>?_)
  |refine z0m.o hF zfl (fun a h=>zfb h) (fun a hF=>?_)
  |refine z0m.o hF zgp (fun a h=>zj8 h) (fun a hF=>?_)
  |exact ⟨_,hF,LeX.a []⟩
  |refine EqX.mk (by first|rfl|kernel_rfl) ?_
  |exact RetX.oA hF
def zw5 (a1:z02)(a0:z0k)(w1_0:Bool):AS:=⟨[(2,.ptr 2 0),(3,.ptr 3 0),(4,.ptr 4 0),(29,.bool (w1_0))],[(2,.box 275 [aI (a0.fKind),aI (a0.fCount),aI (a0.fValue.fKind),aI (a0.fValue.fNum),.str (a0.fValue.fText)]),(3,.box 45 [aI (a1.fKind),aI (a1.fNum),.str (a1.fText)]),(4,.box 45 [aI (0),aI (0),.str (ByteArray.empty)])]⟩
theorem zvo {n a1 a0}:z5l E0 41 (z6a n a1 a0) (zw5 a1 a0):=AW.jT
def zlq (r:z02×Int):AV:=.tup [.agg [aI (r.1.fKind),aI (r.1.fNum),.str (r.1.fText)],aI (r.2)]
theorem zx8 {n a0 a1 r}(hF:z99 n a0 a1=some r):Con E0 true 242 [.agg [aI (a0.fKind),aI (a0.fCount),aI (a0.fValue.fKind),aI (a0.fValue.fNum),.str (a0.fValue.fText)],.agg [aI (a1.fKind),aI (a1.fNum),.str (a1.fText)]] (zlq r):=by
 unfold z99 at hF
 refine Con.walk _ Tryz.func242 rfl (z06 Tryz.func242 rfl rfl) rfl (Or.inr rfl) ?_
 repeat' first
  |refine zvo hF (fun hF=>?_) (fun v hF=>?_);rotate_left;unfold z6a at hF
  |refine AW.regO hF (fun hF=>?_)
  |refine AW.stepU [9] ?_;conv=>whnf
  |refine z0v.o hF (fun hF=>?_) (fun hF=>?_)
  |refine z0m.o hF zpt (fun a h=>zyj h) (fun a hF=>?_)
  |refine z0m.o hF zgo (fun a h=>zj7 h) (fun a hF=>?_)
  |exact ⟨_,hF,LeX.a []⟩
  |exact RetX.oA hF
def S_aggregate_Of_l1 (a2:z02)(a1:(List z02))(a0:Int)(v1_0:Int):AS:=⟨[(1,.sl 3 (a1.map z07)),(3,.ptr 3 0),(5,.ptr 5 0),(6,.ptr 6 0),(22,.sl 3 (a1.map z07)),(23,aI (((a1.map z07).length:Int))),(24,aI (v1_0))],[(3,.box 3 [aI (a0)]),(5,.box 45 [aI (a2.fKind),aI (a2.fNum),.str (a2.fText)]),(6,.box 45 [aI (0),aI (0),.str (ByteArray.empty)])]⟩
theorem aggregate_Of_l1_o {n a2 a1 a0 k1_0_0}:z2d E0 46 (za0 n a2 a1 a0 k1_0_0) (S_aggregate_Of_l1 a2 a1 a0):=LoopA.oT fun _=>rfl
def zy1 (r:z02×Int):AV:=.tup [.agg [aI (r.1.fKind),aI (r.1.fNum),.str (r.1.fText)],aI (r.2)]
theorem con_aggregate_Of {n a0 a1 a2 r}(hF:zd7 n a0 a1 a2=some r):Con E0 true 232 [aI (a0),.sl 3 (a1.map z07),.agg [aI (a2.fKind),aI (a2.fNum),.str (a2.fText)]] (zy1 r):=by
 unfold zd7 at hF
 refine Con.walk _ Tryz.func232 rfl (z06 Tryz.func232 rfl rfl) rfl (Or.inr rfl) ?_
 repeat' first
  |refine AW.step ?_;conv=>whnf
  |refine z0v.o hF (fun hF=>?_) (fun hF=>?_)
  |refine z0m.o hF zgq (fun a h=>zj9 h) (fun a hF=>?_)
  |refine zcc.o hF zlp (fun a h=>zx7 h) (fun _=>Or.inr rfl) (fun a hF=>?_)
  |refine z0m.o hF zlq (fun a h=>zx8 h) (fun a hF=>?_)
  |refine IdxX.o z07 hF (fun x hF=>?_)
  |refine z0m.o hF zgo (fun a h=>zj7 h) (fun a hF=>?_)
  |exact ⟨_,hF,LeX.a []⟩
  |refine aggregate_Of_l1_o hF (LeX.a []) (fun m v hF=>?_);unfold za0 at hF
  |exact RetX.oA hF
def R_cmp_isNaN (r:Bool):AV:=.bool (r)
theorem con_cmp_isNaN {n a0 r}(hF:zk7 n a0=some r):Con E0 true 112 [aI (a0)] (R_cmp_isNaN r):=by
 unfold zk7 at hF
 refine Con.walk _ Tryz.func112 rfl (z06 Tryz.func112 rfl rfl) rfl (Or.inr rfl) ?_
 repeat' first
  |refine AW.step ?_;conv=>whnf
  |exact RetX.oA hF
def zcw (r:Int):AV:=aI (r)
theorem zbw {n a0 a1 r}(hF:z4p n a0 a1=some r):Con E0 true 81 [aI (a0),aI (a1)] (zcw r):=by
 unfold z4p at hF
 refine Con.walk _ Tryz.func81 rfl (z06 Tryz.func81 rfl rfl) rfl (Or.inr rfl) ?_
 repeat' first
  |refine AW.step ?_;conv=>whnf
  |refine z0v.o hF (fun hF=>?_) (fun hF=>?_)
  |refine z0m.o hF R_cmp_isNaN (fun a h=>con_cmp_isNaN h) (fun a hF=>?_)
  |exact RetX.oA hF
def S_cmp_Or_l1 (a0:(List Int))(v1_0:Int):AS:=⟨[(3,aI (0)),(6,.sl 1 (a0.map aI)),(7,aI (((a0.map aI).length:Int))),(8,aI (v1_0))],[]⟩
end Go.Proofs.YtjpknpjjcddnnaaGreat
namespace Go.Proofs.YtjpknpjjcddnnaaGreat
open Go.RowKit
theorem cmp_Or_l1_o {n a0 k1_0_0}:z2d E0 18 (zgs n a0 k1_0_0) (S_cmp_Or_l1 a0):=LoopA.oT fun _=>rfl
def zwx (r:Int):AV:=aI (r)
theorem zol {n a0 r}(hF:zg1 n a0=some r):Con E0 true 79 [.sl 1 (a0.map aI)] (zwx r):=by
 unfold zg1 at hF
 refine Con.walk _ Tryz.func79 rfl (z06 Tryz.func79 rfl rfl) rfl (Or.inr rfl) ?_
 repeat' first
  |refine AW.step ?_;conv=>whnf
  |refine z0v.o hF (fun hF=>?_) (fun hF=>?_)
  |refine IdxX.o aI hF (fun x hF=>?_)
  |exact ⟨_,hF,LeX.a []⟩
  |refine cmp_Or_l1_o hF (LeX.a []) (fun m v hF=>?_);unfold zgs at hF
  |exact RetX.oA hF
def R_match_refs (r:Int):AV:=aI (r)
theorem con_match_refs {n a0 a1 r}(hF:zhl n a0 a1=some r):Con E0 true 80 [.agg [aI (a0.fTime),aI (a0.fSource),aI (a0.fSeq)],.agg [aI (a1.fTime),aI (a1.fSource),aI (a1.fSeq)]] (R_match_refs r):=by
 unfold zhl at hF
 refine Con.walk _ Tryz.func80 rfl (z06 Tryz.func80 rfl rfl) rfl (Or.inr rfl) ?_
 repeat' first
  |refine AW.step ?_;conv=>whnf
  |refine z0m.o hF zcw (fun a h=>zbw h) (fun a hF=>?_)
  |refine z0m.o hF zwx (fun a h=>zol h) (fun a hF=>?_)
  |refine And.intro ⟨by kernel_rfl,by kernel_rfl⟩ ?_
  |exact RetX.oA hF
def zpq (r:Int):AV:=aI (r)
theorem zyg {n a0 a1 r}(hF:zc7 n a0 a1=some r):Con E0 true 78 [.agg [aI (a0.fVar),aI (a0.fRef.fTime),aI (a0.fRef.fSource),aI (a0.fRef.fSeq)],.agg [aI (a1.fVar),aI (a1.fRef.fTime),aI (a1.fRef.fSource),aI (a1.fRef.fSeq)]] (zpq r):=by
 unfold zc7 at hF
 refine Con.walk _ Tryz.func78 rfl (z06 Tryz.func78 rfl rfl) rfl (Or.inr rfl) ?_
 repeat' first
  |refine AW.step ?_;conv=>whnf
  |refine z0m.o hF R_match_refs (fun a h=>con_match_refs h) (fun a hF=>?_)
  |refine z0m.o hF zcw (fun a h=>zbw h) (fun a hF=>?_)
  |refine z0m.o hF zwx (fun a h=>zol h) (fun a hF=>?_)
  |refine And.intro ⟨by kernel_rfl,by kernel_rfl⟩ ?_
  |exact RetX.oA hF
def zrz (a1:(List z0u))(a0:(List z0u))(v1_0:Int):AS:=⟨[(0,.sl 4 (a0.map z0a)),(1,.sl 4 (a1.map z0a)),(2,.fn 78 []),(11,.sl 4 (a0.map z0a)),(12,aI (((a0.map z0a).length:Int))),(13,aI (v1_0))],[]⟩
theorem zqh {n a1 a0 k1_0_0}:z2d E0 39 (z6l n a1 a0 k1_0_0) (zrz a1 a0):=LoopA.oT fun _=>rfl
def zi3 (r:Int):AV:=aI (r)
theorem zth {n a0 a1 r}(hF:z9j n a0 a1=some r):Con E0 true 77 [.sl 4 (a0.map z0a),.sl 4 (a1.map z0a),.fn 78 []] (zi3 r):=by
 unfold z9j at hF
 refine Con.walk _ Tryz.func77 rfl (z06 Tryz.func77 rfl rfl) rfl (Or.inr rfl) ?_
 repeat' first
  |refine AW.step ?_;conv=>whnf
  |refine z0v.o hF (fun hF=>?_) (fun hF=>?_)
  |refine IdxX.o z0a hF (fun x hF=>?_)
  |refine z0m.o hF zpq (fun a h=>zyg h) (fun a hF=>?_)
  |exact ⟨_,hF,LeX.a []⟩
  |refine zqh hF (LeX.a []) (fun m v hF=>?_);unfold z6l at hF
  |exact RetX.oA hF
def zjt (r:Int):AV:=aI (r)
theorem zoi {n a0 a1 r}(hF:zc8 n a0 a1=some r):Con E0 true 43 [.agg [.sl 4 (a0.fBindings.map z0a)],.agg [.sl 4 (a1.fBindings.map z0a)]] (zjt r):=by
 unfold zc8 at hF
 refine Con.walk _ Tryz.func43 rfl (z06 Tryz.func43 rfl rfl) rfl (Or.inr rfl) ?_
 repeat' first
  |refine AW.step ?_;conv=>whnf
  |refine z0m.o hF zi3 (fun a h=>zth h) (fun a hF=>?_)
  |exact RetX.oA hF
def zw8 (r:Int):AV:=aI (r)
theorem con_run_compare_1 {n a0 a1 r}(hF:ze1 n a0 a1=some r):Con E0 true 90 [.agg [aI (a0.fScope),aI (a0.fTime)],.agg [aI (a1.fScope),aI (a1.fTime)]] (zw8 r):=by
 unfold ze1 at hF
 refine Con.walk _ Tryz.func90 rfl (z06 Tryz.func90 rfl rfl) rfl (Or.inr rfl) ?_
 repeat' first
  |refine AW.step ?_;conv=>whnf
  |refine z0m.o hF zcw (fun a h=>zbw h) (fun a hF=>?_)
  |refine z0m.o hF zwx (fun a h=>zol h) (fun a hF=>?_)
  |refine And.intro ⟨by kernel_rfl,by kernel_rfl⟩ ?_
  |exact RetX.oA hF
def zjh (a1:(List z0b))(a0:(List z0b))(v1_0:Int):AS:=⟨[(0,.sl 2 (a0.map z08)),(1,.sl 2 (a1.map z08)),(2,.fn 90 []),(11,.sl 2 (a0.map z08)),(12,aI (((a0.map z08).length:Int))),(13,aI (v1_0))],[]⟩
theorem zis {n a1 a0 k1_0_0}:z2d E0 39 (z3v n a1 a0 k1_0_0) (zjh a1 a0):=LoopA.oT fun _=>rfl
def zf6 (r:Int):AV:=aI (r)
theorem zkt {n a0 a1 r}(hF:z7s n a0 a1=some r):Con E0 true 89 [.sl 2 (a0.map z08),.sl 2 (a1.map z08),.fn 90 []] (zf6 r):=by
 unfold z7s at hF
 refine Con.walk _ Tryz.func89 rfl (z06 Tryz.func89 rfl rfl) rfl (Or.inr rfl) ?_
 repeat' first
  |refine AW.step ?_;conv=>whnf
  |refine z0v.o hF (fun hF=>?_) (fun hF=>?_)
  |refine IdxX.o z08 hF (fun x hF=>?_)
  |refine z0m.o hF zw8 (fun a h=>con_run_compare_1 h) (fun a hF=>?_)
  |exact ⟨_,hF,LeX.a []⟩
  |refine zis hF (LeX.a []) (fun m v hF=>?_);unfold z3v at hF
  |exact RetX.oA hF
def zzq (r:Int):AV:=aI (r)
theorem con_run_compare {n a0 a1 r}(hF:zfx n a0 a1=some r):Con E0 true 59 [.agg [aI (a0.fState),.sl 4 (a0.fBindings.map z0a),.sl 2 (a0.fStarts.map z08)],.agg [aI (a1.fState),.sl 4 (a1.fBindings.map z0a),.sl 2 (a1.fStarts.map z08)]] (zzq r):=by
 unfold zfx at hF
 refine Con.walk _ Tryz.func59 rfl (z06 Tryz.func59 rfl rfl) rfl (Or.inr rfl) ?_
 repeat' first
  |refine AW.step ?_;conv=>whnf
  |refine z0m.o hF zcw (fun a h=>zbw h) (fun a hF=>?_)
  |refine z0m.o hF zjt (fun a h=>zoi h) (fun a hF=>?_)
  |refine z0m.o hF zf6 (fun a h=>zkt h) (fun a hF=>?_)
  |refine z0m.o hF zwx (fun a h=>zol h) (fun a hF=>?_)
  |refine And.intro ⟨by kernel_rfl,by kernel_rfl⟩ ?_
  |exact RetX.oA hF
def R_run_ref (r:z1h):AV:=.agg [aI (r.fTime),aI (r.fSource),aI (r.fSeq)]
theorem con_run_ref {n a0 r}(hF:zpv n a0=some r):Con E0 true 72 [.agg [aI (a0.fSource),aI (a0.fSeq),aI (a0.fType),aI (a0.fTime),.sl 3 (a0.fValues.map z07)]] (R_run_ref r):=by
 unfold zpv at hF
 refine Con.walk _ Tryz.func72 rfl (z06 Tryz.func72 rfl rfl) rfl (Or.inr rfl) ?_
 repeat' first
  |refine AW.step ?_;conv=>whnf
  |exact RetX.oA hF
end Go.Proofs.YtjpknpjjcddnnaaGreat
