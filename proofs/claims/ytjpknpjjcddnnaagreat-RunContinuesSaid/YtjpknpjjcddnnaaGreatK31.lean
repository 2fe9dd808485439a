/- What some functions compute, over plain values. Printed by a program of mine (gen_fun.lean). -/
import Derived.Test.YtjpknpjjcddnnaaGreatK30
set_option linter.unusedVariables false
set_option linter.unusedSimpArgs false
set_option maxRecDepth 100000
set_option maxHeartbeats 8000000
namespace Go.Proofs.YtjpknpjjcddnnaaGreat
open Go.RowKit
theorem y0o:Con E0 false 198 [] (.mapv [(aI (5),.fn 210 [.ref [.fn 209 []]]),(aI (6),.fn 211 [.ref [.fn 209 []]]),(aI (7),.fn 212 []),(aI (8),.fn 213 []),(aI (10),.fn 214 []),(aI (11),.fn 215 []),(aI (12),.fn 216 [])]):=by
 refine Con.walk _ Tryz.func198 rfl (z08 Tryz.func198 rfl rfl) rfl (Or.inl rfl) ?_
 repeat' first
  |refine AW.frb0 1 rfl rfl ?_
  |refine AW.into ?_
  |refine AW.stepU [2] ?_;conv=>whnf
  |refine UpX.mk _ _ (by first|rfl|kernel_rfl) (by first|rfl|kernel_rfl) (SubM.refl _) ?_
  |exact RetX.mk rfl
def zl3 (a1:Int)(a0f2:z01)(a0f1:Int)(a0f0:z0h)(w1_0:Bool):AS:=⟨[(1,aI (a1)),(2,.ptr 2 0),(14,.bool (w1_0))],[(2,.box 253 [.sl 1 (List.map (fun q=>AV.sl 5 (List.map z04 q)) (a0f0.fVars)),aI (a0f1),aI (a0f2.fSource),aI (a0f2.fSeq),aI (a0f2.fType),aI (a0f2.fTime),.sl 3 (a0f2.fValues.map z0a),.mapv [(aI (5),.fn 210 [.ref [.fn 209 []]]),(aI (6),.fn 211 [.ref [.fn 209 []]]),(aI (7),.fn 212 []),(aI (8),.fn 213 []),(aI (10),.fn 214 []),(aI (11),.fn 215 []),(aI (12),.fn 216 [])]])]⟩
theorem zkh {n a1 a0f2 a0f1 a0f0}:z3v E0 21 (z2m n a1 a0f2 a0f1 a0f0) (zl3 a1 a0f2 a0f1 a0f0):=AW.jT
def zcz (r:(List z01)):AV:=.sl 5 (r.map z04)
theorem zfb {n a0f0 a0f1 a0f2 a1 r}(hF:z6i n a0f0 a0f1 a0f2 a1=some r):Con E0 false 224 [.agg [.sl 1 (List.map (fun q=>AV.sl 5 (List.map z04 q)) (a0f0.fVars)),aI (a0f1),aI (a0f2.fSource),aI (a0f2.fSeq),aI (a0f2.fType),aI (a0f2.fTime),.sl 3 (a0f2.fValues.map z0a),.mapv [(aI (5),.fn 210 [.ref [.fn 209 []]]),(aI (6),.fn 211 [.ref [.fn 209 []]]),(aI (7),.fn 212 []),(aI (8),.fn 213 []),(aI (10),.fn 214 []),(aI (11),.fn 215 []),(aI (12),.fn 216 [])]],aI (a1)] (zcz r):=by
 unfold z6i at hF
 refine Con.walk _ Tryz.func224 rfl (z08 Tryz.func224 rfl rfl) rfl (Or.inl rfl) ?_
 repeat' first
  |refine zkh hF (fun hF=>?_) (fun v hF=>?_);rotate_left;unfold z2m at hF
  |refine AW.regO hF (fun hF=>?_)
  |refine AW.stepU [1] ?_;conv=>whnf
  |refine z0v.o hF (fun hF=>?_) (fun hF=>?_)
  |refine IdxX.o (fun q=>AV.sl 5 (List.map z04 q)) hF (fun x hF=>?_)
  |exact ⟨_,hF,LeX.a []⟩
  |exact RetX.oA hF
def zyf (r:z03×Int):AV:=.tup [.agg [aI (r.1.fKind),aI (r.1.fNum),.str (r.1.fText)],aI (r.2)]
theorem y01 {n a0 a1 r}(hF:zez n a0 a1=some r):Con E0 true 226 [.agg [aI (a0.fSource),aI (a0.fSeq),aI (a0.fType),aI (a0.fTime),.sl 3 (a0.fValues.map z0a)],aI (a1)] (zyf r):=by
 unfold zez at hF
 refine Con.walk _ Tryz.func226 rfl (z08 Tryz.func226 rfl rfl) rfl (Or.inr rfl) ?_
 repeat' first
  |refine AW.step ?_;conv=>whnf
  |refine z0v.o hF (fun hF=>?_) (fun hF=>?_)
  |refine IdxX.o z0a hF (fun x hF=>?_)
  |exact RetX.oA hF
def zmw (a1:z0k)(x1:(List z01))(v1_0:Int×(List z03)):AS:=⟨[(3,.ptr 3 0),(4,.ptr 4 0),(6,.row 7034),(14,.sl 5 (x1.map z04)),(15,aI (((x1.map z04).length:Int))),(16,aI (v1_0.1))],[(3,.box 47 [aI (a1.fOp),.sl 8 (a1.fArgs.map idA),aI (a1.fVar),aI (a1.fField),aI (a1.fKind),aI (a1.fValue.fKind),aI (a1.fValue.fNum),.str (a1.fValue.fText)]),(4,.box 45 [aI (0),aI (0),.str (ByteArray.empty)]),(7034,.row 45 3 (v1_0.2.map z0a))]⟩
theorem zmb {n a1 x1 k1_0_0}:z27 E0 44 (z4n n a1 x1 k1_0_0) (zmw a1 x1):=LoopA.oT fun _=>rfl
def zgz (r:z03×Int):AV:=.tup [.agg [aI (r.1.fKind),aI (r.1.fNum),.str (r.1.fText)],aI (r.2)]
theorem zoa {n a0f0 a0f1 a0f2 a1 r}(hF:zai n a0f0 a0f1 a0f2 a1=some r):Con E0 true 225 [.agg [.sl 1 (List.map (fun q=>AV.sl 5 (List.map z04 q)) (a0f0.fVars)),aI (a0f1),aI (a0f2.fSource),aI (a0f2.fSeq),aI (a0f2.fType),aI (a0f2.fTime),.sl 3 (a0f2.fValues.map z0a),.mapv [(aI (5),.fn 210 [.ref [.fn 209 []]]),(aI (6),.fn 211 [.ref [.fn 209 []]]),(aI (7),.fn 212 []),(aI (8),.fn 213 []),(aI (10),.fn 214 []),(aI (11),.fn 215 []),(aI (12),.fn 216 [])]],.agg [aI (a1.fOp),.sl 8 (a1.fArgs.map idA),aI (a1.fVar),aI (a1.fField),aI (a1.fKind),aI (a1.fValue.fKind),aI (a1.fValue.fNum),.str (a1.fValue.fText)]] (zgz r):=by
 unfold zai at hF
 refine Con.walk _ Tryz.func225 rfl (z08 Tryz.func225 rfl rfl) rfl (Or.inr rfl) ?_
 repeat' first
  |refine AW.step ?_;conv=>whnf
  |refine z0v.o hF (fun hF=>?_) (fun hF=>?_)
  |refine z0m.o hF zcz (fun a h=>zfb h) (fun a hF=>?_)
  |refine zbm.o hF y07 (fun a h=>con_aggregate_Of h) (fun _=>Or.inr rfl) (fun a hF=>?_)
  |refine IdxX.o z04 hF (fun x hF=>?_)
  |refine z0m.o hF zyf (fun a h=>y01 h) (fun a hF=>?_)
  |refine AppX.o z0a hF (by first|exact SubR.refl _|(repeat' first|exact SubR.nil|refine SubR.cons ?_ ?_|exact SubL.nil|refine SubL.cons ?_ ?_|exact Sub.refl _|exact Sub.nil _)) (fun l hF=>?_)
  |exact ⟨_,hF,LeX.a [(7034,34)]⟩
  |refine zmb hF (LeX.trans (LeX.adopt 6 7034 45 3 rfl rfl) (LeX.a [])) (fun m v hF=>?_);unfold z4n at hF
  |exact RetX.oA hF
def zov (x9:z03×Int)(w2_1:Int):AS:=⟨[(4,.ptr 4 0),(8,.ptr 8 0),(9,aI (w2_1))],[(4,.box 45 [aI (0),aI (0),.str (ByteArray.empty)]),(8,.box 45 [aI (x9.1.fKind),aI (x9.1.fNum),.str (x9.1.fText)])]⟩
theorem zny {n x9}:zjn E0 71 (z3i n x9) (zov x9):=AW.jT2
def zow (a1:z0k)(w1_0:Int×Int×Int×Int×(List z03)):AS:=⟨[(3,.ptr 3 0),(4,.ptr 4 0),(7,.ptr 7 0)],[(3,.box 47 [aI (a1.fOp),.sl 8 (a1.fArgs.map idA),aI (a1.fVar),aI (a1.fField),aI (a1.fKind),aI (a1.fValue.fKind),aI (a1.fValue.fNum),.str (a1.fValue.fText)]),(4,.box 45 [aI (0),aI (0),.str (ByteArray.empty)]),(7,.box 66 [aI (w1_0.1),aI (w1_0.2.1),aI (w1_0.2.2.1),aI (w1_0.2.2.2.1),.sl 3 (w1_0.2.2.2.2.map z0a)])]⟩
theorem znz {n a1}:zjn E0 71 (z3j n a1) (zow a1):=AW.jT2
def zhi (r:z03×Int):AV:=.tup [.agg [aI (r.1.fKind),aI (r.1.fNum),.str (r.1.fText)],aI (r.2)]
theorem zqe {n a0f0 a0f1 a0f2 a1 r}(hF:z9a n a0f0 a0f1 a0f2 a1=some r):Con E0 true 217 [.agg [.sl 1 (List.map (fun q=>AV.sl 5 (List.map z04 q)) (a0f0.fVars)),aI (a0f1),aI (a0f2.fSource),aI (a0f2.fSeq),aI (a0f2.fType),aI (a0f2.fTime),.sl 3 (a0f2.fValues.map z0a),.mapv [(aI (5),.fn 210 [.ref [.fn 209 []]]),(aI (6),.fn 211 [.ref [.fn 209 []]]),(aI (7),.fn 212 []),(aI (8),.fn 213 []),(aI (10),.fn 214 []),(aI (11),.fn 215 []),(aI (12),.fn 216 [])]],.agg [aI (a1.fOp),.sl 8 (a1.fArgs.map idA),aI (a1.fVar),aI (a1.fField),aI (a1.fKind),aI (a1.fValue.fKind),aI (a1.fValue.fNum),.str (a1.fValue.fText)]] (zhi r):=by
 unfold z9a at hF
 refine Con.walk _ Tryz.func217 rfl (z08 Tryz.func217 rfl rfl) rfl (Or.inr rfl) ?_
 repeat' first
  |refine zny hF (fun hF=>?_) (fun v hF=>?_);rotate_left;unfold z3i at hF
  |refine znz hF (fun hF=>?_) (fun v hF=>?_);rotate_left;unfold z3j at hF
  |refine AW.regO hF (fun hF=>?_)
  |refine AW.stepU [10,17] ?_;conv=>whnf
  |refine z0v.o hF (fun hF=>?_) (fun hF=>?_)
  |refine z0m.o hF zcz (fun a h=>zfb h) (fun a hF=>?_)
  |refine z0m.o hF zgz (fun a h=>zoa h) (fun a hF=>?_)
  |refine z0m.o hF zyf (fun a h=>y01 h) (fun a hF=>?_)
  |refine z0m.o hF zgp (fun a h=>zgd h) (fun a hF=>?_)
  |exact ⟨_,hF,LeX.a []⟩
  |refine IdxX.o z04 hF (fun x hF=>?_)
  |exact ⟨_,hF,LeX.a []⟩
  |exact RetX.oA hF
def y1t (a1:(List Int))(a0:Int)(v1_0:Int)(cv1_0:Int->Option (Int))(x41:Int)(w6_2:Bool):AS:=⟨[(0,aI (a0)),(1,.sl 1 (a1.map aI)),(6,aI (x41)),(7,.bool (true)),(8,.sl 1 (a1.map aI)),(9,aI (((a1.map aI).length:Int))),(10,aI (v1_0)),(14,aI (a0)),(22,.bool (w6_2))],[]⟩
theorem y1j {n a1 a0 v1_0 cv1_0 x41}:zjn E0 38 (z7d n a1 a0 v1_0 cv1_0 x41) (y1t a1 a0 v1_0 cv1_0 x41):=AW.jT2
def y1u (a1:(List Int))(a0:Int)(v1_0:Int)(cv1_0:Int->Option (Int))(x41:Int)(w5_1:Bool):AS:=⟨[(0,aI (a0)),(1,.sl 1 (a1.map aI)),(6,aI (x41)),(7,.bool (true)),(8,.sl 1 (a1.map aI)),(9,aI (((a1.map aI).length:Int))),(10,aI (v1_0)),(14,aI (a0)),(15,.bool (w5_1))],[]⟩
theorem y1k {n a1 a0 v1_0 cv1_0 x41}:zjn E0 38 (z62 n a1 a0 v1_0 cv1_0 x41) (y1u a1 a0 v1_0 cv1_0 x41):=AW.jT2
def y1s (a1:(List Int))(a0:Int)(v1_0:Int):AS:=⟨[(0,aI (a0)),(1,.sl 1 (a1.map aI)),(8,.sl 1 (a1.map aI)),(9,aI (((a1.map aI).length:Int))),(10,aI (v1_0))],[]⟩
theorem y1i {n a1 a0 k1_0_0}:z27 E0 38 (z4b n a1 a0 k1_0_0) (y1s a1 a0):=LoopA.oT fun _=>rfl
def zye (r:Int):AV:=aI (r)
theorem con_expr_operands {n a0 a1 r}(hF:zh3 n a0 a1=some r):Con E0 true 218 [aI (a0),.sl 1 (a1.map aI)] (zye r):=by
 unfold zh3 at hF
 refine Con.walk _ Tryz.func218 rfl (z08 Tryz.func218 rfl rfl) rfl (Or.inr rfl) ?_
 repeat' first
  |refine y1j hF (fun hF=>?_) (fun v hF=>?_);rotate_left;unfold z7d at hF
  |refine y1k hF (fun hF=>?_) (fun v hF=>?_);rotate_left;unfold z62 at hF
  |refine AW.regO hF (fun hF=>?_)
  |refine AW.stepU [6,7,8,11,12,15] ?_;conv=>whnf
  |refine z0v.o hF (fun hF=>?_) (fun hF=>?_)
  |refine z0v.f ?_
  |refine IdxX.o aI hF (fun x hF=>?_)
  |exact ⟨_,hF,LeX.a []⟩
  |exact ⟨_,hF,LeX.a []⟩
  |refine y1i hF (LeX.a []) (fun m v hF=>?_);unfold z4b at hF
  |exact RetX.oA hF
def R_value_Bool (r:z03):AV:=.agg [aI (r.fKind),aI (r.fNum),.str (r.fText)]
theorem con_value_Bool {n a0 r}(hF:zne n a0=some r):Con E0 true 200 [.bool (a0)] (R_value_Bool r):=by
 unfold zne at hF
 refine Con.walk _ Tryz.func200 rfl (z08 Tryz.func200 rfl rfl) rfl (Or.inr rfl) ?_
 repeat' first
  |refine AW.step ?_;conv=>whnf
  |refine z0v.o hF (fun hF=>?_) (fun hF=>?_)
  |exact RetX.oA hF
def zen (r:z03):AV:=.agg [aI (r.fKind),aI (r.fNum),.str (r.fText)]
theorem zdn {n a0 r}(hF:z8q n a0=some r):Con E0 true 173 [.bool (a0)] (zen r):=by
 unfold z8q at hF
 refine Con.walk _ Tryz.func173 rfl (z08 Tryz.func173 rfl rfl) rfl (Or.inr rfl) ?_
 repeat' first
  |refine AW.step ?_;conv=>whnf
  |refine z0m.o hF R_value_Bool (fun a h=>con_value_Bool h) (fun a hF=>?_)
  |exact RetX.oA hF
def zg0 (r:z03):AV:=.agg [aI (r.fKind),aI (r.fNum),.str (r.fText)]
theorem zig {n a0 r}(hF:zbh n a0=some r):Con E0 true 209 [aI (a0)] (zg0 r):=by
 unfold zbh at hF
 refine Con.walk _ Tryz.func209 rfl (z08 Tryz.func209 rfl rfl) rfl (Or.inr rfl) ?_
 repeat' first
  |refine AW.step ?_;conv=>whnf
  |exact RetX.oA hF
def zlk (r:z03):AV:=.agg [aI (r.fKind),aI (r.fNum),.str (r.fText)]
theorem zxg {n a0 a1 r}(hF:zbg n a0 a1=some r):Con E0 true 210 [aI (a0),aI (a1),.ref [.fn 209 []]] (zlk r):=by
 unfold zbg at hF
 refine Con.walk _ Tryz.func210 rfl (z08 Tryz.func210 rfl rfl) rfl (Or.inr rfl) ?_
 repeat' first
  |refine AW.step ?_;conv=>whnf
  |refine z0m.o hF zg0 (fun a h=>zig h) (fun a hF=>?_)
  |exact RetX.oA hF
def zlj (r:z03):AV:=.agg [aI (r.fKind),aI (r.fNum),.str (r.fText)]
theorem zxf {n a0 a1 r}(hF:zbf n a0 a1=some r):Con E0 true 211 [aI (a0),aI (a1),.ref [.fn 209 []]] (zlj r):=by
 unfold zbf at hF
 refine Con.walk _ Tryz.func211 rfl (z08 Tryz.func211 rfl rfl) rfl (Or.inr rfl) ?_
 repeat' first
  |refine AW.step ?_;conv=>whnf
  |refine z0m.o hF zg0 (fun a h=>zig h) (fun a hF=>?_)
  |exact RetX.oA hF
def zli (r:z03):AV:=.agg [aI (r.fKind),aI (r.fNum),.str (r.fText)]
theorem zxe {n a0 a1 r}(hF:zbe n a0 a1=some r):Con E0 true 212 [aI (a0),aI (a1)] (zli r):=by
 unfold zbe at hF
 refine Con.walk _ Tryz.func212 rfl (z08 Tryz.func212 rfl rfl) rfl (Or.inr rfl) ?_
 repeat' first
  |refine AW.step ?_;conv=>whnf
  |refine z0m.o hF zen (fun a h=>zdn h) (fun a hF=>?_)
  |exact RetX.oA hF
def zlh (r:z03):AV:=.agg [aI (r.fKind),aI (r.fNum),.str (r.fText)]
theorem zxd {n a0 a1 r}(hF:zbd n a0 a1=some r):Con E0 true 213 [aI (a0),aI (a1)] (zlh r):=by
 unfold zbd at hF
 refine Con.walk _ Tryz.func213 rfl (z08 Tryz.func213 rfl rfl) rfl (Or.inr rfl) ?_
 repeat' first
  |refine AW.step ?_;conv=>whnf
  |refine z0m.o hF zen (fun a h=>zdn h) (fun a hF=>?_)
  |exact RetX.oA hF
def zwf (w1_0:Int×Int×ByteArray):AS:=⟨[(4,.ptr 4 0)],[(4,.box 45 [aI (w1_0.1),aI (w1_0.2.1),.str (w1_0.2.2)])]⟩
theorem zv6 {n}:z3v E0 12 (z5y n) zwf:=AW.jT
def zlg (r:z03):AV:=.agg [aI (r.fKind),aI (r.fNum),.str (r.fText)]
theorem zxc {n a0 a1 r}(hF:zbc n a0 a1=some r):Con E0 true 214 [aI (a0),aI (a1)] (zlg r):=by
 unfold zbc at hF
 refine Con.walk _ Tryz.func214 rfl (z08 Tryz.func214 rfl rfl) rfl (Or.inr rfl) ?_
 repeat' first
  |refine zv6 hF (fun hF=>?_) (fun v hF=>?_);rotate_left;unfold z5y at hF
  |refine AW.regO hF (fun hF=>?_)
  |refine AW.stepU [1] ?_;conv=>whnf
  |refine z0v.o hF (fun hF=>?_) (fun hF=>?_)
  |refine z0m.o hF zen (fun a h=>zdn h) (fun a hF=>?_)
  |exact ⟨_,hF,LeX.a []⟩
  |exact RetX.oA hF
def zwe (w1_0:Int×Int×ByteArray):AS:=⟨[(4,.ptr 4 0)],[(4,.box 45 [aI (w1_0.1),aI (w1_0.2.1),.str (w1_0.2.2)])]⟩
theorem zv5 {n}:z3v E0 12 (z5x n) zwe:=AW.jT
def zlf (r:z03):AV:=.agg [aI (r.fKind),aI (r.fNum),.str (r.fText)]
theorem zxb {n a0 a1 r}(hF:zbb n a0 a1=some r):Con E0 true 215 [aI (a0),aI (a1)] (zlf r):=by
 unfold zbb at hF
 refine Con.walk _ Tryz.func215 rfl (z08 Tryz.func215 rfl rfl) rfl (Or.inr rfl) ?_
 repeat' first
  |refine zv5 hF (fun hF=>?_) (fun v hF=>?_);rotate_left;unfold z5x at hF
  |refine AW.regO hF (fun hF=>?_)
  |refine AW.stepU [1] ?_;conv=>whnf
  |refine z0v.o hF (fun hF=>?_) (fun hF=>?_)
  |refine z0m.o hF zen (fun a h=>zdn h) (fun a hF=>?_)
  |exact ⟨_,hF,LeX.a []⟩
  |exact RetX.oA hF
def zle (r:z03):AV:=.agg [aI (r.fKind),aI (r.fNum),.str (r.fText)]
theorem zxa {n a0 a1 r}(hF:z7z n a0 a1=some r):Con E0 true 216 [aI (a0),aI (a1)] (zle r):=by
 unfold z7z at hF
 refine Con.walk _ Tryz.func216 rfl (z08 Tryz.func216 rfl rfl) rfl (Or.inr rfl) ?_
 repeat' first
  |refine AW.step ?_;conv=>whnf
  |refine z0m.o hF zen (fun a h=>zdn h) (fun a hF=>?_)
  |exact RetX.oA hF
def zox (rF_expr_evaluator__eval:z0h->Int->z01->z0k->Option (z03×Int))(a1:z0k)(a0f2:z01)(a0f1:Int)(a0f0:z0h)(v1_0:Int×(List z03)×(List Int)):AS:=⟨[(2,.ptr 2 0),(3,.ptr 3 0),(4,.ptr 4 0),(6,.row 7042),(7,.row 7047),(23,.sl 8 (a1.fArgs.map idA)),(24,aI (((a1.fArgs.map idA).length:Int))),(25,aI (v1_0.1))],[(2,.box 253 [.sl 1 (List.map (fun q=>AV.sl 5 (List.map z04 q)) (a0f0.fVars)),aI (a0f1),aI (a0f2.fSource),aI (a0f2.fSeq),aI (a0f2.fType),aI (a0f2.fTime),.sl 3 (a0f2.fValues.map z0a),.mapv [(aI (5),.fn 210 [.ref [.fn 209 []]]),(aI (6),.fn 211 [.ref [.fn 209 []]]),(aI (7),.fn 212 []),(aI (8),.fn 213 []),(aI (10),.fn 214 []),(aI (11),.fn 215 []),(aI (12),.fn 216 [])]]),(3,.box 47 [aI (a1.fOp),.sl 8 (a1.fArgs.map idA),aI (a1.fVar),aI (a1.fField),aI (a1.fKind),aI (a1.fValue.fKind),aI (a1.fValue.fNum),.str (a1.fValue.fText)]),(4,.box 45 [aI (0),aI (0),.str (ByteArray.empty)]),(7042,.row 45 3 (v1_0.2.1.map z0a)),(7047,.row 3 1 (v1_0.2.2.map aI))]⟩
theorem zo0 {n rF_expr_evaluator__eval a1 a0f2 a0f1 a0f0 k1_0_0}:z27 E0 85 (z5i n rF_expr_evaluator__eval a1 a0f2 a0f1 a0f0 k1_0_0) (zox rF_expr_evaluator__eval a1 a0f2 a0f1 a0f0):=LoopA.oT fun _=>rfl
def ze4 (r:z03×Int):AV:=.tup [.agg [aI (r.1.fKind),aI (r.1.fNum),.str (r.1.fText)],aI (r.2)]
theorem zqf {n a0f0 a0f1 a0f2 a1 r}(hF:z3u n a0f0 a0f1 a0f2 a1=some r):Con E0 true 199 [.agg [.sl 1 (List.map (fun q=>AV.sl 5 (List.map z04 q)) (a0f0.fVars)),aI (a0f1),aI (a0f2.fSource),aI (a0f2.fSeq),aI (a0f2.fType),aI (a0f2.fTime),.sl 3 (a0f2.fValues.map z0a),.mapv [(aI (5),.fn 210 [.ref [.fn 209 []]]),(aI (6),.fn 211 [.ref [.fn 209 []]]),(aI (7),.fn 212 []),(aI (8),.fn 213 []),(aI (10),.fn 214 []),(aI (11),.fn 215 []),(aI (12),.fn 216 [])]],.agg [aI (a1.fOp),.sl 8 (a1.fArgs.map idA),aI (a1.fVar),aI (a1.fField),aI (a1.fKind),aI (a1.fValue.fKind),aI (a1.fValue.fNum),.str (a1.fValue.fText)]] (ze4 r):=by
 induction n generalizing a0f0 a0f1 a0f2 a1 r
 case zero=>cases hF
 case succ n ih =>
 unfold z3u at hF
 refine Con.walk _ Tryz.func199 rfl (z08 Tryz.func199 rfl rfl) rfl (Or.inr rfl) ?_
 repeat' first
  |refine AW.step ?_;conv=>whnf
  |refine z0v.o hF (fun hF=>?_) (fun hF=>?_)
  |refine z0m.o hF zhi (fun a h=>zqe h) (fun a hF=>?_)
  |refine zbm.o hF zye (fun a h=>con_expr_operands h) (fun _=>Or.inr rfl) (fun a hF=>?_)
  |refine NatX.o hF (fun m hF=>?_)
  |refine EltX.o z0a hF (fun x hF=>?_)
  |refine z0m.o hF zen (fun a h=>zdn h) (fun a hF=>?_)
  |refine OpX.lkc rfl rfl rfl rfl rfl rfl rfl rfl rfl rfl (by first|rfl|kernel_rfl) ?_
  |refine LkC.cons hF (fun hF=>?_) (fun hF=>?_)
  |(cases hF;done)
  |refine LtX.o hF (fun hF=>?_)
  |refine z0m.o hF zlk (fun a h=>zxg h) (fun a hF=>?_)
  |refine z0m.o hF zlj (fun a h=>zxf h) (fun a hF=>?_)
  |refine z0m.o hF zli (fun a h=>zxe h) (fun a hF=>?_)
  |refine z0m.o hF zlh (fun a h=>zxd h) (fun a hF=>?_)
  |refine z0m.o hF zlg (fun a h=>zxc h) (fun a hF=>?_)
  |refine z0m.o hF zlf (fun a h=>zxb h) (fun a hF=>?_)
  |refine z0m.o hF zle (fun a h=>zxa h) (fun a hF=>?_)
  |refine IdxX.oD hF z6u (fun x hF=>?_)
  |refine z0m.o hF ze4 (fun a h=>ih h) (fun a hF=>?_)
  |refine AppX.o z0a hF (by first|exact SubR.refl _|(repeat' first|exact SubR.nil|refine SubR.cons ?_ ?_|exact SubL.nil|refine SubL.cons ?_ ?_|exact Sub.refl _|exact Sub.nil _)) (fun l hF=>?_)
  |refine AppX.o aI hF (by first|exact SubR.refl _|(repeat' first|exact SubR.nil|refine SubR.cons ?_ ?_|exact SubL.nil|refine SubL.cons ?_ ?_|exact Sub.refl _|exact Sub.nil _)) (fun l hF=>?_)
  |exact ⟨_,hF,LeX.a [(7042,42),(7047,47)]⟩
  |refine zo0 hF (LeX.trans (LeX.adopt 6 7042 45 3 rfl rfl) (LeX.trans (LeX.adopt 7 7047 3 1 rfl rfl) (LeX.a []))) (fun m v hF=>?_);unfold z5i at hF
  |refine And.intro ⟨by kernel_rfl,by kernel_rfl⟩ ?_
  |refine EqX.mk (by first|rfl|kernel_rfl) ?_
  |exact RetX.oA hF
def R_expr_Eval (r:z03×Int):AV:=.tup [.agg [aI (r.1.fKind),aI (r.1.fNum),.str (r.1.fText)],aI (r.2)]
end Go.Proofs.YtjpknpjjcddnnaaGreat
namespace Go.Proofs.YtjpknpjjcddnnaaGreat
open Go.RowKit
theorem con_expr_Eval {n a0 a1 a2 a3 r}(hF:zu5 n a0 a1 a2 a3=some r):Con E0 true 172 [.agg [aI (a0.fOp),.sl 8 (a0.fArgs.map idA),aI (a0.fVar),aI (a0.fField),aI (a0.fKind),aI (a0.fValue.fKind),aI (a0.fValue.fNum),.str (a0.fValue.fText)],.agg [.sl 1 (List.map (fun q=>AV.sl 5 (List.map z04 q)) (a1.fVars))],aI (a2),.agg [aI (a3.fSource),aI (a3.fSeq),aI (a3.fType),aI (a3.fTime),.sl 3 (a3.fValues.map z0a)]] (R_expr_Eval r):=by
 unfold zu5 at hF
 refine Con.walk _ Tryz.func172 rfl (z08 Tryz.func172 rfl rfl) rfl (Or.inr rfl) ?_
 repeat' first
  |refine AW.step ?_;conv=>whnf
  |refine z0v.o hF (fun hF=>?_) (fun hF=>?_)
  |refine z0m.o hF zn6 (fun a h=>zoc h) (fun a hF=>?_)
  |refine z0m.mk _ _ y0o ?_
  |refine z0m.o hF ze4 (fun a h=>zqf h) (fun a hF=>?_)
  |refine And.intro ⟨by kernel_rfl,by kernel_rfl⟩ ?_
  |exact RetX.oA hF
def S_expr_Truth_j1 (w1_0:Bool):AS:=⟨[(8,.bool (w1_0))],[]⟩
theorem expr_Truth_j1_o {n}:z3v E0 26 (zbj n) S_expr_Truth_j1:=AW.jT
def zn5 (r:Bool):AV:=.bool (r)
theorem zob {n a0 a1 a2 a3 r}(hF:zdd n a0 a1 a2 a3=some r):Con E0 true 131 [.agg [aI (a0.fOp),.sl 8 (a0.fArgs.map idA),aI (a0.fVar),aI (a0.fField),aI (a0.fKind),aI (a0.fValue.fKind),aI (a0.fValue.fNum),.str (a0.fValue.fText)],.agg [.sl 1 (List.map (fun q=>AV.sl 5 (List.map z04 q)) (a1.fVars))],aI (a2),.agg [aI (a3.fSource),aI (a3.fSeq),aI (a3.fType),aI (a3.fTime),.sl 3 (a3.fValues.map z0a)]] (zn5 r):=by
 unfold zdd at hF
 refine Con.walk _ Tryz.func131 rfl (z08 Tryz.func131 rfl rfl) rfl (Or.inr rfl) ?_
 repeat' first
  |refine expr_Truth_j1_o hF (fun hF=>?_) (fun v hF=>?_);rotate_left;unfold zbj at hF
  |refine AW.regO hF (fun hF=>?_)
  |refine AW.stepU [2] ?_;conv=>whnf
  |refine z0v.o hF (fun hF=>?_) (fun hF=>?_)
  |refine z0m.o hF R_expr_Eval (fun a h=>con_expr_Eval h) (fun a hF=>?_)
  |refine z0m.o hF zen (fun a h=>zdn h) (fun a hF=>?_)
  |exact ⟨_,hF,LeX.a []⟩
  |refine And.intro ⟨by kernel_rfl,by kernel_rfl⟩ ?_
  |refine EqX.mk (by first|rfl|kernel_rfl) ?_
  |exact RetX.oA hF
def S_run_violates_j1 (w1_0:Bool):AS:=⟨[(6,.bool (w1_0))],[]⟩
theorem run_violates_j1_o {n}:z3v E0 21 (z9e n) S_run_violates_j1:=AW.jT
def zoy (r:Bool):AV:=.bool (r)
theorem zu7 {n a0 a1 a2 r}(hF:zdw n a0 a1 a2=some r):Con E0 true 108 [.agg [aI (a0.fScope),aI (a0.fType),aI (a0.fVar),aI (a0.fCond.fOp),.sl 8 (a0.fCond.fArgs.map idA),aI (a0.fCond.fVar),aI (a0.fCond.fField),aI (a0.fCond.fKind),aI (a0.fCond.fValue.fKind),aI (a0.fCond.fValue.fNum),.str (a0.fCond.fValue.fText)],.agg [.sl 1 (List.map (fun q=>AV.sl 5 (List.map z04 q)) (a1.fVars))],.agg [aI (a2.fSource),aI (a2.fSeq),aI (a2.fType),aI (a2.fTime),.sl 3 (a2.fValues.map z0a)]] (zoy r):=by
 unfold zdw at hF
 refine Con.walk _ Tryz.func108 rfl (z08 Tryz.func108 rfl rfl) rfl (Or.inr rfl) ?_
 repeat' first
  |refine run_violates_j1_o hF (fun hF=>?_) (fun v hF=>?_);rotate_left;unfold z9e at hF
  |refine AW.regO hF (fun hF=>?_)
  |refine AW.stepU [1] ?_;conv=>whnf
  |refine z0v.o hF (fun hF=>?_) (fun hF=>?_)
  |refine z0m.o hF zn5 (fun a h=>zob h) (fun a hF=>?_)
  |exact ⟨_,hF,LeX.a []⟩
  |exact RetX.oA hF
def zfr (r:Bool):AV:=.bool (r)
theorem zkq {n a0 a1 a2 r}(hF:z3h n a0 a1 a2=some r):Con E0 true 107 [.agg [aI (a0.fScope),aI (a0.fType),aI (a0.fVar),aI (a0.fCond.fOp),.sl 8 (a0.fCond.fArgs.map idA),aI (a0.fCond.fVar),aI (a0.fCond.fField),aI (a0.fCond.fKind),aI (a0.fCond.fValue.fKind),aI (a0.fCond.fValue.fNum),.str (a0.fCond.fValue.fText)],.ref [.sl 1 (List.map (fun q=>AV.sl 5 (List.map z04 q)) (a1.fVars))],.ref [aI (a2.fSource),aI (a2.fSeq),aI (a2.fType),aI (a2.fTime),.sl 3 (a2.fValues.map z0a)]] (zfr r):=by
 unfold z3h at hF
 refine Con.walk _ Tryz.func107 rfl (z08 Tryz.func107 rfl rfl) rfl (Or.inr rfl) ?_
 repeat' first
  |refine AW.step ?_;conv=>whnf
  |refine z0m.o hF zoy (fun a h=>zu7 h) (fun a hF=>?_)
  |exact RetX.oA hF
def zmu (a1c1:z01)(a1c0:z0h)(a0:(List z0q))(v1_0:Int):AS:=⟨[(0,.sl 11 (a0.map z0t)),(1,.fn 107 [.ref [.sl 1 (List.map (fun q=>AV.sl 5 (List.map z04 q)) (a1c0.fVars))],.ref [aI (a1c1.fSource),aI (a1c1.fSeq),aI (a1c1.fType),aI (a1c1.fTime),.sl 3 (a1c1.fValues.map z0a)]]),(7,aI (((a0.map z0t).length:Int))),(8,aI (v1_0))],[]⟩
theorem zm9 {n a1c1 a1c0 a0 k1_0_0}:z27 E0 19 (z4m n a1c1 a1c0 a0 k1_0_0) (zmu a1c1 a1c0 a0):=LoopA.oT fun _=>rfl
def zgw (r:Int):AV:=aI (r)
theorem zo7 {n a0 a1c0 a1c1 r}(hF:z8p n a0 a1c0 a1c1=some r):Con E0 true 54 [.sl 11 (a0.map z0t),.fn 107 [.ref [.sl 1 (List.map (fun q=>AV.sl 5 (List.map z04 q)) (a1c0.fVars))],.ref [aI (a1c1.fSource),aI (a1c1.fSeq),aI (a1c1.fType),aI (a1c1.fTime),.sl 3 (a1c1.fValues.map z0a)]]] (zgw r):=by
 unfold z8p at hF
 refine Con.walk _ Tryz.func54 rfl (z08 Tryz.func54 rfl rfl) rfl (Or.inr rfl) ?_
 repeat' first
  |refine AW.step ?_;conv=>whnf
  |refine z0v.o hF (fun hF=>?_) (fun hF=>?_)
  |refine IdxX.o z0t hF (fun x hF=>?_)
  |refine z0m.o hF zfr (fun a h=>zkq h) (fun a hF=>?_)
  |exact ⟨_,hF,LeX.a []⟩
  |refine zm9 hF (LeX.a []) (fun m v hF=>?_);unfold z4m at hF
  |exact RetX.oA hF
def zfd (r:Bool):AV:=.bool (r)
theorem zjt {n a0 a1c0 a1c1 r}(hF:z79 n a0 a1c0 a1c1=some r):Con E0 true 20 [.sl 11 (a0.map z0t),.fn 107 [.ref [.sl 1 (List.map (fun q=>AV.sl 5 (List.map z04 q)) (a1c0.fVars))],.ref [aI (a1c1.fSource),aI (a1c1.fSeq),aI (a1c1.fType),aI (a1c1.fTime),.sl 3 (a1c1.fValues.map z0a)]]] (zfd r):=by
 unfold z79 at hF
 refine Con.walk _ Tryz.func20 rfl (z08 Tryz.func20 rfl rfl) rfl (Or.inr rfl) ?_
 repeat' first
  |refine AW.step ?_;conv=>whnf
  |refine z0m.o hF zgw (fun a h=>zo7 h) (fun a hF=>?_)
  |exact RetX.oA hF
def zmv (w1_0:Bool):AS:=⟨[(5,.bool (w1_0))],[]⟩
theorem zma {n}:z3v E0 18 (z2w n) zmv:=AW.jT
def zgy (r:Bool):AV:=.bool (r)
theorem zo9 {n a0 a1 a2 a3 r}(hF:z36 n a0 a1 a2 a3=some r):Con E0 true 132 [.agg [aI (a0.fScope),aI (a0.fType),aI (a0.fVar),aI (a0.fCond.fOp),.sl 8 (a0.fCond.fArgs.map idA),aI (a0.fCond.fVar),aI (a0.fCond.fField),aI (a0.fCond.fKind),aI (a0.fCond.fValue.fKind),aI (a0.fCond.fValue.fNum),.str (a0.fCond.fValue.fText)],.ref [aI (a1.fFrom),aI (a1.fTo),aI (a1.fVar),aI (a1.fType),aI (a1.fCond.fOp),.sl 8 (a1.fCond.fArgs.map idA),aI (a1.fCond.fVar),aI (a1.fCond.fField),aI (a1.fCond.fKind),aI (a1.fCond.fValue.fKind),aI (a1.fCond.fValue.fNum),.str (a1.fCond.fValue.fText),.sl 1 (a1.fOpens.map aI),.sl 1 (a1.fCloses.map aI),.sl 8 (a1.fChecks.map idA),.sl 2 (a1.fLimits.map z0r),.sl 1 (a1.fInside.map aI)],.ref [.sl 1 (List.map (fun q=>AV.sl 5 (List.map z04 q)) (a2.fVars))],.ref [aI (a3.fSource),aI (a3.fSeq),aI (a3.fType),aI (a3.fTime),.sl 3 (a3.fValues.map z0a)]] (zgy r):=by
 unfold z36 at hF
 refine Con.walk _ Tryz.func132 rfl (z08 Tryz.func132 rfl rfl) rfl (Or.inr rfl) ?_
 repeat' first
  |refine zma hF (fun hF=>?_) (fun v hF=>?_);rotate_left;unfold z2w at hF
  |refine AW.regO hF (fun hF=>?_)
  |refine AW.stepU [1] ?_;conv=>whnf
  |refine z0v.o hF (fun hF=>?_) (fun hF=>?_)
  |refine z0m.o hF zcy (fun a h=>zdm h) (fun a hF=>?_)
  |refine z0m.o hF zoy (fun a h=>zu7 h) (fun a hF=>?_)
  |exact ⟨_,hF,LeX.a []⟩
  |exact RetX.oA hF
def zmt (a1c2:z01)(a1c1:z0h)(a1c0:z0j)(a0:(List z0q))(v1_0:Int):AS:=⟨[(0,.sl 11 (a0.map z0t)),(1,.fn 132 [.ref [aI (a1c0.fFrom),aI (a1c0.fTo),aI (a1c0.fVar),aI (a1c0.fType),aI (a1c0.fCond.fOp),.sl 8 (a1c0.fCond.fArgs.map idA),aI (a1c0.fCond.fVar),aI (a1c0.fCond.fField),aI (a1c0.fCond.fKind),aI (a1c0.fCond.fValue.fKind),aI (a1c0.fCond.fValue.fNum),.str (a1c0.fCond.fValue.fText),.sl 1 (a1c0.fOpens.map aI),.sl 1 (a1c0.fCloses.map aI),.sl 8 (a1c0.fChecks.map idA),.sl 2 (a1c0.fLimits.map z0r),.sl 1 (a1c0.fInside.map aI)],.ref [.sl 1 (List.map (fun q=>AV.sl 5 (List.map z04 q)) (a1c1.fVars))],.ref [aI (a1c2.fSource),aI (a1c2.fSeq),aI (a1c2.fType),aI (a1c2.fTime),.sl 3 (a1c2.fValues.map z0a)]]),(7,aI (((a0.map z0t).length:Int))),(8,aI (v1_0))],[]⟩
theorem zm8 {n a1c2 a1c1 a1c0 a0 k1_0_0}:z27 E0 19 (z4l n a1c2 a1c1 a1c0 a0 k1_0_0) (zmt a1c2 a1c1 a1c0 a0):=LoopA.oT fun _=>rfl
def zgv (r:Int):AV:=aI (r)
theorem zo6 {n a0 a1c0 a1c1 a1c2 r}(hF:z8o n a0 a1c0 a1c1 a1c2=some r):Con E0 true 54 [.sl 11 (a0.map z0t),.fn 132 [.ref [aI (a1c0.fFrom),aI (a1c0.fTo),aI (a1c0.fVar),aI (a1c0.fType),aI (a1c0.fCond.fOp),.sl 8 (a1c0.fCond.fArgs.map idA),aI (a1c0.fCond.fVar),aI (a1c0.fCond.fField),aI (a1c0.fCond.fKind),aI (a1c0.fCond.fValue.fKind),aI (a1c0.fCond.fValue.fNum),.str (a1c0.fCond.fValue.fText),.sl 1 (a1c0.fOpens.map aI),.sl 1 (a1c0.fCloses.map aI),.sl 8 (a1c0.fChecks.map idA),.sl 2 (a1c0.fLimits.map z0r),.sl 1 (a1c0.fInside.map aI)],.ref [.sl 1 (List.map (fun q=>AV.sl 5 (List.map z04 q)) (a1c1.fVars))],.ref [aI (a1c2.fSource),aI (a1c2.fSeq),aI (a1c2.fType),aI (a1c2.fTime),.sl 3 (a1c2.fValues.map z0a)]]] (zgv r):=by
 unfold z8o at hF
 refine Con.walk _ Tryz.func54 rfl (z08 Tryz.func54 rfl rfl) rfl (Or.inr rfl) ?_
 repeat' first
  |refine AW.step ?_;conv=>whnf
  |refine z0v.o hF (fun hF=>?_) (fun hF=>?_)
  |refine IdxX.o z0t hF (fun x hF=>?_)
  |refine z0m.o hF zgy (fun a h=>zo9 h) (fun a hF=>?_)
  |exact ⟨_,hF,LeX.a []⟩
  |refine zm8 hF (LeX.a []) (fun m v hF=>?_);unfold z4l at hF
  |exact RetX.oA hF
def zfc (r:Bool):AV:=.bool (r)
theorem zjs {n a0 a1c0 a1c1 a1c2 r}(hF:z78 n a0 a1c0 a1c1 a1c2=some r):Con E0 true 20 [.sl 11 (a0.map z0t),.fn 132 [.ref [aI (a1c0.fFrom),aI (a1c0.fTo),aI (a1c0.fVar),aI (a1c0.fType),aI (a1c0.fCond.fOp),.sl 8 (a1c0.fCond.fArgs.map idA),aI (a1c0.fCond.fVar),aI (a1c0.fCond.fField),aI (a1c0.fCond.fKind),aI (a1c0.fCond.fValue.fKind),aI (a1c0.fCond.fValue.fNum),.str (a1c0.fCond.fValue.fText),.sl 1 (a1c0.fOpens.map aI),.sl 1 (a1c0.fCloses.map aI),.sl 8 (a1c0.fChecks.map idA),.sl 2 (a1c0.fLimits.map z0r),.sl 1 (a1c0.fInside.map aI)],.ref [.sl 1 (List.map (fun q=>AV.sl 5 (List.map z04 q)) (a1c1.fVars))],.ref [aI (a1c2.fSource),aI (a1c2.fSeq),aI (a1c2.fType),aI (a1c2.fTime),.sl 3 (a1c2.fValues.map z0a)]]] (zfc r):=by
 unfold z78 at hF
 refine Con.walk _ Tryz.func20 rfl (z08 Tryz.func20 rfl rfl) rfl (Or.inr rfl) ?_
 repeat' first
  |refine AW.step ?_;conv=>whnf
  |refine z0m.o hF zgv (fun a h=>zo6 h) (fun a hF=>?_)
  |exact RetX.oA hF
set_option maxHeartbeats 400000 in
theorem clone175_any (l:List (Cel 2))(S:Nat->Prop)(v:Value)(w:World)(h:Sl w S 2 encC v l)(hl:l.length<=1000000000) :
  Calls Tryz.prog 175 #[v] w (RetOwn 120 2 encC l w):=by
 have eok:EOk Tryz.prog 75 120 2 16 (encC (n:=2)):=eokC (sz:=2) tyOk75 rfl tyOk120 (by omega) rfl
 obtain ⟨A,c,rfl,hc,_⟩:=h.form
 have hq:=fun (W:World)=>Lib.run_eql_slice_nil W 75 120 A l.length c 0 0 Tryz.underlying75
 have H:=hide h
 cases A with
 |none =>
  have h0:l=[]:=h.none_nil
  subst h0
  clear h H hl hc
  simp only [List.length_nil,Option.isNone_none] at hq ⊢
  go_enter Tryz.func175,Tryz.ntmps175
  go_wp2
  go_ret
  exact ⟨none,0,rfl,Own.nil_,by go_grown⟩
 |some ad =>
  clear h
  go_enter Tryz.func175,Tryz.ntmps175
  go_wp2_with (at_builtin;refine z9y rfl _ _ rfl eok rfl Own.made_ rfl (H.out.alloc _) (by simp;omega) (by omega) (by simp) ?_;intro A' c' w1 ho hg _)
  go_ret
  exact ⟨A',c',rfl,ho,(Own.made_ (sz:=2) (enc:=encC (n:=2))).grown ((Below.refl _ _).alloc (Nat.le_refl _) _) (Nat.le_refl _) (by simp) hg⟩
theorem conT_clone175 {n a r}(hF:zd7 n a=some r):ConT E0 175 [.sl 2 (List.map z07 a)] 120 2 (List.map z07 r) (.row 0):=zqg rfl (z08 Tryz.func175 rfl rfl) clone175_any hF
def y04 (r:Int):AV:=aI (r)
theorem con_run_opened_1 {n a0 a1 r}(hF:zcl n a0 a1=some r):Con E0 true 177 [.agg [aI (a0.fScope),aI (a0.fTime)],aI (a1)] (y04 r):=by
 unfold zcl at hF
 refine Con.walk _ Tryz.func177 rfl (z08 Tryz.func177 rfl rfl) rfl (Or.inr rfl) ?_
 repeat' first
  |refine AW.step ?_;conv=>whnf
  |refine z0m.o hF zbw (fun a h=>zat h) (fun a hF=>?_)
  |exact RetX.oA hF
def zjz (a1:Int)(a0:(List z0c))(v1_0:Int×Int):AS:=⟨[(0,.sl 2 (a0.map z07)),(1,aI (a1)),(2,.fn 177 []),(8,aI (((a0.map z07).length:Int))),(9,aI (v1_0.1)),(10,aI (v1_0.2))],[]⟩
theorem zjr {n a1 a0 k1_0_0}:z27 E0 49 (z2c n a1 a0 k1_0_0) (zjz a1 a0):=LoopA.oT fun _=>rfl
def zfq (r:Int×Bool):AV:=.tup [aI (r.1),.bool (r.2)]
theorem zko {n a0 a1 r}(hF:z5g n a0 a1=some r):Con E0 true 176 [.sl 2 (a0.map z07),aI (a1),.fn 177 []] (zfq r):=by
 unfold z5g at hF
 refine Con.walk _ Tryz.func176 rfl (z08 Tryz.func176 rfl rfl) rfl (Or.inr rfl) ?_
 repeat' first
  |refine AW.step ?_;conv=>whnf
  |refine z0v.o hF (fun hF=>?_) (fun hF=>?_)
  |refine IdxX.o z07 hF (fun x hF=>?_)
  |refine z0m.o hF y04 (fun a h=>con_run_opened_1 h) (fun a hF=>?_)
  |exact ⟨_,hF,LeX.a []⟩
  |refine ShX.o hF (fun hF=>?_)
  |refine zjr hF (LeX.a []) (fun m v hF=>?_);unfold z2c at hF
  |exact RetX.oA hF
set_option maxRecDepth 100000 in
set_option maxHeartbeats 1600000 in
theorem insert178_any (l:List (Cel 2))(x:Cel 2)(i:Nat)(base:Nat)(A:Option Addr)(c g off c1:Nat)(w:World)(ho:Own w base 120 2 encC (.slice A l.length c) l)
  (hx:Xk w g off (encC x)) (hc1:1<=c1) (hne:(Value.slice A l.length c).ownBlock≠some g) (hi:i<=l.length) (hl:l.length<=1000000000) (hbase:base<=w.heap.size) :
  Calls Tryz.prog 178 #[.slice A l.length c,.int .i64 i,.slice (some ⟨g,off,none⟩) 1 c1] w (RetInsX 120 2 encC base (.slice A l.length c) (l.take i++x::l.drop i) w):=by
 have hlen:(l.take i++x::l.drop i).length=l.length+1:=by simp;omega
 have hxl:(encC x).length=2:=x.2.1
 have eok:EOk Tryz.prog 75 120 2 16 (encC (n:=2)):=eokC (sz:=2) tyOk75 rfl tyOk120 (by omega) rfl
 by_cases hin:i=l.length
 ·subst hin
  have hsl:Hid (Sl w (fun _=>True) 2 encC (.slice (some ⟨g,off,none⟩) 1 c1) [x]):=Sl.one_x hc1 hx
  have H:=hide ho
  have hll:Hid (l.take l.length++x::l.drop l.length=l++[x]):=by simp [Hid]
  have hc:l.length<=c:=by obtain ⟨_,_,he,h1,_⟩:=ho.val;injection he with _ _ hc;omega
  rw [hll.out]
  clear ho hx hne hlen
  go_enter Tryz.func178,Tryz.ntmps178
  go_wp2_with (at_builtin;refine z9y (v:=.slice A l.length c) rfl _ _ rfl eok rfl H.out rfl hsl.out (by simp;omega) (by omega) hbase ?_;intro A2 c2 w2 ho2 hg2 hb2)
  all_goals (go_ret;exact ⟨A2,c2,by simp,ho2,by cases A<;>exact hg2,by cases A<;>exact hb2⟩)
 ·rcases ho.2 with ⟨hv,h0⟩|⟨g',cap,cur,hv,hbg,hh,hnc,hcm,hcs,htake⟩
  ·omega
  injection hv with hA _ hcc
  subst hA
  subst hcc
  have hgg:g'≠g:=fun e=>hne (by simp [Value.ownBlock,e])
  have hlt:i<l.length:=by omega
  have hF1:((l.take i).flatMap encC).length=i*2:=by rw [y0e (sz:=2) (fun y=>y.2.1)];simp;omega
  have hF2:((l.drop i).flatMap encC).length=(l.length-i)*2:=by rw [y0e (sz:=2) (fun y=>y.2.1)];simp
  have hF12:(l.take i).flatMap encC++(l.drop i).flatMap encC=l.flatMap encC:=by rw [<-List.flatMap_append,List.take_append_drop]
  have hres:(l.take i++x::l.drop i).flatMap encC=(l.take i).flatMap encC++encC x++(l.drop i).flatMap encC:=by simp [List.flatMap_append,List.flatMap_cons]
  have h2:=flatMap_one eok.one (l.drop i)
  have hX1:=eok.one x
  have hcur:cur.toList=(l.take i).flatMap encC++(l.drop i).flatMap encC++cur.toList.drop (l.length*2):=by rw [hF12,<-htake,List.take_append_drop]
  generalize hf1:(l.take i).flatMap encC=F1 at *
  generalize hf2:(l.drop i).flatMap encC=F2 at *
  generalize hX:encC x=X at *
  have hRl:(cur.toList.drop (l.length*2)).length=c*2-l.length*2:=by simp [hcs]
  generalize cur.toList.drop (l.length*2)=R at *
  obtain ⟨cur⟩:=cur
  simp only at hcur
  subst hcur
  generalize hn:l.length=n at *
  by_cases hroom:n+1<=c
  ·have hhi:(i:Int)<(n:Int):=by omega
   have hB0:Blk w g' 120 (F1++F2++R).toArray:=hh
   have hov:∀ lb cb,(callFunc 201 #[.slice (some ⟨g,off,none⟩) 1 c1,.slice (some ⟨g',(i+1)*2,none⟩) lb cb]).run Tryz.prog w=.ok (.value (.bool false)) w:=fun lb cb=>by
    rw [run_callFunc_extern Tryz.func201 (by kernel_rfl) (by kernel_rfl) (by kernel_rfl) (e:=Extern.SlicesOverlaps.overlaps #[75,75] #[4]) (by kernel_rfl),
     run_overlaps_b w 75 4 120 Tryz.underlying75 2 (fun _=>by kernel_rfl) ⟨g,off,none⟩ ⟨g',(i+1)*2,none⟩ 1 c1 lb cb (fun e=>hgg e.symm) hx.shape 120 (F1++F2++R).toArray.size (hB0.shape) (by rw [List.size_toArray,List.length_append,List.length_append];omega) (hB0.frozen _) (hB0.frozen _)]
    rfl
   have hBH:=hide hB0
   have hxH:=hide hx
   have hdl:Hid (F2.length=Nat.min (n+1-i) (n-i)*2):=by unfold Hid;rw [show Nat.min (n+1-i) (n-i)=n-i from Nat.min_eq_right (by omega)];exact hF2
   have hsrc:Hid (∀ (W:World),W.heap=w.heap->∀ j u,F2[j]? = some u->W.cell? ((⟨g',i*2,none⟩:Addr).add j)=some u):=fun W hW j u hu=>by
    have e:Blk W g' 120 (F1++F2++R).toArray:=by unfold Blk;rw [hW];exact hB0
    rw [Addr.add_lit,e.cell]
    have hj:=(List.getElem?_eq_some_iff.1 hu).1
    simp only [List.getElem?_toArray]
    rw [List.append_assoc,List.getElem?_append_right (by omega),List.getElem?_append_left (by omega),show i*2+j-F1.length=j by omega]
    exact hu
   have hHx:=hide h2
   have HL:=hide (And.intro hlen (And.intro hres (And.intro hbg hcs)))
   have hxl:=hide hxl
   clear hx hB0 hh htake hne hF12 hcs ho h2 hlen hres
   go_enter Tryz.func178,Tryz.ntmps178
   go_wp2_with fail
   have hw1:IntKind.i64.wrap ((i:Int)+1)=(i:Int)+1:=by rw [IntKind.wrap_i64];omega
   have hb1:(0:Int)<=(i:Int)+1:=by omega
   have hii:i<=n:=by omega
   have htn:((i:Int)+1).toNat=i+1:=by omega
   have hb2:¬(c=i+1):=by omega
   have hb3:(i:Int)<=(n:Int)+1:=by omega
   have hb4:¬(c=i):=by omega
   go_region_law (refine y10 rfl _ _ 75 75 rfl 120 2 Tryz.underlying75 (by kernel_rfl) g' ((i+1)*2) (n-i) (c-(i+1)) (n+1-i) (c-i) ⟨g',i*2,none⟩ (by simp [Act.eval,Act.put]) (by simp [Act.eval,Act.put]) 120 (F1++F2++R) hBH.out F2 hdl.out (hsrc.out _ rfl) (by simp;omega) hHx.out ?_;intro w1 hB1 hg1)
   clear hw1 hb1 htn hb2
   have hB1':Hid (Blk w1 g' 120 ((F1++F2++R).take (i*2+2)++F2++(F1++F2++R).drop (i*2+2+F2.length)).toArray):=by
    have e:(i+1)*2=i*2+2:=by omega
    rw [e] at hB1
    exact hB1
   have hX2:Hid (∀ j u,X[j]? = some u->w1.cell? ((⟨g,off,none⟩:Addr).add j)=some u):=fun j u hu=>by
    have e:Xk w1 g off X:=Xk.grown (w:=w.drew) hxH.out hg1 (by simp;omega)
    rw [Addr.add_lit]
    exact e.cell hu
   have hg1':=hide (zhs hg1)
   have hX1':=hide hX1
   clear hB1 hg1 hX1
   go_wp2_with (refine zwi rfl (.tmp 80) (.tmp 81) 75 75 rfl 120 2 Tryz.underlying75 (by kernel_rfl) g' (i*2) (n+1-i) (c-i) 1 c1 ⟨g,off,none⟩ rfl rfl 120 _ hB1'.out X (by rw [show Nat.min 1 (n+1-i)=1 from Nat.min_eq_left (by omega)];exact hxl.out) hX2.out (by have:=hxl.out;have:=hRl;simp;omega) hX1'.out ?_;intro w2 hB2 hg2)
   go_ret
   have hfin:=HL.out
   refine ⟨some ⟨g',0,none⟩,c,by show Ending.returned (.slice (some ⟨g',0,none⟩) (n+1) c)=_;rw [hfin.1],Own.of_blk hB2 hfin.2.2.1 (by rw [hfin.1];exact hroom) hcm (by have:=hxl.out;have:=hRl;simp;omega) ?_ (fun y=>y.2.1),y1c hg1'.out hg2,Or.inl rfl⟩
   rw [hfin.1,hfin.2.1,<-insert_in_place F1 F2 R X (i*2) 2 ((n-i)*2) hF1 hF2 hxl.out (by omega)]
   congr 1
   omega
  ·have hB0:Blk w g' 120 (F1++F2++R).toArray:=hh
   obtain ⟨i0,z,hi0,hz0,hzs,hzb,hzc⟩:=eok.inf
   have hik:i+(n+1-i)=n+1:=by omega
   have hkk:(n:Int)+1-(i:Int)=((n+1-i:Nat):Int):=by omega
   have hgw:g' < w.heap.size:=hB0.lt
   have hgx:g<w.heap.size:=hx.lt
   have hold:(Builtin.firstCells i0.size i (.slice (some ⟨g',0,none⟩) i c)).run Tryz.prog w.drew=.ok F1.toArray w.drew:=by
    rw [hzs]
    refine run_firstCells_some w.drew 2 i ⟨g',0,none⟩ i c F1 hF1 (fun j v hj=>?_)
    have hjl:=(List.getElem?_eq_some_iff.1 hj).1
    rw [Addr.add_lit]
    refine (hB0.cell _).trans ?_
    simp only [List.getElem?_toArray,Nat.zero_add]
    rw [List.append_assoc,List.getElem?_append_left (by omega)]
    exact hj
   have hrz:=fun ty=>Lib.run_append_grow_zeros w 75 3 ty 120 i0 z .i64 .i64 eok.und Tryz.underlying3 hi0 hz0 (some ⟨g',0,none⟩) i c F1 hold (n+1-i) (by omega) (by omega) (by omega) (by omega) (by rw [hzb];omega) (by rw [hzb,hik];exact growslice_fits (by omega) (by omega))
   rw [hik] at hrz
   obtain ⟨G,hG⟩:∃ G,G=grownCap w (n+1) c 120:=⟨_,rfl⟩
   rw [<-hG] at hrz
   have hGn:n+1<=G:=by rw [hG];exact grownCap_ge w _ _ _
   have hG63:G<=maxLen:=by rw [hG];exact grownCap_le_maxLen w (n+1) c 120 (by unfold maxLen;omega)
   obtain ⟨Z,hZ,hZl⟩:∃ Z:List Value,F1.toArray++Builtin.zeroCells z.cells (n+1-i)++Builtin.zeroCells z.cells (G-(n+1))=(F1++Z).toArray/\Z.length=(G-i)*2 :=
    ⟨(Builtin.zeroCells z.cells (n+1-i)).toList++(Builtin.zeroCells z.cells (G-(n+1))).toList,by simp [Array.append_assoc],by simp [size_zeroCells,hzc];omega⟩
   rw [hZ] at hrz
   obtain ⟨W1,hW1⟩:∃ W1,W1=w.drew.alloc (.cells (F1++Z).toArray 120):=⟨_,rfl⟩
   have hBN:Hid (Blk W1 w.heap.size 120 (F1++Z).toArray):=by rw [hW1];exact Blk.new w.drew _ _
   have hxN:Hid (Xk W1 g off X):=by rw [hW1];exact Xk.alloc (w:=w.drew) hx _
   have hB1:Hid (Blk W1 g' 120 (F1++F2++R).toArray):=by rw [hW1];exact Blk.alloc (w:=w.drew) hB0 _
   have hgW:Hid (∀ b,W1.grownBy b (some w.heap.size)->∀ row,w.grownBy b row):=fun b hb row=>by
    rw [hW1] at hb
    exact zhs (y1d hb row)
   have hrz':Hid (∀ ty,(Builtin.append_ #[75,3] ty #[.slice (some ⟨g',0,none⟩) i c,.int .i64 ((n:Int)+1-(i:Int))]).run Tryz.prog w=.ok (.slice (some ⟨w.heap.size,0,none⟩) (n+1) G) W1):=fun ty=>by
    rw [hkk,hW1]
    exact hrz ty
   have hX2:Hid (∀ j u,X[j]? = some u->W1.cell? ((⟨g,off,none⟩:Addr).add j)=some u):=fun j u hu=>by
    rw [Addr.add_lit]
    exact hxN.out.cell hu
   have HL:=hide (And.intro hlen (And.intro hres (And.intro hbg hcs)))
   have hxl:=hide hxl
   have hX1':=hide hX1
   have h2':=hide h2
   have hF2':Hid (F2.length=Nat.min (n-i) (n-i)*2):=by unfold Hid;rw [show Nat.min (n-i) (n-i)=n-i from Nat.min_self _];exact hF2
   have hhi:(i:Int)<(n:Int):=by omega
   have hhc:(c:Int)<(n:Int)+1:=by omega
   have hii:i<=n:=by omega
   have hci:¬(c=i):=by omega
   have hGi:¬(G=i):=by omega
   have hGi1:¬(G=i+1):=by omega
   have hGl:G<=9223372036854775807:=by unfold maxLen at hG63;omega
   clear hx hB0 hh htake hne hF12 hcs ho h2 hlen hres hX1 hrz hold hW1 hZ hG hkk hzs hzb hzc hz0 hi0 hcm
   go_enter Tryz.func178,Tryz.ntmps178
   go_wp2_with (first|(at_builtin;refine Lib.wpList_append_run _ rfl _ _ _ _ rfl _ _ rfl rfl _ _ (hrz'.out _) ?_)|(refine zwi rfl (.tmp 43) (.tmp 44) 75 75 rfl 120 2 Tryz.underlying75 (by kernel_rfl) w.heap.size (i*2) (n+1-i) (G-i) 1 c1 ⟨g,off,none⟩ rfl rfl 120 _ hBN.out X (by rw [show Nat.min 1 (n+1-i)=1 from Nat.min_eq_left (by omega)];exact hxl.out) hX2.out (by have:=hxl.out;simp;omega) hX1'.out ?_;intro w2 hB2 hg2))
   have hgN:g'≠w.heap.size:=by omega
   have hsrc:Hid (∀ j u,F2[j]? = some u->w2.cell? ((⟨g',i*2,none⟩:Addr).add j)=some u):=fun j u hu=>by
    have e:Blk w2 g' 120 (F1++F2++R).toArray:=hB1.out.grown hg2 (by simp;omega)
    rw [Addr.add_lit,e.cell]
    have hj:=(List.getElem?_eq_some_iff.1 hu).1
    simp only [List.getElem?_toArray]
    rw [List.append_assoc,List.getElem?_append_right (by omega),List.getElem?_append_left (by omega),show i*2+j-F1.length=j by omega]
    exact hu
   have hg2':=hide hg2
   have hB2':=hide hB2
   have hw1:IntKind.i64.wrap ((i:Int)+1)=(i:Int)+1:=by rw [IntKind.wrap_i64];omega
   have hb1:(0:Int)<=(i:Int)+1:=by omega
   have htn:((i:Int)+1).toNat=i+1:=by omega
   have hb3:(i:Int)<=(n:Int):=by omega
   have hb5:(i:Int)+1<=(n:Int)+1:=by omega
   clear hg2 hB2
   go_region_law (refine y10 rfl _ _ 75 75 rfl 120 2 Tryz.underlying75 (by kernel_rfl) w.heap.size ((i+1)*2) (n-i) (G-(i+1)) (n-i) (c-i) ⟨g',i*2,none⟩ (by simp [Act.eval,Act.put]) (by simp [Act.eval,Act.put]) 120 _ hB2'.out F2 hF2'.out hsrc.out (by have:=hxl.out;simp;omega) h2'.out ?_;intro w3 hB3 hg3)
   clear hw1 hb1 htn hb3 hb5
   have hB3':Hid (Blk w3 w.heap.size 120 (((F1++Z).take (i*2)++X++(F1++Z).drop (i*2+X.length)).take (i*2+2)++F2++((F1++Z).take (i*2)++X++(F1++Z).drop (i*2+X.length)).drop (i*2+2+F2.length)).toArray):=by
    have e:(i+1)*2=i*2+2:=by omega
    rw [e] at hB3
    exact hB3
   have hg3':=hide (zhs hg3)
   clear hB3 hg3
   go_wp2
   go_ret
   have hfin:=HL.out
   have hx2:=hxl.out
   refine ⟨some ⟨w.heap.size,0,none⟩,G,by show Ending.returned (.slice (some ⟨w.heap.size,0,none⟩) (n+1) G)=_;rw [hfin.1],Own.of_blk hB3'.out hbase (by rw [hfin.1];exact hGn) hG63 (by simp;omega) ?_ (fun y=>y.2.1),hgW.out _ (y1c hg2'.out hg3'.out) _,Or.inr rfl⟩
   rw [hfin.1,hfin.2.1,<-insert_grown F1 F2 Z X (i*2) 2 ((n-i)*2) hF1 hF2 hx2 (by omega)]
   congr 1
   omega
theorem conC_insert178 {n a v r i}(hF:zz2 n a i v=some r):ConC false E0 178 [.row 0,aI i,.sl 2 (List.map z07 v)] 120 2 (List.map z07 a) 120 2 (List.map z07 r) (.row 0):=insert_gen rfl (z08 Tryz.func178 rfl rfl) (by omega) insert178_any hF
def S_run_opened_j3 (a2:Int)(a1:(List Int))(v1_0:Int×(List z0c))(cv1_0:(Int×(List z0c))->Option ((List z0c)))(x44:Int×Bool)(w3_1:(List z0c)):AS:=⟨[(2,aI (a2)),(7,.row 7033),(10,aI (x44.1)),(14,.sl 1 (a1.map aI)),(15,aI (((a1.map aI).length:Int))),(16,aI (v1_0.1))],[(7033,.row 120 2 (w3_1.map z07))]⟩
theorem run_opened_j3_o {n a2 a1 v1_0 cv1_0 x44}:zjn E0 41 (zb7 n a2 a1 v1_0 cv1_0 x44) (S_run_opened_j3 a2 a1 v1_0 cv1_0 x44):=AW.jT2
def S_run_opened_l1 (a2:Int)(a1:(List Int))(v1_0:Int×(List z0c)):AS:=⟨[(2,aI (a2)),(7,.row 7013),(14,.sl 1 (a1.map aI)),(15,aI (((a1.map aI).length:Int))),(16,aI (v1_0.1))],[(7013,.row 120 2 (v1_0.2.map z07))]⟩
theorem run_opened_l1_o {n a2 a1 k1_0_0}:z27 E0 41 (z9r n a2 a1 k1_0_0) (S_run_opened_l1 a2 a1):=LoopA.oT fun _=>rfl
def zxz (r:(List z0c)):AV:=.row 0
theorem conT_run_opened {n a0 a1 a2 r}(hF:zj0 n a0 a1 a2=some r):ConT E0 134 [.sl 2 (a0.map z07),.sl 1 (a1.map aI),aI (a2)] 120 2 (r.map z07) (zxz r):=by
 unfold zj0 at hF
 refine ConT.walk _ Tryz.func134 rfl (z08 Tryz.func134 rfl rfl) rfl rfl ?_
 repeat' first
  |refine run_opened_j3_o hF (fun hF=>?_) (fun v hF=>?_);rotate_left;unfold zb7 at hF
  |refine AW.regO hF (fun hF=>?_)
  |refine AW.stepU [6] ?_;conv=>whnf
  |refine z0v.o hF (fun hF=>?_) (fun hF=>?_)
  |refine z0m.oR hF (fun r=>r) z07 (fun _=>AV.row 0) rfl (fun a h=>conT_clone175 h) (fun a hF=>?_)
  |refine IdxX.o aI hF (fun x hF=>?_)
  |refine zbm.o hF zfq (fun a h=>zko h) (fun _=>Or.inr rfl) (fun a hF=>?_)
  |refine NatX.o hF (fun m hF=>?_)
  |refine LtX.o hF (fun hF=>?_)
  |refine SetX.o z07 hF (fun x=>rfl) (fun x=>(by first|exact SubL.refl _|(repeat' first|exact SubL.nil|refine SubL.cons ?_ ?_|exact Sub.refl _|exact Sub.nil _|refine Sub.agg ?_))) (fun l hF=>?_)
  |exact ⟨_,hF,LeX.a [(7013,7033)]⟩
  |refine zbm.oC hF 7013 (fun r=>r) z07 (fun _=>AV.row 0) rfl (fun a h=>conC_insert178 h) rfl rfl rfl rfl rfl rfl (fun a hF=>?_)
  |exact ⟨_,hF,LeX.a [(7033,33)]⟩
  |exact ⟨_,hF,LeX.a [(7033,7013)]⟩
  |refine run_opened_l1_o hF (LeX.a [(7013,13)]) (fun m v hF=>?_);unfold z9r at hF
  |refine TX.o (rl:=fun r=>r.map z07) (res:=zxz) hF ?_;exact TX.mk _ 7013 (LeX.refl _ _ _) _ rfl rfl (by repeat' first|exact Sub.nil _|exact Sub.refl _|refine Sub.agg ?_|refine Sub.tup ?_|refine Sub.fn ?_|exact SubL.nil|refine SubL.cons ?_ ?_|refine Sub.sl _ ?_|exact SubE.nil|refine SubE.cons ?_ ?_)
def y05 (r:Bool):AV:=.bool (r)
theorem con_run_intime_1 {n a0 a1 r}(hF:zft n a0 a1=some r):Con E0 true 180 [.agg [aI (a0.fScope),aI (a0.fTime)],.ref [aI (a1.fScope),aI (a1.fSpan)]] (y05 r):=by
 unfold zft at hF
 refine Con.walk _ Tryz.func180 rfl (z08 Tryz.func180 rfl rfl) rfl (Or.inr rfl) ?_
 repeat' first
  |refine AW.step ?_;conv=>whnf
  |exact RetX.oA hF
def zms (a1c0:z0z)(a0:(List z0c))(v1_0:Int):AS:=⟨[(0,.sl 2 (a0.map z07)),(1,.fn 180 [.ref [aI (a1c0.fScope),aI (a1c0.fSpan)]]),(7,aI (((a0.map z07).length:Int))),(8,aI (v1_0))],[]⟩
theorem zm7 {n a1c0 a0 k1_0_0}:z27 E0 19 (z4k n a1c0 a0 k1_0_0) (zms a1c0 a0):=LoopA.oT fun _=>rfl
def zgu (r:Int):AV:=aI (r)
theorem zo5 {n a0 a1c0 r}(hF:z8n n a0 a1c0=some r):Con E0 true 179 [.sl 2 (a0.map z07),.fn 180 [.ref [aI (a1c0.fScope),aI (a1c0.fSpan)]]] (zgu r):=by
 unfold z8n at hF
 refine Con.walk _ Tryz.func179 rfl (z08 Tryz.func179 rfl rfl) rfl (Or.inr rfl) ?_
 repeat' first
  |refine AW.step ?_;conv=>whnf
  |refine z0v.o hF (fun hF=>?_) (fun hF=>?_)
  |refine IdxX.o z07 hF (fun x hF=>?_)
  |refine z0m.o hF y05 (fun a h=>con_run_intime_1 h) (fun a hF=>?_)
  |exact ⟨_,hF,LeX.a []⟩
  |refine zm7 hF (LeX.a []) (fun m v hF=>?_);unfold z4k at hF
  |exact RetX.oA hF
def S_run_intime_j3 (a2:Int)(a1:(List z0z))(a0:(List z0c))(v1_0:Int)(cv1_0:Int->Option (Bool))(w3_1:Bool):AS:=⟨[(0,.sl 2 (a0.map z07)),(2,aI (a2)),(10,.sl 2 (a1.map z0r)),(11,aI (((a1.map z0r).length:Int))),(12,aI (v1_0)),(32,.bool (w3_1))],[]⟩
theorem run_intime_j3_o {n a2 a1 a0 v1_0 cv1_0}:z3v E0 34 (zb8 n a2 a1 a0 v1_0 cv1_0) (S_run_intime_j3 a2 a1 a0 v1_0 cv1_0):=AW.jT
def S_run_intime_l1 (a2:Int)(a1:(List z0z))(a0:(List z0c))(v1_0:Int):AS:=⟨[(0,.sl 2 (a0.map z07)),(2,aI (a2)),(10,.sl 2 (a1.map z0r)),(11,aI (((a1.map z0r).length:Int))),(12,aI (v1_0))],[]⟩
theorem run_intime_l1_o {n a2 a1 a0 k1_0_0}:z27 E0 34 (z9s n a2 a1 a0 k1_0_0) (S_run_intime_l1 a2 a1 a0):=LoopA.oT fun _=>rfl
def R_run_intime (r:Bool):AV:=.bool (r)
end Go.Proofs.YtjpknpjjcddnnaaGreat
