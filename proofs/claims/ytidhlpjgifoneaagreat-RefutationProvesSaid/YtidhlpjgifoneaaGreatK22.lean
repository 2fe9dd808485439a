/- What some functions compute, over plain values. -/
import Derived.Test.YtidhlpjgifoneaaGreatK18
set_option linter.unusedVariables false
set_option linter.unusedSimpArgs false
set_option maxRecDepth 100000
set_option maxHeartbeats 8000000
namespace Go.Proofs.YtidhlpjgifoneaaGreat
open Go.RowKit
noncomputable section
@[reducible,instance] def zx2 {n b a1 a0 c d e}:=jf (z52 n b a1 a0 c d e) (fun f=>⟨[(1,aI a1),(2,.ptr 2 0),(5,aI c.1),(6,aI c.2),(16,.bool (f))],[(2,.box 111 (z8q a0))]⟩) fun _=>z52.eq_1 ..
@[reducible,instance] def zx1 {n b a1 a0 c}:=li (z3d n b a1 a0 c) (fun d=>⟨[(1,aI a1),(2,.ptr 2 0),(5,aI d.1),(6,aI d.2)],[(2,.box 111 (z8q a0))]⟩) fun _ _=>z3d.eq_2 ..
def zmi (r:Int):AV:=aI (r)
theorem zk1 {n a0 a1 r}(hF:z30 n a0 a1=some r):Con E0 true 95 [z0l a0,aI a1] (aI r):=by
 induction n generalizing a0 a1 r
 case zero=>cases hF
 case succ n ih =>
 unfold z30 at hF
 refine cw Tryz.func95 ?_
 repeat' first
  |refine AW.jI hF (fun v hF=>?_) fun hF=>?_
  |refine AW.regO hF fun hF=>?_
  |refine AW.stepU [3] ?_;conv=>whnf
  |refine z14.o hF (fun hF=>?_) fun hF=>?_
  |refine zes.oD hF z40 (fun x hF=>?_)
  |refine z1q.o hF zmi (fun a h=>ih h) (fun a hF=>?_)
  |exact ⟨_,hF,LeX.a []⟩
  |refine z8f.I hF (LeX.a []) fun m v hF=>?_
  |exact zei.oB hF
instance y1c {n a0 a1}:CI E0 (z30 n a0 a1) true 95 [z0l a0,aI a1] aI:=⟨zk1⟩
@[reducible,instance] def zx0 {n b a0 c}:=li (z7i n b a0 c) (fun d=>⟨[(1,.ptr 1 0),(3,aI d.1),(4,aI d.2)],[(1,.box 111 (z8q a0))]⟩) fun _ _=>z7i.eq_2 ..
def zmh (r:Int):AV:=aI (r)
theorem zk0 {n a0 r}(hF:z2z n a0=some r):Con E0 true 96 [z0l a0] (aI r):=by
 induction n generalizing a0 r
 case zero=>cases hF
 case succ n ih =>
 unfold z2z at hF
 refine cw Tryz.func96 ?_
 repeat' first
  |refine AW.step ?_;conv=>whnf
  |refine z14.o hF (fun hF=>?_) fun hF=>?_
  |refine zes.oD hF z40 (fun x hF=>?_)
  |refine z1q.o hF zmh (fun a h=>ih h) (fun a hF=>?_)
  |exact ⟨_,hF,LeX.a []⟩
  |refine z8f.I hF (LeX.a []) fun m v hF=>?_
  |exact zei.oB hF
instance y1b {n a0}:CI E0 (z2z n a0) true 96 [z0l a0] aI:=⟨zk0⟩
@[reducible,instance] def zwv {n}:=jt (z1f n) (fun b=>⟨[(12,.bool (b))],[]⟩) fun _=>z1f.eq_1 ..
@[reducible,instance] def zww {n a0}:=jt (z1w n a0) (fun b=>⟨[(3,aI a0),(4,.bool (b))],[]⟩) fun _=>z1w.eq_1 ..
instance y19 {n a0}:CI E0 (zbh n a0) true 235 [aI a0] aI:=by unfold zbh;exact CI.w [2,3,4,5,10,11,12,13,14,15] Tryz.func235
@[reducible,instance] def zzk {n b}:=jf (z3o n b) (fun c=>⟨[(2,.bool (c)),(3,.bool (b))],[]⟩) fun _=>z3o.eq_1 ..
@[reducible,instance] def zzl {n a0}:=jf (z60 n a0) (fun b=>⟨[(0,aI a0),(4,.bool (b))],[]⟩) fun _=>z60.eq_1 ..
instance y3g {n a0}:CI E0 (zbw n a0) true 234 [aI a0] (fun r=>.tup [.bool (r.1),.bool (r.2)]):=by unfold zbw;exact CI.w [1,2] Tryz.func234
instance y1j {n a0}:CI E0 (z3s n a0) true 236 [z09 a0] aI:=by unfold z3s;exact CI.w [] Tryz.func236
@[reducible,instance] def zx3 {n}:=jf (z2c n) (fun b=>⟨[(4,.bool (b))],[]⟩) fun _=>z2c.eq_1 ..
instance y1f {n a0 a1}:CI E0 (z7y n a0 a1) true 237 [aI a0,z09 a1] (fun r=>.bool (r)):=by unfold z7y;exact CI.w [1] Tryz.func237
@[reducible,instance] def zzn {n}:=jf (z0j n) (fun b=>⟨[(130,.bool (b))],[]⟩) fun _=>z0j.eq_1 ..
@[reducible,instance] def zzo {n a0 x2 b}:=jf (z2q n a0 x2 b) (fun c=>⟨[(1,.ptr 1 0),(4,.bool (x2.1)),(5,.bool (x2.2)),(6,.bool (decide (a0.fOp=4))),(7,.bool (b)),(95,.bool (c))],[(1,.box 111 (z8q a0))]⟩) fun _=>z2q.eq_1 ..
@[reducible,instance] def zzp {n a0 x2 b}:=jt (z61 n a0 x2 b) (fun _=>⟨[(1,.ptr 1 0),(4,.bool (x2.1)),(5,.bool (x2.2)),(6,.bool (decide (a0.fOp=4))),(7,.bool (b))],[(1,.box 111 (z8q a0))]⟩) fun _=>z61.eq_1 ..
@[reducible,instance] def zzq {n a0 x2}:=jf (z62 n a0 x2) (fun b=>⟨[(1,.ptr 1 0),(4,.bool (x2.1)),(5,.bool (x2.2)),(6,.bool (decide (a0.fOp=4))),(7,.bool (b))],[(1,.box 111 (z8q a0))]⟩) fun _=>z62.eq_1 ..
@[reducible,instance] def zzr {n a0 x2}:=jf (z3q n a0 x2) (fun b=>⟨[(1,.ptr 1 0),(4,.bool (x2.1)),(5,.bool (x2.2)),(6,.bool (decide (a0.fOp=4))),(62,.bool (b))],[(1,.box 111 (z8q a0))]⟩) fun _=>z3q.eq_1 ..
@[reducible,instance] def zzs {n a0 x2}:=jf (z1e n a0 x2) (fun b=>⟨[(1,.ptr 1 0),(4,.bool (x2.1)),(5,.bool (x2.2)),(48,.bool (b))],[(1,.box 111 (z8q a0))]⟩) fun _=>z1e.eq_1 ..
instance y3i {n a0}:CI E0 (zbx n a0) true 209 [z0l a0] aI:=⟨fun {r} hF=>by
 unfold zbx at hF
 refine cw Tryz.func209 ?_
 repeat' first
  |refine AW.jI hF (fun v hF=>?_) fun hF=>?_
  |refine AW.jI2 hF (fun v hF=>?_) fun hF=>?_
  |refine AW.regO hF fun hF=>?_
  |refine AW.stepU [7,10,12,13,17,19] ?_;conv=>whnf
  |refine z14.o hF (fun hF=>?_) fun hF=>?_
  |refine z14.t ?_
  |refine z14.f ?_
  |refine z1q.I hF fun a hF=>?_
  |exact ⟨_,hF,LeX.a []⟩
  |exact ⟨(),hF,LeX.a []⟩
  |refine EqX.A ?_
  |exact zei.oB hF⟩
@[reducible,instance] def zwu {n b a0 c}:=li (z7h n b a0 c) (fun d=>⟨[(1,.ptr 1 0),(4,aI d)],[(1,.box 111 (z8q a0))]⟩) fun _ _=>z7h.eq_2 ..
def zme (r:Int):AV:=aI (r)
theorem zjz {n a0 r}(hF:z3p n a0=some r):Con E0 true 179 [z0l a0] (aI r):=by
 induction n generalizing a0 r
 case zero=>cases hF
 case succ n ih =>
 unfold z3p at hF
 refine cw Tryz.func179 ?_
 repeat' first
  |refine AW.step ?_;conv=>whnf
  |refine z14.o hF (fun hF=>?_) fun hF=>?_
  |refine z1q.I hF fun a hF=>?_
  |refine zes.oD hF z40 (fun x hF=>?_)
  |refine z1q.o hF zme (fun a h=>ih h) (fun a hF=>?_)
  |exact ⟨_,hF,LeX.a []⟩
  |refine z8f.I hF (LeX.a []) fun m v hF=>?_
  |exact zei.oB hF
instance y18 {n a0}:CI E0 (z3p n a0) true 179 [z0l a0] aI:=⟨zjz⟩
end
open Go.RowKit
noncomputable section
instance y1d {n a0}:CI E0 (z31 n a0) true 138 [z0l a0] aI:=by unfold z31;exact CI.w [] Tryz.func138
@[reducible,instance] def y2n {n}:=jf (z6u n) (fun b=>⟨[(4,.bool (b))],[]⟩) fun _=>z6u.eq_1 ..
instance y6b {n a0 a1}:CI E0 (z1a n a0 a1) true 97 [aI a0,aI a1] (fun r=>.bool (r)):=by unfold z1a;exact CI.w [1] Tryz.func97
@[reducible,instance] def zv3 {n a1 a0 b c}:=li (z6c n a1 a0 b c) (fun d=>⟨[(1,.sl 11 (a1.map z0t)),(2,.ptr 2 0),(5,aI b),(6,aI d)],[(2,.box 25 (z0g a0))]⟩) fun _ _=>z6c.eq_2 ..
@[reducible,instance] def zv5 {n a1 a0 b c}:=jf (z2x n a1 a0 b c) (fun d=>⟨[(1,.sl 11 (a1.map z0t)),(2,.ptr 2 0),(5,aI b),(44,.bool (d))],[(2,.box 25 (z0g a0))]⟩) fun _=>z2x.eq_1 ..
@[reducible,instance] def zv4 {n a1 a0 b}:=li (z1n n a1 a0 b) (fun c=>⟨[(1,.sl 11 (a1.map z0t)),(2,.ptr 2 0),(5,aI c)],[(2,.box 25 (z0g a0))]⟩) fun _ _=>z1n.eq_2 ..
instance zyr {n a0 a1}:CI E0 (zaw n a0 a1) true 98 [z0n a0,.sl 11 (a1.map z0t)] aI:=by unfold zaw;exact CI.w [6] Tryz.func98
@[reducible,instance] def zv1 {n a1 a0 b c}:=li (z6b n a1 a0 b c) (fun d=>⟨[(0,.sl 1 (a0.map aI)),(1,aI a1),(5,aI b),(6,aI d)],[]⟩) fun _ _=>z6b.eq_2 ..
@[reducible,instance] def zv2 {n a1 a0 b}:=li (z44 n a1 a0 b) (fun c=>⟨[(0,.sl 1 (a0.map aI)),(1,aI a1),(5,aI c)],[]⟩) fun _ _=>z44.eq_2 ..
instance zyq {n a0 a1}:CI E0 (z8w n a0 a1) true 180 [.sl 1 (a0.map aI),aI a1] aI:=by unfold z8w;exact CI.w [] Tryz.func180
@[reducible,instance] def zwl {n a1 b}:=li (z4x n a1 b) (fun c=>⟨[(3,.ptr 3 0),(10,aI c)],[(3,.box 115 (z29 a1))]⟩) fun _ _=>z4x.eq_2 ..
@[reducible,instance] def zwm {n a1 a0 b c}:=li (z2a n a1 a0 b c) (fun d=>⟨[(2,.ptr 2 0),(3,.ptr 3 0),(7,.sl 1 [.sl 1 (a1.fOpens.map aI),.sl 1 (a1.fCloses.map aI),.sl 1 (a1.fInside.map aI),.sl 1 (b.map aI)]),(8,aI d)],[(2,.box 25 (z0g a0)),(3,.box 115 (z29 a1))]⟩) fun _ _=>z2a.eq_2 ..
@[reducible,instance] def zwn {n a1 a0 b}:=li (z7d n a1 a0 b) (fun c=>⟨[(2,.ptr 2 0),(3,.ptr 3 0),(5,.row 7026),(6,aI c.1)],[(2,.box 25 (z0g a0)),(3,.box 115 (z29 a1)),(7026,.row 3 1 (c.2.map aI))]⟩) fun _ _=>z7d.eq_2 ..
instance y13 {n a0 a1}:CI E0 (z9n n a0 a1) true 139 [z0n a0,z0w a1] aI:=⟨fun {r} hF=>by
 unfold z9n at hF
 refine cw Tryz.func139 ?_
 repeat' first
  |refine AW.regO hF fun hF=>?_
  |refine AW.frzO hF 7026 rfl (fun hF=>?_)
  |refine AW.stepU [6] ?_;conv=>whnf
  |refine z14.o hF (fun hF=>?_) fun hF=>?_
  |refine zes.A hF fun x hF=>?_
  |refine z1q.I hF fun a hF=>?_
  |exact ⟨_,hF,LeX.a []⟩
  |refine z8f.I hF ?_ fun m v hF=>?_
  |exact LeX.a []
  |refine zes.o (fun q=>AV.sl 1 (List.map aI q)) hF fun x hF=>?_
  |refine zk3.oA hF fun l hF=>?_
  |exact ⟨_,hF,LeX.a [(7026,26)]⟩
  |exact LeX.trans (LeX.adopt 5 7026 3 1 rfl rfl) (LeX.a [])
  |refine And.intro ⟨by kernel_rfl,by kernel_rfl⟩ ?_
  |exact zei.oB hF⟩
@[reducible,instance] def zzd {n a1 a0 b}:=li (z88 n a1 a0 b) (fun c=>⟨[(3,.ptr 3 0),(4,.ptr 4 0),(9,aI c)],[(3,.box 25 (z0g a0)),(4,.box 115 (z29 a1))]⟩) fun _ _=>z88.eq_2 ..
@[reducible,instance] def zze {n a2 a1 a0}:=jf (z17 n a2 a1 a0) (fun b=>⟨[(2,aI a2),(3,.ptr 3 0),(4,.ptr 4 0),(42,.bool (b))],[(3,.box 25 (z0g a0)),(4,.box 115 (z29 a1))]⟩) fun _=>z17.eq_1 ..
instance y3e {n a0 a1 a2}:CI E0 (zbu n a0 a1 a2) true 99 [z0n a0,z0w a1,aI a2] aI:=⟨fun {r} hF=>by
 unfold zbu at hF
 refine cw Tryz.func99 ?_
 repeat' first
  |refine AW.jI hF (fun v hF=>?_) fun hF=>?_
  |refine AW.regO hF fun hF=>?_
  |refine AW.stepU [2] ?_;conv=>whnf
  |refine z14.o hF (fun hF=>?_) fun hF=>?_
  |refine z14.t ?_
  |refine z14.f ?_
  |refine z1q.I hF fun a hF=>?_
  |refine zes.oD hF z40 (fun x hF=>?_)
  |exact ⟨_,hF,LeX.a []⟩
  |refine z8f.I hF (LeX.a []) fun m v hF=>?_
  |exact zei.oB hF⟩
@[reducible,instance] def zwo {n a0 b}:=li (z7e n a0 b) (fun c=>⟨[(1,.ptr 1 0),(5,aI c.1),(6,aI c.2)],[(1,.box 25 (z0g a0))]⟩) fun _ _=>z7e.eq_2 ..
@[reducible,instance] def zwp {n a0 b}:=li (z7f n a0 b) (fun c=>⟨[(1,.ptr 1 0),(3,aI c)],[(1,.box 25 (z0g a0))]⟩) fun _ _=>z7f.eq_2 ..
@[reducible,instance] def zwq {n a0}:=jf (z1u n a0) (fun b=>⟨[(1,.ptr 1 0),(31,.bool (b))],[(1,.box 25 (z0g a0))]⟩) fun _=>z1u.eq_1 ..
@[reducible,instance] def zwr {n a0}:=jf (z2b n a0) (fun b=>⟨[(1,.ptr 1 0),(15,.bool (b))],[(1,.box 25 (z0g a0))]⟩) fun _=>z2b.eq_1 ..
end
open Go.RowKit
noncomputable section
instance y14 {n a0}:CI E0 (z5e n a0) true 63 [z0n a0] aI:=by unfold z5e;exact CI.w [1,3] Tryz.func63
@[reducible,instance] def yjm {n b a0 d}:=li (zfu n b a0 d) (fun c=>⟨[(4,aI c.1),(5,aI c.2.1),(11,.sl 8 (a0.fArgs.map idA)),(12,aI (((a0.fArgs.map idA).length:Int))),(13,aI c.2.2)],[]⟩) fun _ _=>zfu.eq_2 ..
def yay (r:Int×Int):AV:=.tup [aI (r.1),aI (r.2)]
theorem ztk {n a0 r}(hF:zfm n a0=some r):Con E0 true 182 [z0l a0] (.tup [aI r.1,aI r.2]):=by
 induction n generalizing a0 r
 case zero=>cases hF
 case succ n ih =>
 unfold zfm at hF
 refine cw Tryz.func182 ?_
 repeat' first
  |refine AW.step ?_;conv=>whnf
  |refine z14.o hF (fun hF=>?_) fun hF=>?_
  |refine zes.oD hF z40 (fun x hF=>?_)
  |refine z1q.o hF yay (fun a h=>ih h) (fun a hF=>?_)
  |exact ⟨_,hF,LeX.a []⟩
  |refine z8f.I hF (LeX.a []) fun m v hF=>?_
  |exact zei.oB hF
instance ym4 {n a0}:CI E0 (zfm n a0) true 182 [z0l a0] (fun r=>.tup [aI r.1,aI r.2]):=⟨ztk⟩
@[reducible,instance] def yi0 {n a0}:=jf (zdf n a0) (fun b=>⟨[(0,aI a0),(4,.bool (b))],[]⟩) fun _=>zdf.eq_1 ..
instance yjx {n a0}:CI E0 (zii n a0) true 210 [aI a0] (fun r=>.tup [aI r.1,.bool (r.2)]):=by unfold zii;exact CI.w [1] Tryz.func210
@[reducible,instance] def yjf {n}:=jt (zel n) (fun b=>⟨[(8,.bool (b))],[]⟩) fun _=>zel.eq_1 ..
@[reducible,instance] def yjg {n a0}:=jt (zem n a0) (fun b=>⟨[(4,aI a0),(5,.bool (b))],[]⟩) fun _=>zem.eq_1 ..
instance ym1 {n a0}:CI E0 (zi4 n a0) true 153 [aI a0] (fun r=>.tup [.bool (r.1),.bool (r.2)]):=by unfold zi4;exact CI.w [2,5] Tryz.func153
instance yjn {n a0}:CI E0 (zgd n a0) true 252 [z09 a0] aI:=by unfold zgd;exact CI.w [] Tryz.func252
instance yif {n a0}:CI E0 (zc8 n a0) true 238 [z09 a0] aI:=by unfold zc8;exact CI.w [] Tryz.func238
@[reducible,instance] def yhz {n}:=jf (zbl n) (fun b=>⟨[(4,.bool (b))],[]⟩) fun _=>zbl.eq_1 ..
instance yjv {n a0 a1}:CI E0 (zih n a0 a1) true 239 [aI a0,z09 a1] (fun r=>.bool (r)):=by unfold zih;exact CI.w [1] Tryz.func239
@[reducible,instance] def y9w {n}:=jf (z69 n) (fun b=>⟨[(31,.bool (b))],[]⟩) fun _=>z69.eq_1 ..
instance ycx {n a0}:CI E0 (zfo n a0) true 211 [z0l a0] aI:=by unfold zfo;exact CI.w [4] Tryz.func211
@[reducible,instance] def yjh {n}:=jf (z12 n) (fun b=>⟨[(113,.bool (b))],[]⟩) fun _=>z12.eq_1 ..
@[reducible,instance] def yji {n a0 x2 b}:=jt (zen n a0 x2 b) (fun _=>⟨[(1,.ptr 1 0),(5,.bool (x2.1)),(6,.bool (x2.2)),(7,.bool (decide (a0.fOp=4))),(8,.bool (b))],[(1,.box 111 (z8q a0))]⟩) fun _=>zen.eq_1 ..
@[reducible,instance] def yjj {n a0 x2}:=jf (zeo n a0 x2) (fun b=>⟨[(1,.ptr 1 0),(5,.bool (x2.1)),(6,.bool (x2.2)),(7,.bool (decide (a0.fOp=4))),(8,.bool (b))],[(1,.box 111 (z8q a0))]⟩) fun _=>zeo.eq_1 ..
@[reducible,instance] def yjk {n a0 x2}:=jf (zce n a0 x2) (fun b=>⟨[(1,.ptr 1 0),(5,.bool (x2.1)),(6,.bool (x2.2)),(7,.bool (decide (a0.fOp=4))),(66,.bool (b))],[(1,.box 111 (z8q a0))]⟩) fun _=>zce.eq_1 ..
@[reducible,instance] def yjl {n a0 x2}:=jf (z6j n a0 x2) (fun b=>⟨[(1,.ptr 1 0),(5,.bool (x2.1)),(6,.bool (x2.2)),(52,.bool (b))],[(1,.box 111 (z8q a0))]⟩) fun _=>z6j.eq_1 ..
instance ym2 {n a0}:CI E0 (zjk n a0) true 183 [z0l a0] aI:=⟨fun {r} hF=>by
 unfold zjk at hF
 refine cw Tryz.func183 ?_
 repeat' first
  |refine AW.jI hF (fun v hF=>?_) fun hF=>?_
  |refine AW.jI2 hF (fun v hF=>?_) fun hF=>?_
  |refine AW.regO hF fun hF=>?_
  |refine AW.stepU [7,10,12,13,17] ?_;conv=>whnf
  |refine z14.o hF (fun hF=>?_) fun hF=>?_
  |refine z14.t ?_
  |refine z14.f ?_
  |refine z1q.I hF fun a hF=>?_
  |exact ⟨_,hF,LeX.a []⟩
  |exact ⟨(),hF,LeX.a []⟩
  |refine EqX.A ?_
  |exact zei.oB hF⟩
@[reducible,instance] def yhy {n b a0 c}:=li (zf7 n b a0 c) (fun d=>⟨[(1,.fn 183 []),(16,.sl 8 (a0.fArgs.map idA)),(17,aI (((a0.fArgs.map idA).length:Int))),(18,aI d)],[]⟩) fun _ _=>zf7.eq_2 ..
def y7n (r:Int):AV:=aI (r)
theorem zqy {n a0 r}(hF:ze2 n a0=some r):Con E0 true 151 [z0l a0,.fn 183 []] (aI r):=by
 induction n generalizing a0 r
 case zero=>cases hF
 case succ n ih =>
 unfold ze2 at hF
 refine cw Tryz.func151 ?_
 repeat' first
  |refine AW.step ?_;conv=>whnf
  |refine z14.o hF (fun hF=>?_) fun hF=>?_
  |refine z1q.I hF fun a hF=>?_
  |refine zes.oD hF z40 (fun x hF=>?_)
  |refine z1q.o hF y7n (fun a h=>ih h) (fun a hF=>?_)
  |exact ⟨_,hF,LeX.a []⟩
  |refine z8f.I hF (LeX.a []) fun m v hF=>?_
  |exact zei.oB hF
instance yju {n a0}:CI E0 (ze2 n a0) true 151 [z0l a0,.fn 183 []] aI:=⟨zqy⟩
instance yjy {n a0}:CI E0 (ze4 n a0) true 143 [z0l a0] aI:=by unfold ze4;exact CI.w [] Tryz.func143
@[reducible,instance] def y78 {n}:=jf (z81 n) (fun b=>⟨[(4,.bool (b))],[]⟩) fun _=>z81.eq_1 ..
instance y85 {n a0 a1}:CI E0 (z3y n a0 a1) true 140 [aI a0,aI a1] (fun r=>.bool (r)):=by unfold z3y;exact CI.w [1] Tryz.func140
end
open Go.RowKit
noncomputable section
instance y3t {n a0 a1}:CI E0 (zam n a0 a1) true 142 [z0t a0,.ref (zjd a1)] (fun r=>.bool (r)):=by unfold zam;exact CI.w [] Tryz.func142
@[reducible,instance] def y43 {n b a0 c}:=li (z9v n b a0 c) (fun d=>⟨[(0,.sl 11 (a0.map z0t)),(1,.fn 142 [.ref (zjd b)]),(7,aI (((a0.map z0t).length:Int))),(8,aI d)],[]⟩) fun _ _=>z9v.eq_2 ..
instance y81 {n a0 b}:CI E0 (zdx n a0 b) true 181 [.sl 11 (a0.map z0t),.fn 142 [.ref (zjd b)]] aI:=by unfold zdx;exact CI.w [] Tryz.func181
instance y1l {n a0 b}:CI E0 (z9x n a0 b) true 141 [.sl 11 (a0.map z0t),.fn 142 [.ref (zjd b)]] (fun r=>.bool (r)):=by unfold z9x;exact CI.w [] Tryz.func141
@[reducible,instance] def y7c {n a1 a0 b c d}:=jf (z5h n a1 a0 b c d) (fun e=>⟨[(1,.sl 11 (a1.map z0t)),(2,.ptr 2 0),(5,aI b),(6,.ptr 6 0),(11,.sl 11 (a1.map z0t)),(12,aI (((a1.map z0t).length:Int))),(13,aI b),(18,.bool (e))],[(2,.box 25 (z0g a0)),(6,.box 154 (zjd d))]⟩) fun _=>z5h.eq_1 ..
@[reducible,instance] def y7b {n a1 a0 b}:=li (z34 n a1 a0 b) (fun c=>⟨[(1,.sl 11 (a1.map z0t)),(2,.ptr 2 0),(11,.sl 11 (a1.map z0t)),(12,aI (((a1.map z0t).length:Int))),(13,aI c)],[(2,.box 25 (z0g a0))]⟩) fun _ _=>z34.eq_2 ..
instance y87 {n a0 a1}:CI E0 (ze6 n a0 a1) true 104 [z0n a0,.sl 11 (a1.map z0t)] aI:=⟨fun {r} hF=>by
 unfold ze6 at hF
 refine cw Tryz.func104 ?_
 repeat' first
  |refine AW.jI hF (fun v hF=>?_) fun hF=>?_
  |refine AW.regO hF fun hF=>?_
  |refine AW.stepU [6] ?_;conv=>whnf
  |refine z14.o hF (fun hF=>?_) fun hF=>?_
  |refine z14.t ?_
  |refine zes.A hF fun x hF=>?_
  |refine y3v.o z0t hF (fun l hF=>?_)
  |refine zar.I hF (fun a hF=>?_) rfl rfl fun _=>Or.inr rfl
  |refine z1q.I hF fun a hF=>?_
  |exact ⟨_,hF,LeX.a []⟩
  |refine z8f.I hF (LeX.a []) fun m v hF=>?_
  |exact zei.oB hF⟩
@[reducible,instance] def y3u {n a0 b}:=li (z94 n a0 b) (fun c=>⟨[(3,.row 7016),(6,.sl 2 (a0.map z26)),(7,aI (((a0.map z26).length:Int))),(8,aI c.1)],[(7016,.row 3 1 (c.2.map aI))]⟩) fun _ _=>z94.eq_2 ..
instance y6w {n a0}:CI E0 (zb7 n a0) false 145 [.sl 2 (a0.map z26)] (fun r=>.sl 1 (r.map aI)):=⟨fun {r} hF=>by
 unfold zb7 at hF
 refine cw Tryz.func145 ?_
 repeat' first
  |refine AW.step ?_;conv=>whnf
  |refine z14.o hF (fun hF=>?_) fun hF=>?_
  |refine zes.A hF fun x hF=>?_
  |refine zk3.oA hF fun l hF=>?_
  |exact ⟨_,hF,LeX.a [(7016,16)]⟩
  |refine z8f.I hF ?_ fun m v hF=>?_
  |exact LeX.trans (LeX.adopt 3 7016 3 1 rfl rfl) (LeX.a [])
  |exact zei.oB hF⟩
@[reducible,instance] def yde {n a1 a0 b}:=li (zcg n a1 a0 b) (fun c=>⟨[(0,.sl 1 (a0.map aI)),(1,aI a1),(7,aI (((a0.map aI).length:Int))),(8,aI c)],[]⟩) fun _ _=>zcg.eq_2 ..
instance yf1 {n a0 a1}:CI E0 (zi6 n a0 a1) true 212 [.sl 1 (a0.map aI),aI a1] aI:=by unfold zi6;exact CI.w [] Tryz.func212
instance ya1 {n a0 a1}:CI E0 (z8b n a0 a1) true 184 [.sl 1 (a0.map aI),aI a1] (fun r=>.bool (r)):=by unfold z8b;exact CI.w [] Tryz.func184
@[reducible,instance] def y79 {n a1 a0 c b d}:=li (z3z n a1 a0 c b d) (fun e=>⟨[(2,.ptr 2 0),(6,.sl 1 (b.map aI)),(9,.sl 1 (List.map (fun q=>AV.sl 1 (List.map aI q)) (a1))),(10,aI ((((List.map (fun q=>AV.sl 1 (List.map aI q)) (a1)).length:Nat):Int))),(11,aI c),(15,.sl 1 (b.map aI)),(16,aI (((b.map aI).length:Int))),(17,aI e)],[(2,.box 25 (z0g a0))]⟩) fun _ _=>z3z.eq_2 ..
@[reducible,instance] def y7a {n a1 a0 b}:=li (z5g n a1 a0 b) (fun c=>⟨[(2,.ptr 2 0),(9,.sl 1 (List.map (fun q=>AV.sl 1 (List.map aI q)) (a1))),(10,aI ((((List.map (fun q=>AV.sl 1 (List.map aI q)) (a1)).length:Nat):Int))),(11,aI c)],[(2,.box 25 (z0g a0))]⟩) fun _ _=>z5g.eq_2 ..
instance y86 {n a0 a1}:CI E0 (ze5 n a0 a1) true 144 [z0n a0,.sl 1 (List.map (fun q=>AV.sl 1 (List.map aI q)) (a1))] aI:=⟨fun {r} hF=>by
 unfold ze5 at hF
 refine cw Tryz.func144 ?_
 repeat' first
  |refine AW.step ?_;conv=>whnf
  |refine z14.o hF (fun hF=>?_) fun hF=>?_
  |refine zes.o (fun q=>AV.sl 1 (List.map aI q)) hF fun x hF=>?_
  |exact ⟨_,hF,LeX.a []⟩
  |refine zes.A hF fun x hF=>?_
  |refine z1q.I hF fun a hF=>?_
  |refine y3v.o aI hF (fun l hF=>?_)
  |refine z8f.I hF (LeX.a []) fun m v hF=>?_
  |exact zei.oB hF⟩
@[reducible,instance] def y7d {n}:=jf (z82 n) (fun b=>⟨[(2,.bool (b))],[]⟩) fun _=>z82.eq_1 ..
instance y88 {n a0}:CI E0 (zae n a0) true 147 [z26 a0] (fun r=>.bool (r)):=by unfold zae;exact CI.w [1] Tryz.func147
@[reducible,instance] def zvb {n a0 b}:=li (z6f n a0 b) (fun c=>⟨[(0,.sl 2 (a0.map z26)),(1,.fn 147 []),(7,aI (((a0.map z26).length:Int))),(8,aI c)],[]⟩) fun _ _=>z6f.eq_2 ..
instance zyx {n a0}:CI E0 (zb0 n a0) true 185 [.sl 2 (a0.map z26),.fn 147 []] aI:=by unfold zb0;exact CI.w [] Tryz.func185
instance ztg {n a0}:CI E0 (z6g n a0) true 146 [.sl 2 (a0.map z26),.fn 147 []] (fun r=>.bool (r)):=by unfold z6g;exact CI.w [] Tryz.func146
end
open Go.RowKit
noncomputable section
@[reducible,instance] def yap {n a1 a0 b}:=li (zb8 n a1 a0 b) (fun c=>⟨[(3,.ptr 3 0),(4,.ptr 4 0),(63,.sl 8 (a1.fChecks.map idA)),(64,aI (((a1.fChecks.map idA).length:Int))),(65,aI c)],[(3,.box 25 (z0g a0)),(4,.box 115 (z29 a1))]⟩) fun _ _=>zb8.eq_2 ..
@[reducible,instance] def yaq {n a2 a1 a0}:=jf (z20 n a2 a1 a0) (fun b=>⟨[(2,aI a2),(3,.ptr 3 0),(4,.ptr 4 0),(12,.bool (b))],[(3,.box 25 (z0g a0)),(4,.box 115 (z29 a1))]⟩) fun _=>z20.eq_1 ..
instance ycz {n a0 a1 a2}:CI E0 (zfp n a0 a1 a2) true 105 [z0n a0,z0w a1,aI a2] aI:=⟨fun {r} hF=>by
 unfold zfp at hF
 refine cw Tryz.func105 ?_
 repeat' first
  |refine AW.jI hF (fun v hF=>?_) fun hF=>?_
  |refine AW.regO hF fun hF=>?_
  |refine AW.stepU [1] ?_;conv=>whnf
  |refine z14.o hF (fun hF=>?_) fun hF=>?_
  |refine z14.t ?_
  |refine z1q.I hF fun a hF=>?_
  |refine zes.oD hF z40 (fun x hF=>?_)
  |exact ⟨_,hF,LeX.a []⟩
  |refine z8f.I hF (LeX.a []) fun m v hF=>?_
  |refine And.intro ⟨by kernel_rfl,by kernel_rfl⟩ ?_
  |exact zei.oB hF⟩
@[reducible,instance] def y8d {n a0 b}:=li (zan n a0 b) (fun c=>⟨[(1,.ptr 1 0),(6,aI c.1),(62,.sl 17 (a0.fEdges.map z0w)),(63,aI (((a0.fEdges.map z0w).length:Int))),(64,aI c.2)],[(1,.box 25 (z0g a0))]⟩) fun _ _=>zan.eq_2 ..
@[reducible,instance] def y8e {n a0 b}:=li (zao n a0 b) (fun c=>⟨[(1,.ptr 1 0),(47,.sl 1 (a0.fStates.map z0p)),(48,aI (((a0.fStates.map z0p).length:Int))),(49,aI c)],[(1,.box 25 (z0g a0))]⟩) fun _ _=>zao.eq_2 ..
@[reducible,instance] def y8f {n a0}:=jf (z3g n a0) (fun b=>⟨[(1,.ptr 1 0),(29,.bool (b))],[(1,.box 25 (z0g a0))]⟩) fun _=>z3g.eq_1 ..
@[reducible,instance] def y8g {n a0}:=jf (z2p n a0) (fun b=>⟨[(1,.ptr 1 0),(10,.bool (b))],[(1,.box 25 (z0g a0))]⟩) fun _=>z2p.eq_1 ..
instance yae {n a0}:CI E0 (zb9 n a0) true 69 [z0n a0] aI:=by unfold zb9;exact CI.w [1,3] Tryz.func69
@[reducible,instance] def zzu {n}:=jf (z3r n) (fun b=>⟨[(2,.bool (b))],[]⟩) fun _=>z3r.eq_1 ..
instance y3n {n a0}:CI E0 (zah n a0) true 273 [aI a0] (fun r=>.bool (r)):=by unfold zah;exact CI.w [1] Tryz.func273
@[reducible,instance] def zx5 {n}:=jf (z2d n) (fun b=>⟨[(58,.bool (b))],[]⟩) fun _=>z2d.eq_1 ..
@[reducible,instance] def zx4 {n}:=jf (z54 n) (fun b=>⟨[(70,.bool (b))],[]⟩) fun _=>z54.eq_1 ..
@[reducible,instance] def zx6 {n a0}:=jf (z56 n a0) (fun b=>⟨[(1,.ptr 1 0),(23,.bool (b))],[(1,.box 313 (zey a0))]⟩) fun _=>z56.eq_1 ..
@[reducible,instance] def zx7 {n a0}:=jf (z57 n a0) (fun b=>⟨[(1,.ptr 1 0),(15,.bool (b))],[(1,.box 313 (zey a0))]⟩) fun _=>z57.eq_1 ..
instance y1g {n a0}:CI E0 (z9r n a0) true 277 [z35 a0] aI:=by unfold z9r;exact CI.w [3,5,11,14] Tryz.func277
instance y1e {n a0 a1}:CI E0 (z9p n a0 a1) true 278 [aI a0,z09 a1] aI:=by unfold z9p;exact CI.w [] Tryz.func278
instance zw0 {n a0 a1 a2}:CI E0 (za8 n a0 a1 a2) true 279 [aI a0,z09 a1,z09 a2] z09:=by unfold za8;exact CI.w [] Tryz.func279
@[reducible,instance] def y2x {n a0}:=jt (z4o n a0) (fun b=>⟨[(4,.ptr 4 0),(8,.ptr 8 0)],[(4,.box 313 [aI 0,aI 0,aI 0,aI 0,.str (ByteArray.empty)]),(8,.box 313 [aI a0.fKind,aI ((IntKind.wrap .i64 (a0.fCount+1))),aI b.1,aI b.2.1,.str (b.2.2)])]⟩) fun _=>z4o.eq_1 ..
instance y6g {n a0 a1}:CI E0 (zd0 n a0 a1) true 274 [z35 a0,z09 a1] (fun r=>.tup [z35 r.1,aI r.2]):=by unfold zd0;exact CI.w [10,12] Tryz.func274
@[reducible,instance] def zv7 {n a1 a0}:=jf (z48 n a1 a0) (fun b=>⟨[(2,.ptr 2 0),(3,.ptr 3 0),(4,.ptr 4 0),(35,.bool (b))],[(2,.box 313 (zey a0)),(3,.box 109 (z27 a1)),(4,.box 109 [aI 0,aI 0,.str (ByteArray.empty)])]⟩) fun _=>z48.eq_1 ..
instance zyt {n a0 a1}:CI E0 (z8z n a0 a1) true 275 [z35 a0,z09 a1] (fun r=>.tup [z09 r.1,aI r.2]):=by unfold z8z;exact CI.w [9] Tryz.func275
@[reducible,instance] def y3z {n a2 a1 c}:=li (z9q n a2 a1 c) (fun b=>⟨[(1,.sl 3 (a1.map z09)),(5,.ptr 5 0),(6,.ptr 6 0),(8,.ptr 8 0),(9,aI b.1)],[(5,.box 109 (z27 a2)),(6,.box 109 [aI 0,aI 0,.str (ByteArray.empty)]),(8,.box 313 [aI b.2.1,aI b.2.2.1,aI b.2.2.2.1,aI b.2.2.2.2.1,.str (b.2.2.2.2.2)])]⟩) fun _ _=>z9q.eq_2 ..
end
open Go.RowKit
noncomputable section
instance y80 {n a0 a1 a2}:CI E0 (zbo n a0 a1 a2) true 266 [aI a0,.sl 3 (a1.map z09),z09 a2] (fun r=>.tup [z09 r.1,aI r.2]):=by unfold zbo;exact CI.w [] Tryz.func266
@[reducible,instance] def zv6 {n a1 a0}:=jf (z47 n a1 a0) (fun b=>⟨[(1,aI a1),(2,.ptr 2 0),(13,.bool (b))],[(2,.box 220 (zcr a0))]⟩) fun _=>z47.eq_1 ..
instance zys {n a0 a1}:CI E0 (z6z n a0 a1) false 265 [zcp a0,aI a1] (fun r=>.sl 5 (r.map z02)):=⟨fun {r} hF=>by
 unfold z6z at hF
 refine cw Tryz.func265 ?_
 repeat' first
  |refine AW.jI hF (fun v hF=>?_) fun hF=>?_
  |refine AW.regO hF fun hF=>?_
  |refine AW.stepU [1] ?_;conv=>whnf
  |refine z14.o hF (fun hF=>?_) fun hF=>?_
  |refine zes.o (fun q=>AV.sl 5 (List.map z02 q)) hF fun x hF=>?_
  |exact ⟨_,hF,LeX.a []⟩
  |exact zei.oB hF⟩
instance y3j {n a0 a1 a2 a3}:CI E0 (zet n a0 a1 a2 a3) false 267 [zcp a0,aI a1,aI a2,z02 a3] (fun r=>.tup [z02 r.1,.bool (r.2)]):=by unfold zet;exact CI.w [] Tryz.func267
@[reducible,instance] def zzm {n a0 x2 b}:=li (z89 n a0 x2 b) (fun c=>⟨[(4,.ptr 4 0),(8,.ptr 8 0),(10,.row 7063),(11,.sl 5 (x2.map z02)),(12,aI c.1)],[(4,.box 111 (z8q a0)),(8,.box 109 [aI 0,aI 0,.str (ByteArray.empty)]),(7063,.row 109 3 (c.2.map z09))]⟩) fun _ _=>z89.eq_2 ..
instance y3h {n a0 a1 a2 a3}:CI E0 (zag n a0 a1 a2 a3) true 248 [z0l a0,zcp a1,aI a2,z02 a3] (fun r=>.tup [z09 r.1,aI r.2]):=⟨fun {r} hF=>by
 unfold zag at hF
 refine cw Tryz.func248 ?_
 repeat' first
  |refine AW.step ?_;conv=>whnf
  |refine z14.o hF (fun hF=>?_) fun hF=>?_
  |refine z1q.I hF fun a hF=>?_
  |refine zar.I hF (fun a hF=>?_) rfl rfl fun _=>Or.inr rfl
  |refine zes.A hF fun x hF=>?_
  |refine zk3.oA hF fun l hF=>?_
  |exact ⟨_,hF,LeX.a [(7063,63)]⟩
  |refine z8f.I hF ?_ fun m v hF=>?_
  |exact LeX.trans (LeX.adopt 10 7063 109 3 rfl rfl) (LeX.a [])
  |refine And.intro ⟨by kernel_rfl,by kernel_rfl⟩ ?_
  |exact zei.oB hF⟩
@[reducible,instance] def zrz {n}:=jt (z28 n) (fun b=>⟨[(9,.bool (b))],[]⟩) fun _=>z28.eq_1 ..
@[reducible,instance] def zs0 {n a0}:=jt (z1p n a0) (fun b=>⟨[(3,aI a0),(4,.bool (b))],[]⟩) fun _=>z1p.eq_1 ..
instance zur {n a0}:CI E0 (z9o n a0) true 268 [aI a0] aI:=by unfold z9o;exact CI.w [2,3,4,7,8] Tryz.func268
@[reducible,instance] def zry {n a1 a0 b c}:=jf (z1i n a1 a0 b c) (fun d=>⟨[(0,aI a0),(1,.sl 1 (a1.map aI)),(5,aI b),(38,.bool (d))],[]⟩) fun _=>z1i.eq_1 ..
@[reducible,instance] def zrx {n a1 a0 b}:=li (z1b n a1 a0 b) (fun c=>⟨[(0,aI a0),(1,.sl 1 (a1.map aI)),(5,aI c)],[]⟩) fun _ _=>z1b.eq_2 ..
instance zuq {n a0 a1}:CI E0 (zbn n a0 a1) true 249 [aI a0,.sl 1 (a1.map aI)] aI:=by unfold zbn;exact CI.w [5] Tryz.func249
instance y3l {n a0}:CI E0 (z1j n a0) true 68 [.bool (a0)] z09:=by unfold z1j;exact CI.w [] Tryz.func68
@[reducible,instance] def zwy {n}:=jf (z4z n) (fun b=>⟨[(4,.ptr 4 0)],[(4,.box 109 [aI b.1,aI b.2.1,.str (b.2.2)])]⟩) fun _=>z4z.eq_1 ..
@[reducible,instance] def zwx {n}:=jf (z4y n) (fun b=>⟨[(4,.ptr 4 0)],[(4,.box 109 [aI b.1,aI b.2.1,.str (b.2.2)])]⟩) fun _=>z4y.eq_1 ..
instance y1a {n a0 a1}:CI E0 (z7x n a0 a1) true 250 [aI a0,.sl 3 (a1.map z09)] z09:=by unfold z7x;exact CI.w [13,15] Tryz.func250
@[reducible,instance] def zzt {n b a3 a2 a1 a0 d}:=li (z8a n b a3 a2 a1 a0 d) (fun c=>⟨[(2,aI a2),(4,.ptr 4 0),(5,.ptr 5 0),(7,.ptr 7 0),(8,.ptr 8 0),(10,.row 7053),(11,.row 7058),(12,aI c.1)],[(4,.box 111 (z8q a0)),(5,.box 220 (zcr a1)),(7,.box 71 (z16 a3)),(8,.box 109 [aI 0,aI 0,.str (ByteArray.empty)]),(7053,.row 109 3 (c.2.1.map z09)),(7058,.row 3 1 (c.2.2.map aI))]⟩) fun _ _=>z8a.eq_2 ..
def zne (r:z05×Int):AV:=.tup [.agg [aI (r.1.fKind),aI (r.1.fNum),.str (r.1.fText)],aI (r.2)]
theorem zk8 {n a0 a1 a2 a3 r}(hF:z4s n a0 a1 a2 a3=some r):Con E0 true 228 [z0l a0,zcp a1,aI a2,z02 a3] (.tup [z09 r.1,aI r.2]):=by
 induction n generalizing a0 a1 a2 a3 r
 case zero=>cases hF
 case succ n ih =>
 unfold z4s at hF
 refine cw Tryz.func228 ?_
 repeat' first
  |refine AW.step ?_;conv=>whnf
  |refine z14.o hF (fun hF=>?_) fun hF=>?_
  |refine z1q.I hF fun a hF=>?_
  |refine zar.I hF (fun a hF=>?_) rfl rfl fun _=>Or.inr rfl
  |refine zes.oD hF z40 (fun x hF=>?_)
  |refine z1q.o hF zne (fun a h=>ih h) (fun a hF=>?_)
  |refine zk3.oA hF fun l hF=>?_
  |exact ⟨_,hF,LeX.a [(7053,53),(7058,58)]⟩
  |refine z8f.I hF ?_ fun m v hF=>?_
  |exact LeX.trans (LeX.adopt 10 7053 109 3 rfl rfl) (LeX.trans (LeX.adopt 11 7058 3 1 rfl rfl) (LeX.a []))
  |refine And.intro ⟨by kernel_rfl,by kernel_rfl⟩ ?_
  |exact zei.oB hF
instance y3k {n a0 a1 a2 a3}:CI E0 (z4s n a0 a1 a2 a3) true 228 [z0l a0,zcp a1,aI a2,z02 a3] (fun r=>.tup [z09 r.1,aI r.2]):=⟨zk8⟩
instance y3m {n a0 a1 a2 a3}:CI E0 (zeu n a0 a1 a2 a3) true 197 [z0l a0,zcp a1,aI a2,z02 a3] (fun r=>.tup [z09 r.1,aI r.2]):=by unfold zeu;exact CI.w [] Tryz.func197
@[reducible,instance] def zwz {n}:=jf (z51 n) (fun b=>⟨[(8,.bool (b))],[]⟩) fun _=>z51.eq_1 ..
def zmf (r:Bool):AV:=.bool (r)
end
open Go.RowKit
noncomputable section
instance zkt {n a0 a1 a2 a3}:CI E0 (z2y n a0 a1 a2 a3) true 170 [z0l a0,zcp a1,aI a2,z02 a3] (fun r=>.bool (r)):=by unfold z2y;exact CI.w [2] Tryz.func170
instance y1h {n a0 a1}:CI E0 (z9s n a0 a1) true 90 [z19 a0,z19 a1] aI:=by unfold z9s;exact CI.w [] Tryz.func90
instance y15 {n a0 a1}:CI E0 (zbf n a0 a1) true 55 [z0b a0,z0b a1] aI:=by unfold zbf;exact CI.w [] Tryz.func55
@[reducible,instance] def zu9 {n a1 a0 b c d}:=jf (z3j n a1 a0 b c d) (fun e=>⟨[(2,.ptr 2 0),(3,.ptr 3 0),(5,aI b),(18,.bool (e))],[(2,.box 44 (zeh a0)),(3,.box 44 (zeh a1))]⟩) fun _=>z3j.eq_1 ..
@[reducible,instance] def zu8 {n a1 a0 b}:=li (z2m n a1 a0 b) (fun c=>⟨[(2,.ptr 2 0),(3,.ptr 3 0),(5,aI c)],[(2,.box 44 (zeh a0)),(3,.box 44 (zeh a1))]⟩) fun _ _=>z2m.eq_2 ..
instance zvz {n a0 a1}:CI E0 (z5z n a0 a1) true 21 [z0c a0,z0c a1] aI:=by unfold z5z;exact CI.w [2] Tryz.func21
@[reducible,instance] def zu6 {n a1 a0 b c d e}:=jf (z2l n a1 a0 b c d e) (fun f=>⟨[(2,.ptr 2 0),(3,.ptr 3 0),(6,aI b),(7,.ptr 7 0),(8,.ptr 8 0),(71,.bool (f))],[(2,.box 60 (z11 a0)),(3,.box 60 (z11 a1)),(7,.box 102 (zo9 d)),(8,.box 102 (zo9 e))]⟩) fun _=>z2l.eq_1 ..
@[reducible,instance] def zu7 {n a1 a0 b c d}:=jf (z3i n a1 a0 b c d) (fun e=>⟨[(2,.ptr 2 0),(3,.ptr 3 0),(6,aI b),(40,.bool (e))],[(2,.box 60 (z11 a0)),(3,.box 60 (z11 a1))]⟩) fun _=>z3i.eq_1 ..
@[reducible,instance] def zu5 {n a1 a0 b}:=li (z2k n a1 a0 b) (fun c=>⟨[(2,.ptr 2 0),(3,.ptr 3 0),(6,aI c)],[(2,.box 60 (z11 a0)),(3,.box 60 (z11 a1))]⟩) fun _ _=>z2k.eq_2 ..
instance zvy {n a0 a1}:CI E0 (z87 n a0 a1) true 29 [z01 a0,z01 a1] aI:=by unfold z87;exact CI.w [9,12] Tryz.func29
@[reducible,instance] def y2e {n a1 a0 b}:=jf (z6q n a1 a0 b) (fun c=>⟨[(0,.sl 3 (a0.map z01)),(3,.ptr 3 0),(5,aI b),(34,.bool (c))],[(3,.box 60 (z11 a1))]⟩) fun _=>z6q.eq_1 ..
@[reducible,instance] def y2d {n a1 a0 b c d}:=jf (z6p n a1 a0 b c d) (fun e=>⟨[(0,.sl 3 (a0.map z01)),(3,.ptr 3 0),(5,aI b),(19,.bool (e))],[(3,.box 60 (z11 a1))]⟩) fun _=>z6p.eq_1 ..
@[reducible,instance] def y2c {n a1 a0 b}:=li (z4i n a1 a0 b) (fun c=>⟨[(0,.sl 3 (a0.map z01)),(3,.ptr 3 0),(5,aI c)],[(3,.box 60 (z11 a1))]⟩) fun _ _=>z4i.eq_2 ..
def zod (r:(List z00)):AV:=.sl 3 (r.map z01)
instance zm1 {n a0 a1}:CI E0 (z9e n a0 a1) false 103 [.sl 3 (a0.map z01),z01 a1] (fun r=>.sl 3 (r.map z01)):=⟨fun {r} hF=>by
 unfold z9e at hF
 refine cw Tryz.func103 ?_
 repeat' first
  |refine AW.jI hF (fun v hF=>?_) fun hF=>?_
  |refine AW.regO hF fun hF=>?_
  |refine AW.stepU [2,4] ?_;conv=>whnf
  |refine z14.o hF (fun hF=>?_) fun hF=>?_
  |refine y3v.o z01 hF (fun l hF=>?_)
  |refine zk3.oA0 hF fun l hF=>?_
  |refine zk3.oA hF fun l hF=>?_
  |refine zes.A hF fun x hF=>?_
  |refine z1q.I hF fun a hF=>?_
  |exact ⟨_,hF,LeX.a []⟩
  |refine z8f.I hF (LeX.a []) fun m v hF=>?_
  |refine And.intro ⟨by kernel_rfl,by kernel_rfl⟩ ?_
  |exact zei.oB hF⟩
@[reducible,instance] def y8i {n}:=jf (z6n n) (fun b=>⟨[(2,.bool (b))],[]⟩) fun _=>z6n.eq_1 ..
instance yah {n a0}:CI E0 (zcn n a0) true 280 [aI a0] (fun r=>.bool (r)):=by unfold zcn;exact CI.w [1] Tryz.func280
@[reducible,instance] def y8h {n}:=jf (z4t n) (fun b=>⟨[(4,.bool (b))],[]⟩) fun _=>z4t.eq_1 ..
instance yag {n a0 a1}:CI E0 (zcm n a0 a1) true 287 [aI a0,z09 a1] (fun r=>.bool (r)):=by unfold zcm;exact CI.w [1] Tryz.func287
instance yaf {n a0 a1}:CI E0 (zba n a0 a1) true 281 [aI a0,z09 a1] aI:=by unfold zba;exact CI.w [] Tryz.func281
instance y89 {n a0 a1}:CI E0 (zg3 n a0 a1) true 285 [aI a0,z09 a1] z09:=by unfold zg3;exact CI.w [] Tryz.func285
instance y1s {n}:CI E0 (zed n) true 290 [] z09:=by unfold zed;exact CI.w [] Tryz.func290
def zmq (m0:z05)(m1:z05):List (Nat×Ent):=[(100000,.box 109 (z27 m0)),(100001,.box 109 (z27 m1))]
def zdu (r:z05×z05×z05):List (Nat×Ent):=[(2,.box 109 (z27 r.1)),(100000,.box 109 (z27 r.2.1)),(100001,.box 109 (z27 r.2.2))]
def zgc (r:z05×z05×z05):AV:=.agg [aI (r.1.fKind),aI (r.1.fNum),.str (r.1.fText)]
def zmc (r:z05×z05×z05):AS:=⟨[(2,.ptr 2 0),(0,.ptr 100000 0),(1,.ptr 100001 0)],zdu r⟩
end
open Go.RowKit
noncomputable section
theorem zkz {n m0 m1 r}(hF:zec n m0 m1=some r):zdm E0.P none (zpe E0.P 291 0) [.ptr 100000 0,.ptr 100001 0] [] (zmq m0 m1) (zgc r) (zdu r):=by
 unfold zec at hF
 refine zdm.walk (E:=(E0p 2)) (caps:=[]) _ Tryz.func291 rfl rfl rfl rfl rfl ?_
 repeat' first
  |refine AW.step ?_;conv=>whnf
  |exact GX.A (res:=zgc) (meF:=zdu) hF zmc
def zmp (m0:z05)(m1:z05):List (Nat×Ent):=[(100000,.box 109 (z27 m0)),(100001,.box 109 (z27 m1))]
def zdt (r:z05×z05×z05):List (Nat×Ent):=[(2,.box 109 (z27 r.1)),(100000,.box 109 (z27 r.2.1)),(100001,.box 109 (z27 r.2.2))]
def zgb (r:z05×z05×z05):AV:=.agg [aI (r.1.fKind),aI (r.1.fNum),.str (r.1.fText)]
def zmb (r:z05×z05×z05):AS:=⟨[(2,.ptr 2 0),(0,.ptr 100000 0),(1,.ptr 100001 0)],zdt r⟩
theorem zky {n m0 m1 r}(hF:zeb n m0 m1=some r):zdm E0.P none (zpe E0.P 292 0) [.ptr 100000 0,.ptr 100001 0] [] (zmp m0 m1) (zgb r) (zdt r):=by
 unfold zeb at hF
 refine zdm.walk (E:=(E0p 2)) (caps:=[]) _ Tryz.func292 rfl rfl rfl rfl rfl ?_
 repeat' first
  |refine AW.step ?_;conv=>whnf
  |exact GX.A (res:=zgb) (meF:=zdt) hF zmb
def zmo (m0:z05)(m1:z05):List (Nat×Ent):=[(100000,.box 109 (z27 m0)),(100001,.box 109 (z27 m1))]
def zds (r:z05×z05×z05):List (Nat×Ent):=[(2,.box 109 (z27 r.1)),(100000,.box 109 (z27 r.2.1)),(100001,.box 109 (z27 r.2.2))]
def zga (r:z05×z05×z05):AV:=.agg [aI (r.1.fKind),aI (r.1.fNum),.str (r.1.fText)]
def zma (r:z05×z05×z05):AS:=⟨[(2,.ptr 2 0),(0,.ptr 100000 0),(1,.ptr 100001 0)],zds r⟩
theorem zkx {n m0 m1 r}(hF:zea n m0 m1=some r):zdm E0.P none (zpe E0.P 293 0) [.ptr 100000 0,.ptr 100001 0] [] (zmo m0 m1) (zga r) (zds r):=by
 unfold zea at hF
 refine zdm.walk (E:=(E0p 2)) (caps:=[]) _ Tryz.func293 rfl rfl rfl rfl rfl ?_
 repeat' first
  |refine AW.step ?_;conv=>whnf
  |exact GX.A (res:=zga) (meF:=zds) hF zma
def zmn (m0:z05):List (Nat×Ent):=[(100000,.box 109 (z27 m0))]
def zdr (r:z05×z05):List (Nat×Ent):=[(1,.box 109 (z27 r.1)),(100000,.box 109 (z27 r.2))]
def zg9 (r:z05×z05):AV:=.agg [aI (r.1.fKind),aI (r.1.fNum),.str (r.1.fText)]
def zm9 (r:z05×z05):AS:=⟨[(1,.ptr 1 0),(0,.ptr 100000 0)],zdr r⟩
theorem zkw {n m0 r}(hF:ze9 n m0=some r):zdm E0.P none (zpe E0.P 294 0) [.ptr 100000 0] [] (zmn m0) (zg9 r) (zdr r):=by
 unfold ze9 at hF
 refine zdm.walk (E:=(E0p 1)) (caps:=[]) _ Tryz.func294 rfl rfl rfl rfl rfl ?_
 repeat' first
  |refine AW.step ?_;conv=>whnf
  |exact GX.A (res:=zg9) (meF:=zdr) hF zm9
def zmm (m0:z05):List (Nat×Ent):=[(100000,.box 109 (z27 m0))]
def zdq (r:z05×z05):List (Nat×Ent):=[(1,.box 109 (z27 r.1)),(100000,.box 109 (z27 r.2))]
def zg8 (r:z05×z05):AV:=.agg [aI (r.1.fKind),aI (r.1.fNum),.str (r.1.fText)]
def zm8 (r:z05×z05):AS:=⟨[(1,.ptr 1 0),(0,.ptr 100000 0)],zdq r⟩
theorem zkv {n m0 r}(hF:ze8 n m0=some r):zdm E0.P none (zpe E0.P 295 0) [.ptr 100000 0] [] (zmm m0) (zg8 r) (zdq r):=by
 unfold ze8 at hF
 refine zdm.walk (E:=(E0p 1)) (caps:=[]) _ Tryz.func295 rfl rfl rfl rfl rfl ?_
 repeat' first
  |refine AW.step ?_;conv=>whnf
  |exact GX.A (res:=zg8) (meF:=zdq) hF zm8
instance y6x {n a0 a1 a2}:CI E0 (zdh n a0 a1 a2) true 288 [aI a0,z09 a1,z09 a2] z09:=⟨fun {r} hF=>by
 unfold zdh at hF
 refine cw Tryz.func288 ?_
 repeat' first
  |refine AW.step ?_;conv=>whnf
  |refine zqo.oS hF rfl (fun hF=>?_) (fun hF=>?_)
  |(cases hF;done)
  |refine z1q.I hF fun a hF=>?_
  |refine zar.oM (z7a 15 hF) [(100000,4),(100001,5)] [(2,16000000),(100000,4),(100001,5)] _ _ zdu zgc [] (fun a h=>zdm.up (zkz h)) (z0x Tryz.func291 rfl rfl) rfl rfl rfl ⟨⟨rfl,rfl⟩,⟨⟨rfl,rfl⟩,trivial⟩⟩ (fun a=>⟨rfl,rfl,rfl,rfl,rfl,rfl,rfl,rfl⟩) (fun a hF=>?_)
  |refine zar.oM (z7a 15 hF) [(100000,4),(100001,5)] [(2,16000000),(100000,4),(100001,5)] _ _ zdt zgb [] (fun a h=>zdm.up (zky h)) (z0x Tryz.func292 rfl rfl) rfl rfl rfl ⟨⟨rfl,rfl⟩,⟨⟨rfl,rfl⟩,trivial⟩⟩ (fun a=>⟨rfl,rfl,rfl,rfl,rfl,rfl,rfl,rfl⟩) (fun a hF=>?_)
  |refine zar.oM (z7a 15 hF) [(100000,4),(100001,5)] [(2,16000000),(100000,4),(100001,5)] _ _ zds zga [] (fun a h=>zdm.up (zkx h)) (z0x Tryz.func293 rfl rfl) rfl rfl rfl ⟨⟨rfl,rfl⟩,⟨⟨rfl,rfl⟩,trivial⟩⟩ (fun a=>⟨rfl,rfl,rfl,rfl,rfl,rfl,rfl,rfl⟩) (fun a hF=>?_)
  |refine zar.oM (z7a 15 hF) [(100000,4)] [(1,16000000),(100000,4)] _ _ zdr zg9 [] (fun a h=>zdm.up (zkw h)) (z0x Tryz.func294 rfl rfl) rfl rfl rfl ⟨⟨rfl,rfl⟩,trivial⟩ (fun a=>⟨rfl,rfl,rfl,rfl,rfl,rfl,rfl,rfl⟩) (fun a hF=>?_)
  |refine zar.oM (z7a 15 hF) [(100000,5)] [(1,16000000),(100000,5)] _ _ zdq zg8 [] (fun a h=>zdm.up (zkv h)) (z0x Tryz.func295 rfl rfl) rfl rfl rfl ⟨⟨rfl,rfl⟩,trivial⟩ (fun a=>⟨rfl,rfl,rfl,rfl,rfl,rfl,rfl,rfl⟩) (fun a hF=>?_)
  |exact zei.oB hF⟩
instance y8a {n a0 a1}:CI E0 (zg4 n a0 a1) true 284 [z35 a0,z35 a1] z35:=by unfold zg4;exact CI.w [] Tryz.func284
instance yd0 {n a0 a1 a2}:CI E0 (zh6 n a0 a1 a2) true 283 [z35 a0,z09 a1,.ref [aI a2]] z35:=by unfold zh6;exact CI.w [] Tryz.func283
@[reducible,instance] def y7e {n c a1 d}:=li (za3 n c a1 d) (fun b=>⟨[(2,.fn 283 [.ref [aI c]]),(3,.ptr 3 0),(6,.ptr 6 0),(9,.sl 3 (a1.map z09)),(10,aI (((a1.map z09).length:Int))),(11,aI b.1)],[(3,.box 313 [aI b.2.1,aI b.2.2.1,aI b.2.2.2.1,aI b.2.2.2.2.1,.str (b.2.2.2.2.2)]),(6,.box 313 [aI 0,aI 0,aI 0,aI 0,.str (ByteArray.empty)])]⟩) fun _ _=>za3.eq_2 ..
instance y8b {n a0 a1 b}:CI E0 (ze7 n a0 a1 b) true 282 [z35 a0,.sl 3 (a1.map z09),.fn 283 [.ref [aI b]]] z35:=by unfold ze7;exact CI.w [] Tryz.func282
@[reducible,instance] def y8j {n a0}:=jf (z8n n a0) (fun b=>⟨[(1,.ptr 1 0),(10,.bool (b))],[(1,.box 313 (zey a0))]⟩) fun _=>z8n.eq_1 ..
instance yai {n a0}:CI E0 (zf8 n a0) true 289 [z35 a0] aI:=by unfold zf8;exact CI.w [3,7,9,11,6] Tryz.func289
@[reducible,instance] def y7f {n a1 a0}:=jf (z83 n a1 a0) (fun b=>⟨[(2,.ptr 2 0),(3,.ptr 3 0),(4,.ptr 4 0),(29,.bool (b))],[(2,.box 313 (zey a0)),(3,.box 109 (z27 a1)),(4,.box 109 [aI 0,aI 0,.str (ByteArray.empty)])]⟩) fun _=>z83.eq_1 ..
instance y8c {n a0 a1}:CI E0 (zbp n a0 a1) true 286 [z35 a0,z09 a1] (fun r=>.tup [z09 r.1,aI r.2]):=by unfold zbp;exact CI.w [9] Tryz.func286
@[reducible,instance] def yep {n a2 a1 a0 b}:=li (zco n a2 a1 a0 b) (fun c=>⟨[(1,.sl 3 (a1.map z09)),(3,.ptr 3 0),(5,.ptr 5 0),(6,.ptr 6 0),(22,.sl 3 (a1.map z09)),(23,aI (((a1.map z09).length:Int))),(24,aI c)],[(3,.box 3 [aI a0]),(5,.box 109 (z27 a2)),(6,.box 109 [aI 0,aI 0,.str (ByteArray.empty)])]⟩) fun _ _=>zco.eq_2 ..
instance yf6 {n a0 a1 a2}:CI E0 (zfw n a0 a1 a2) true 276 [aI a0,.sl 3 (a1.map z09),z09 a2] (fun r=>.tup [z09 r.1,aI r.2]):=⟨fun {r} hF=>by
 unfold zfw at hF
 refine cw Tryz.func276 ?_
 repeat' first
  |refine AW.step ?_;conv=>whnf
  |refine z14.o hF (fun hF=>?_) fun hF=>?_
  |refine z1q.I hF fun a hF=>?_
  |refine zar.I hF (fun a hF=>?_) rfl rfl fun _=>Or.inr rfl
  |refine zes.A hF fun x hF=>?_
  |exact ⟨_,hF,LeX.a []⟩
  |refine z8f.I hF (LeX.a []) fun m v hF=>?_
  |exact zei.oB hF⟩
instance ym7 {n a0}:CI E0 (zjm n a0) true 176 [aI a0] (fun r=>.bool (r)):=by unfold zjm;exact CI.w [] Tryz.func176
instance yij {n a0 a1}:CI E0 (z3c n a0 a1) true 135 [aI a0,aI a1] aI:=by unfold z3c;exact CI.w [] Tryz.func135
end
end Go.Proofs.YtidhlpjgifoneaaGreat
