/- What some functions compute, over plain values. -/
import Derived.Test.YtidhlpjgifoneaaGreatK18
set_option linter.unusedVariables false
set_option linter.unusedSimpArgs false
set_option maxRecDepth 100000
set_option maxHeartbeats 8000000
namespace Go.Proofs.YtidhlpjgifoneaaGreat
open Go.RowKit
noncomputable section
abbrev zlz {n b a1 a0 c d e}:=jf (z4s n b a1 a0 c d e) (fun f=>⟨[(1,aI a1),(2,.ptr 2 0),(5,aI c.1),(6,aI c.2),(16,.bool (f))],[(2,.box 111 (z8s a0))]⟩) fun _=>z4s.eq_1 ..
abbrev zly {n b a1 a0 c}:=li (z3c n b a1 a0 c) (fun d=>⟨[(1,aI a1),(2,.ptr 2 0),(5,aI d.1),(6,aI d.2)],[(2,.box 111 (z8s a0))]⟩) fun _ _=>z3c.eq_2 ..
abbrev zlx {n b a0 c}:=li (z7f n b a0 c) (fun d=>⟨[(1,.ptr 1 0),(3,aI d.1),(4,aI d.2)],[(1,.box 111 (z8s a0))]⟩) fun _ _=>z7f.eq_2 ..
abbrev zls {n}:=jt (z1f n) (fun b=>⟨[(12,.bool (b))],[]⟩) fun _=>z1f.eq_1 ..
abbrev zlt {n a0}:=jt (z1v n a0) (fun b=>⟨[(3,aI a0),(4,.bool (b))],[]⟩) fun _=>z1v.eq_1 ..
abbrev zn9 {n b}:=jf (z3m n b) (fun c=>⟨[(2,.bool (c)),(3,.bool (b))],[]⟩) fun _=>z3m.eq_1 ..
abbrev zna {n a0}:=jf (z5t n a0) (fun b=>⟨[(0,aI a0),(4,.bool (b))],[]⟩) fun _=>z5t.eq_1 ..
abbrev zm0 {n}:=jf (z2b n) (fun b=>⟨[(4,.bool (b))],[]⟩) fun _=>z2b.eq_1 ..
abbrev znc {n}:=jf (z0j n) (fun b=>⟨[(130,.bool (b))],[]⟩) fun _=>z0j.eq_1 ..
abbrev znd {n a0 x2 b}:=jf (z2q n a0 x2 b) (fun c=>⟨[(1,.ptr 1 0),(4,.bool (x2.1)),(5,.bool (x2.2)),(6,.bool (decide (a0.fOp=4))),(7,.bool (b)),(95,.bool (c))],[(1,.box 111 (z8s a0))]⟩) fun _=>z2q.eq_1 ..
abbrev zne {n a0 x2 b}:=jt (z5u n a0 x2 b) (fun _=>⟨[(1,.ptr 1 0),(4,.bool (x2.1)),(5,.bool (x2.2)),(6,.bool (decide (a0.fOp=4))),(7,.bool (b))],[(1,.box 111 (z8s a0))]⟩) fun _=>z5u.eq_1 ..
abbrev znf {n a0 x2}:=jf (z5v n a0 x2) (fun b=>⟨[(1,.ptr 1 0),(4,.bool (x2.1)),(5,.bool (x2.2)),(6,.bool (decide (a0.fOp=4))),(7,.bool (b))],[(1,.box 111 (z8s a0))]⟩) fun _=>z5v.eq_1 ..
abbrev zng {n a0 x2}:=jf (z3o n a0 x2) (fun b=>⟨[(1,.ptr 1 0),(4,.bool (x2.1)),(5,.bool (x2.2)),(6,.bool (decide (a0.fOp=4))),(62,.bool (b))],[(1,.box 111 (z8s a0))]⟩) fun _=>z3o.eq_1 ..
abbrev znh {n a0 x2}:=jf (z1d n a0 x2) (fun b=>⟨[(1,.ptr 1 0),(4,.bool (x2.1)),(5,.bool (x2.2)),(48,.bool (b))],[(1,.box 111 (z8s a0))]⟩) fun _=>z1d.eq_1 ..
abbrev zlr {n b a0 c}:=li (z7e n b a0 c) (fun d=>⟨[(1,.ptr 1 0),(4,aI d)],[(1,.box 111 (z8s a0))]⟩) fun _ _=>z7e.eq_2 ..
attribute [instance] zlz zly zlx zls zlt zn9 zna zm0 znc znd zne znf zng znh zlr
def zqo (r:Int):AV:=aI (r)
theorem zle {n a0 a1 r}(hF:z31 n a0 a1=some r):Con E0 true 95 [z0l a0,aI a1] (aI r):=by
 induction n generalizing a0 a1 r
 case zero=>cases hF
 case succ n ih =>
 unfold z31 at hF
 refine cw Tryz.func95 ?_
 repeat' first
  |refine AW.jI hF (fun v hF=>?_) fun hF=>?_
  |refine AW.regO hF fun hF=>?_
  |refine AW.stepU [3] ?_;conv=>whnf
  |refine z14.o hF (fun hF=>?_) fun hF=>?_
  |refine IdxX.oD hF z3v (fun x hF=>?_)
  |refine z1n.o hF zqo (fun a h=>ih h) (fun a hF=>?_)
  |exact ⟨_,hF,LeX.a []⟩
  |refine z8h.I hF (LeX.a []) fun m v hF=>?_
  |exact RetX.oB hF
instance y3k {n a0 a1}:CI E0 (z31 n a0 a1) true 95 [z0l a0,aI a1] aI:=⟨zle⟩
def zqn (r:Int):AV:=aI (r)
theorem zld {n a0 r}(hF:z30 n a0=some r):Con E0 true 96 [z0l a0] (aI r):=by
 induction n generalizing a0 r
 case zero=>cases hF
 case succ n ih =>
 unfold z30 at hF
 refine cw Tryz.func96 ?_
 repeat' first
  |refine AW.step ?_;conv=>whnf
  |refine z14.o hF (fun hF=>?_) fun hF=>?_
  |refine IdxX.oD hF z3v (fun x hF=>?_)
  |refine z1n.o hF zqn (fun a h=>ih h) (fun a hF=>?_)
  |exact ⟨_,hF,LeX.a []⟩
  |refine z8h.I hF (LeX.a []) fun m v hF=>?_
  |exact RetX.oB hF
instance y3j {n a0}:CI E0 (z30 n a0) true 96 [z0l a0] aI:=⟨zld⟩
instance y3g {n a0}:CI E0 (zbj n a0) true 235 [aI a0] aI:=by unfold zbj;exact CI.w [2,3,4,5,10,11,12,13,14,15] Tryz.func235
instance y4s {n a0}:CI E0 (zc0 n a0) true 234 [aI a0] (fun r=>.tup [.bool (r.1),.bool (r.2)]):=by unfold zc0;exact CI.w [1,2] Tryz.func234
instance y3r {n a0}:CI E0 (z3q n a0) true 236 [z08 a0] aI:=by unfold z3q;exact CI.w [] Tryz.func236
instance y3n {n a0 a1}:CI E0 (z7x n a0 a1) true 237 [aI a0,z08 a1] (fun r=>.bool (r)):=by unfold z7x;exact CI.w [1] Tryz.func237
instance y4u {n a0}:CI E0 (zc1 n a0) true 209 [z0l a0] aI:=⟨fun {r} hF=>by
 unfold zc1 at hF
 refine cw Tryz.func209 ?_
 repeat' first
  |refine AW.jI hF (fun v hF=>?_) fun hF=>?_
  |refine AW.jI2 hF (fun v hF=>?_) fun hF=>?_
  |refine AW.regO hF fun hF=>?_
  |refine AW.stepU [7,10,12,13,17,19] ?_;conv=>whnf
  |refine z14.o hF (fun hF=>?_) fun hF=>?_
  |refine z14.t ?_
  |refine z14.f ?_
  |refine z1n.I hF fun a hF=>?_
  |exact ⟨_,hF,LeX.a []⟩
  |exact ⟨(),hF,LeX.a []⟩
  |refine EqX.A ?_
  |exact RetX.oB hF⟩
def zqm (r:Int):AV:=aI (r)
theorem zlc {n a0 r}(hF:z3n n a0=some r):Con E0 true 179 [z0l a0] (aI r):=by
 induction n generalizing a0 r
 case zero=>cases hF
 case succ n ih =>
 unfold z3n at hF
 refine cw Tryz.func179 ?_
 repeat' first
  |refine AW.step ?_;conv=>whnf
  |refine z14.o hF (fun hF=>?_) fun hF=>?_
  |refine z1n.I hF fun a hF=>?_
  |refine IdxX.oD hF z3v (fun x hF=>?_)
  |refine z1n.o hF zqm (fun a h=>ih h) (fun a hF=>?_)
  |exact ⟨_,hF,LeX.a []⟩
  |refine z8h.I hF (LeX.a []) fun m v hF=>?_
  |exact RetX.oB hF
instance y3f {n a0}:CI E0 (z3n n a0) true 179 [z0l a0] aI:=⟨zlc⟩
end
noncomputable section
abbrev zot {n}:=jf (z6q n) (fun b=>⟨[(4,.bool (b))],[]⟩) fun _=>z6q.eq_1 ..
abbrev zku {n a1 a0 b c}:=li (z69 n a1 a0 b c) (fun d=>⟨[(1,.sl 11 (a1.map z0u)),(2,.ptr 2 0),(5,aI b),(6,aI d)],[(2,.box 25 (z0g a0))]⟩) fun _ _=>z69.eq_2 ..
abbrev zkw {n a1 a0 b c}:=jf (z2y n a1 a0 b c) (fun d=>⟨[(1,.sl 11 (a1.map z0u)),(2,.ptr 2 0),(5,aI b),(44,.bool (d))],[(2,.box 25 (z0g a0))]⟩) fun _=>z2y.eq_1 ..
abbrev zkv {n a1 a0 b}:=li (z1o n a1 a0 b) (fun c=>⟨[(1,.sl 11 (a1.map z0u)),(2,.ptr 2 0),(5,aI c)],[(2,.box 25 (z0g a0))]⟩) fun _ _=>z1o.eq_2 ..
abbrev zks {n a1 a0 b c}:=li (z68 n a1 a0 b c) (fun d=>⟨[(0,.sl 1 (a0.map aI)),(1,aI a1),(5,aI b),(6,aI d)],[]⟩) fun _ _=>z68.eq_2 ..
abbrev zkt {n a1 a0 b}:=li (z3z n a1 a0 b) (fun c=>⟨[(0,.sl 1 (a0.map aI)),(1,aI a1),(5,aI c)],[]⟩) fun _ _=>z3z.eq_2 ..
abbrev zli {n a1 b}:=li (z4o n a1 b) (fun c=>⟨[(3,.ptr 3 0),(10,aI c)],[(3,.box 115 (z28 a1))]⟩) fun _ _=>z4o.eq_2 ..
abbrev zlj {n a1 a0 b c}:=li (z29 n a1 a0 b c) (fun d=>⟨[(2,.ptr 2 0),(3,.ptr 3 0),(7,.sl 1 [.sl 1 (a1.fOpens.map aI),.sl 1 (a1.fCloses.map aI),.sl 1 (a1.fInside.map aI),.sl 1 (b.map aI)]),(8,aI d)],[(2,.box 25 (z0g a0)),(3,.box 115 (z28 a1))]⟩) fun _ _=>z29.eq_2 ..
abbrev zlk {n a1 a0 b}:=li (z7a n a1 a0 b) (fun c=>⟨[(2,.ptr 2 0),(3,.ptr 3 0),(5,.row 7026),(6,aI c.1)],[(2,.box 25 (z0g a0)),(3,.box 115 (z28 a1)),(7026,.row 3 1 (c.2.map aI))]⟩) fun _ _=>z7a.eq_2 ..
abbrev zn2 {n a1 a0 b}:=li (z8b n a1 a0 b) (fun c=>⟨[(3,.ptr 3 0),(4,.ptr 4 0),(9,aI c)],[(3,.box 25 (z0g a0)),(4,.box 115 (z28 a1))]⟩) fun _ _=>z8b.eq_2 ..
abbrev zn3 {n a2 a1 a0}:=jf (z17 n a2 a1 a0) (fun b=>⟨[(2,aI a2),(3,.ptr 3 0),(4,.ptr 4 0),(42,.bool (b))],[(3,.box 25 (z0g a0)),(4,.box 115 (z28 a1))]⟩) fun _=>z17.eq_1 ..
abbrev zll {n a0 b}:=li (z7b n a0 b) (fun c=>⟨[(1,.ptr 1 0),(5,aI c.1),(6,aI c.2)],[(1,.box 25 (z0g a0))]⟩) fun _ _=>z7b.eq_2 ..
abbrev zlm {n a0 b}:=li (z7c n a0 b) (fun c=>⟨[(1,.ptr 1 0),(3,aI c)],[(1,.box 25 (z0g a0))]⟩) fun _ _=>z7c.eq_2 ..
abbrev zln {n a0}:=jf (z1t n a0) (fun b=>⟨[(1,.ptr 1 0),(31,.bool (b))],[(1,.box 25 (z0g a0))]⟩) fun _=>z1t.eq_1 ..
abbrev zlo {n a0}:=jf (z2a n a0) (fun b=>⟨[(1,.ptr 1 0),(15,.bool (b))],[(1,.box 25 (z0g a0))]⟩) fun _=>z2a.eq_1 ..
attribute [instance] zot zku zkw zkv zks zkt zli zlj zlk zn2 zn3 zll zlm zln zlo
instance y3l {n a0}:CI E0 (z32 n a0) true 138 [z0l a0] aI:=by unfold z32;exact CI.w [] Tryz.func138
instance y7h {n a0 a1}:CI E0 (z19 n a0 a1) true 97 [aI a0,aI a1] (fun r=>.bool (r)):=by unfold z19;exact CI.w [1] Tryz.func97
instance y1n {n a0 a1}:CI E0 (zau n a0 a1) true 98 [z0n a0,.sl 11 (a1.map z0u)] aI:=by unfold zau;exact CI.w [6] Tryz.func98
instance y1m {n a0 a1}:CI E0 (z8y n a0 a1) true 180 [.sl 1 (a0.map aI),aI a1] aI:=by unfold z8y;exact CI.w [] Tryz.func180
instance y3a {n a0 a1}:CI E0 (z9n n a0 a1) true 139 [z0n a0,z0w a1] aI:=⟨fun {r} hF=>by
 unfold z9n at hF
 refine cw Tryz.func139 ?_
 repeat' first
  |refine AW.regO hF fun hF=>?_
  |refine AW.frzO hF 7026 rfl (fun hF=>?_)
  |refine AW.stepU [6] ?_;conv=>whnf
  |refine z14.o hF (fun hF=>?_) fun hF=>?_
  |refine IdxX.A hF fun x hF=>?_
  |refine z1n.I hF fun a hF=>?_
  |exact ⟨_,hF,LeX.a []⟩
  |refine z8h.I hF ?_ fun m v hF=>?_
  |exact LeX.a []
  |refine IdxX.o (fun q=>AV.sl 1 (List.map aI q)) hF fun x hF=>?_
  |refine AppX.oA hF fun l hF=>?_
  |exact ⟨_,hF,LeX.a [(7026,26)]⟩
  |exact LeX.trans (LeX.adopt 5 7026 3 1 rfl rfl) (LeX.a [])
  |refine AndA ?_
  |exact RetX.oB hF⟩
instance y4q {n a0 a1 a2}:CI E0 (zby n a0 a1 a2) true 99 [z0n a0,z0w a1,aI a2] aI:=⟨fun {r} hF=>by
 unfold zby at hF
 refine cw Tryz.func99 ?_
 repeat' first
  |refine AW.jI hF (fun v hF=>?_) fun hF=>?_
  |refine AW.regO hF fun hF=>?_
  |refine AW.stepU [2] ?_;conv=>whnf
  |refine z14.o hF (fun hF=>?_) fun hF=>?_
  |refine z14.t ?_
  |refine z14.f ?_
  |refine z1n.I hF fun a hF=>?_
  |refine IdxX.oD hF z3v (fun x hF=>?_)
  |exact ⟨_,hF,LeX.a []⟩
  |refine z8h.I hF (LeX.a []) fun m v hF=>?_
  |exact RetX.oB hF⟩
end
noncomputable section
abbrev zzw {n b a0 d}:=li (zfp n b a0 d) (fun c=>⟨[(4,aI c.1),(5,aI c.2.1),(11,.sl 8 (a0.fArgs.map idA)),(12,aI (((a0.fArgs.map idA).length:Int))),(13,aI c.2.2)],[]⟩) fun _ _=>zfp.eq_2 ..
abbrev zyh {n a0}:=jf (zdh n a0) (fun b=>⟨[(0,aI a0),(4,.bool (b))],[]⟩) fun _=>zdh.eq_1 ..
abbrev zzp {n}:=jt (zek n) (fun b=>⟨[(8,.bool (b))],[]⟩) fun _=>zek.eq_1 ..
abbrev zzq {n a0}:=jt (zel n a0) (fun b=>⟨[(4,aI a0),(5,.bool (b))],[]⟩) fun _=>zel.eq_1 ..
abbrev zyg {n}:=jf (zbn n) (fun b=>⟨[(4,.bool (b))],[]⟩) fun _=>zbn.eq_1 ..
abbrev zsr {n}:=jf (z64 n) (fun b=>⟨[(31,.bool (b))],[]⟩) fun _=>z64.eq_1 ..
abbrev zzr {n}:=jf (z12 n) (fun b=>⟨[(113,.bool (b))],[]⟩) fun _=>z12.eq_1 ..
abbrev zzs {n a0 x2 b}:=jt (zem n a0 x2 b) (fun _=>⟨[(1,.ptr 1 0),(5,.bool (x2.1)),(6,.bool (x2.2)),(7,.bool (decide (a0.fOp=4))),(8,.bool (b))],[(1,.box 111 (z8s a0))]⟩) fun _=>zem.eq_1 ..
abbrev zzt {n a0 x2}:=jf (zen n a0 x2) (fun b=>⟨[(1,.ptr 1 0),(5,.bool (x2.1)),(6,.bool (x2.2)),(7,.bool (decide (a0.fOp=4))),(8,.bool (b))],[(1,.box 111 (z8s a0))]⟩) fun _=>zen.eq_1 ..
abbrev zzu {n a0 x2}:=jf (zcg n a0 x2) (fun b=>⟨[(1,.ptr 1 0),(5,.bool (x2.1)),(6,.bool (x2.2)),(7,.bool (decide (a0.fOp=4))),(66,.bool (b))],[(1,.box 111 (z8s a0))]⟩) fun _=>zcg.eq_1 ..
abbrev zzv {n a0 x2}:=jf (z6h n a0 x2) (fun b=>⟨[(1,.ptr 1 0),(5,.bool (x2.1)),(6,.bool (x2.2)),(52,.bool (b))],[(1,.box 111 (z8s a0))]⟩) fun _=>z6h.eq_1 ..
abbrev zyf {n b a0 c}:=li (zf6 n b a0 c) (fun d=>⟨[(1,.fn 183 []),(16,.sl 8 (a0.fArgs.map idA)),(17,aI (((a0.fArgs.map idA).length:Int))),(18,aI d)],[]⟩) fun _ _=>zf6.eq_2 ..
abbrev zq6 {n}:=jf (z83 n) (fun b=>⟨[(4,.bool (b))],[]⟩) fun _=>z83.eq_1 ..
attribute [instance] zzw zyh zzp zzq zyg zsr zzr zzs zzt zzu zzv zyf zq6
instance y3b {n a0}:CI E0 (z54 n a0) true 63 [z0n a0] aI:=by unfold z54;exact CI.w [1,3] Tryz.func63
def ybd (r:Int×Int):AV:=.tup [aI (r.1),aI (r.2)]
theorem zys {n a0 r}(hF:zfh n a0=some r):Con E0 true 182 [z0l a0] (.tup [aI r.1,aI r.2]):=by
 induction n generalizing a0 r
 case zero=>cases hF
 case succ n ih =>
 unfold zfh at hF
 refine cw Tryz.func182 ?_
 repeat' first
  |refine AW.step ?_;conv=>whnf
  |refine z14.o hF (fun hF=>?_) fun hF=>?_
  |refine IdxX.oD hF z3v (fun x hF=>?_)
  |refine z1n.o hF ybd (fun a h=>ih h) (fun a hF=>?_)
  |exact ⟨_,hF,LeX.a []⟩
  |refine z8h.I hF (LeX.a []) fun m v hF=>?_
  |exact RetX.oB hF
instance yl5 {n a0}:CI E0 (zfh n a0) true 182 [z0l a0] (fun r=>.tup [aI r.1,aI r.2]):=⟨zys⟩
instance yjd {n a0}:CI E0 (zia n a0) true 210 [aI a0] (fun r=>.tup [aI r.1,.bool (r.2)]):=by unfold zia;exact CI.w [1] Tryz.func210
instance yl2 {n a0}:CI E0 (zhv n a0) true 153 [aI a0] (fun r=>.tup [.bool (r.1),.bool (r.2)]):=by unfold zhv;exact CI.w [2,5] Tryz.func153
instance yj1 {n a0}:CI E0 (zg6 n a0) true 252 [z08 a0] aI:=by unfold zg6;exact CI.w [] Tryz.func252
instance yi7 {n a0}:CI E0 (zca n a0) true 238 [z08 a0] aI:=by unfold zca;exact CI.w [] Tryz.func238
instance yjb {n a0 a1}:CI E0 (zi9 n a0 a1) true 239 [aI a0,z08 a1] (fun r=>.bool (r)):=by unfold zi9;exact CI.w [1] Tryz.func239
instance ydg {n a0}:CI E0 (zfj n a0) true 211 [z0l a0] aI:=by unfold zfj;exact CI.w [4] Tryz.func211
instance yl3 {n a0}:CI E0 (zjl n a0) true 183 [z0l a0] aI:=⟨fun {r} hF=>by
 unfold zjl at hF
 refine cw Tryz.func183 ?_
 repeat' first
  |refine AW.jI hF (fun v hF=>?_) fun hF=>?_
  |refine AW.jI2 hF (fun v hF=>?_) fun hF=>?_
  |refine AW.regO hF fun hF=>?_
  |refine AW.stepU [7,10,12,13,17] ?_;conv=>whnf
  |refine z14.o hF (fun hF=>?_) fun hF=>?_
  |refine z14.t ?_
  |refine z14.f ?_
  |refine z1n.I hF fun a hF=>?_
  |exact ⟨_,hF,LeX.a []⟩
  |exact ⟨(),hF,LeX.a []⟩
  |refine EqX.A ?_
  |exact RetX.oB hF⟩
def y8l (r:Int):AV:=aI (r)
theorem zw3 {n a0 r}(hF:ze2 n a0=some r):Con E0 true 151 [z0l a0,.fn 183 []] (aI r):=by
 induction n generalizing a0 r
 case zero=>cases hF
 case succ n ih =>
 unfold ze2 at hF
 refine cw Tryz.func151 ?_
 repeat' first
  |refine AW.step ?_;conv=>whnf
  |refine z14.o hF (fun hF=>?_) fun hF=>?_
  |refine z1n.I hF fun a hF=>?_
  |refine IdxX.oD hF z3v (fun x hF=>?_)
  |refine z1n.o hF y8l (fun a h=>ih h) (fun a hF=>?_)
  |exact ⟨_,hF,LeX.a []⟩
  |refine z8h.I hF (LeX.a []) fun m v hF=>?_
  |exact RetX.oB hF
instance yja {n a0}:CI E0 (ze2 n a0) true 151 [z0l a0,.fn 183 []] aI:=⟨zw3⟩
instance yje {n a0}:CI E0 (ze4 n a0) true 143 [z0l a0] aI:=by unfold ze4;exact CI.w [] Tryz.func143
instance y8u {n a0 a1}:CI E0 (z3t n a0 a1) true 140 [aI a0,aI a1] (fun r=>.bool (r)):=by unfold z3t;exact CI.w [1] Tryz.func140
end
noncomputable section
abbrev zpp {n b a0 c}:=li (z9u n b a0 c) (fun d=>⟨[(0,.sl 11 (a0.map z0u)),(1,.fn 142 [.ref (zje b)]),(7,aI (((a0.map z0u).length:Int))),(8,aI d)],[]⟩) fun _ _=>z9u.eq_2 ..
abbrev zqa {n a1 a0 b c d}:=jf (z59 n a1 a0 b c d) (fun e=>⟨[(1,.sl 11 (a1.map z0u)),(2,.ptr 2 0),(5,aI b),(6,.ptr 6 0),(11,.sl 11 (a1.map z0u)),(12,aI (((a1.map z0u).length:Int))),(13,aI b),(18,.bool (e))],[(2,.box 25 (z0g a0)),(6,.box 154 (zje d))]⟩) fun _=>z59.eq_1 ..
abbrev zq9 {n a1 a0 b}:=li (z33 n a1 a0 b) (fun c=>⟨[(1,.sl 11 (a1.map z0u)),(2,.ptr 2 0),(11,.sl 11 (a1.map z0u)),(12,aI (((a1.map z0u).length:Int))),(13,aI c)],[(2,.box 25 (z0g a0))]⟩) fun _ _=>z33.eq_2 ..
abbrev zpi {n a0 b}:=li (z96 n a0 b) (fun c=>⟨[(3,.row 7016),(6,.sl 2 (a0.map z24)),(7,aI (((a0.map z24).length:Int))),(8,aI c.1)],[(7016,.row 3 1 (c.2.map aI))]⟩) fun _ _=>z96.eq_2 ..
abbrev zuc {n a1 a0 b}:=li (zck n a1 a0 b) (fun c=>⟨[(0,.sl 1 (a0.map aI)),(1,aI a1),(7,aI (((a0.map aI).length:Int))),(8,aI c)],[]⟩) fun _ _=>zck.eq_2 ..
abbrev zq7 {n a1 a0 c b d}:=li (z3u n a1 a0 c b d) (fun e=>⟨[(2,.ptr 2 0),(6,.sl 1 (b.map aI)),(9,.sl 1 (List.map (fun q=>AV.sl 1 (List.map aI q)) (a1))),(10,aI ((((List.map (fun q=>AV.sl 1 (List.map aI q)) (a1)).length:Nat):Int))),(11,aI c),(15,.sl 1 (b.map aI)),(16,aI (((b.map aI).length:Int))),(17,aI e)],[(2,.box 25 (z0g a0))]⟩) fun _ _=>z3u.eq_2 ..
abbrev zq8 {n a1 a0 b}:=li (z58 n a1 a0 b) (fun c=>⟨[(2,.ptr 2 0),(9,.sl 1 (List.map (fun q=>AV.sl 1 (List.map aI q)) (a1))),(10,aI ((((List.map (fun q=>AV.sl 1 (List.map aI q)) (a1)).length:Nat):Int))),(11,aI c)],[(2,.box 25 (z0g a0))]⟩) fun _ _=>z58.eq_2 ..
abbrev zqb {n}:=jf (z84 n) (fun b=>⟨[(2,.bool (b))],[]⟩) fun _=>z84.eq_1 ..
abbrev zl1 {n a0 b}:=li (z6c n a0 b) (fun c=>⟨[(0,.sl 2 (a0.map z24)),(1,.fn 147 []),(7,aI (((a0.map z24).length:Int))),(8,aI c)],[]⟩) fun _ _=>z6c.eq_2 ..
attribute [instance] zpp zqa zq9 zpi zuc zq7 zq8 zqb zl1
instance y55 {n a0 a1}:CI E0 (zaj n a0 a1) true 142 [z0u a0,.ref (zje a1)] (fun r=>.bool (r)):=by unfold zaj;exact CI.w [] Tryz.func142
instance y8q {n a0 b}:CI E0 (zdw n a0 b) true 181 [.sl 11 (a0.map z0u),.fn 142 [.ref (zje b)]] aI:=by unfold zdw;exact CI.w [] Tryz.func181
instance y3t {n a0 b}:CI E0 (z9w n a0 b) true 141 [.sl 11 (a0.map z0u),.fn 142 [.ref (zje b)]] (fun r=>.bool (r)):=by unfold z9w;exact CI.w [] Tryz.func141
instance y8w {n a0 a1}:CI E0 (ze6 n a0 a1) true 104 [z0n a0,.sl 11 (a1.map z0u)] aI:=⟨fun {r} hF=>by
 unfold ze6 at hF
 refine cw Tryz.func104 ?_
 repeat' first
  |refine AW.jI hF (fun v hF=>?_) fun hF=>?_
  |refine AW.regO hF fun hF=>?_
  |refine AW.stepU [6] ?_;conv=>whnf
  |refine z14.o hF (fun hF=>?_) fun hF=>?_
  |refine z14.t ?_
  |refine IdxX.A hF fun x hF=>?_
  |refine SlsX.o z0u hF (fun l hF=>?_)
  |refine zap.I hF (fun a hF=>?_) rfl rfl fun _=>Or.inr rfl
  |refine z1n.I hF fun a hF=>?_
  |exact ⟨_,hF,LeX.a []⟩
  |refine z8h.I hF (LeX.a []) fun m v hF=>?_
  |exact RetX.oB hF⟩
instance y82 {n a0}:CI E0 (zb8 n a0) false 145 [.sl 2 (a0.map z24)] (fun r=>.sl 1 (r.map aI)):=⟨fun {r} hF=>by
 unfold zb8 at hF
 refine cw Tryz.func145 ?_
 repeat' first
  |refine AW.step ?_;conv=>whnf
  |refine z14.o hF (fun hF=>?_) fun hF=>?_
  |refine IdxX.A hF fun x hF=>?_
  |refine AppX.oA hF fun l hF=>?_
  |exact ⟨_,hF,LeX.a [(7016,16)]⟩
  |refine z8h.I hF ?_ fun m v hF=>?_
  |exact LeX.trans (LeX.adopt 3 7016 3 1 rfl rfl) (LeX.a [])
  |exact RetX.oB hF⟩
instance yf5 {n a0 a1}:CI E0 (zhx n a0 a1) true 212 [.sl 1 (a0.map aI),aI a1] aI:=by unfold zhx;exact CI.w [] Tryz.func212
instance yag {n a0 a1}:CI E0 (z8e n a0 a1) true 184 [.sl 1 (a0.map aI),aI a1] (fun r=>.bool (r)):=by unfold z8e;exact CI.w [] Tryz.func184
instance y8v {n a0 a1}:CI E0 (ze5 n a0 a1) true 144 [z0n a0,.sl 1 (List.map (fun q=>AV.sl 1 (List.map aI q)) (a1))] aI:=⟨fun {r} hF=>by
 unfold ze5 at hF
 refine cw Tryz.func144 ?_
 repeat' first
  |refine AW.step ?_;conv=>whnf
  |refine z14.o hF (fun hF=>?_) fun hF=>?_
  |refine IdxX.o (fun q=>AV.sl 1 (List.map aI q)) hF fun x hF=>?_
  |exact ⟨_,hF,LeX.a []⟩
  |refine IdxX.A hF fun x hF=>?_
  |refine z1n.I hF fun a hF=>?_
  |refine SlsX.o aI hF (fun l hF=>?_)
  |refine z8h.I hF (LeX.a []) fun m v hF=>?_
  |exact RetX.oB hF⟩
instance y8x {n a0}:CI E0 (zac n a0) true 147 [z24 a0] (fun r=>.bool (r)):=by unfold zac;exact CI.w [1] Tryz.func147
instance y1t {n a0}:CI E0 (zay n a0) true 185 [.sl 2 (a0.map z24),.fn 147 []] aI:=by unfold zay;exact CI.w [] Tryz.func185
instance zyo {n a0}:CI E0 (z6d n a0) true 146 [.sl 2 (a0.map z24),.fn 147 []] (fun r=>.bool (r)):=by unfold z6d;exact CI.w [] Tryz.func146
end
noncomputable section
abbrev zt0 {n a1 a0 b}:=li (zb9 n a1 a0 b) (fun c=>⟨[(3,.ptr 3 0),(4,.ptr 4 0),(63,.sl 8 (a1.fChecks.map idA)),(64,aI (((a1.fChecks.map idA).length:Int))),(65,aI c)],[(3,.box 25 (z0g a0)),(4,.box 115 (z28 a1))]⟩) fun _ _=>zb9.eq_2 ..
abbrev zt1 {n a2 a1 a0}:=jf (z1z n a2 a1 a0) (fun b=>⟨[(2,aI a2),(3,.ptr 3 0),(4,.ptr 4 0),(12,.bool (b))],[(3,.box 25 (z0g a0)),(4,.box 115 (z28 a1))]⟩) fun _=>z1z.eq_1 ..
abbrev zrt {n a0 b}:=li (zak n a0 b) (fun c=>⟨[(1,.ptr 1 0),(6,aI c.1),(62,.sl 17 (a0.fEdges.map z0w)),(63,aI (((a0.fEdges.map z0w).length:Int))),(64,aI c.2)],[(1,.box 25 (z0g a0))]⟩) fun _ _=>zak.eq_2 ..
abbrev zru {n a0 b}:=li (zal n a0 b) (fun c=>⟨[(1,.ptr 1 0),(47,.sl 1 (a0.fStates.map z0p)),(48,aI (((a0.fStates.map z0p).length:Int))),(49,aI c)],[(1,.box 25 (z0g a0))]⟩) fun _ _=>zal.eq_2 ..
abbrev zrv {n a0}:=jf (z3e n a0) (fun b=>⟨[(1,.ptr 1 0),(29,.bool (b))],[(1,.box 25 (z0g a0))]⟩) fun _=>z3e.eq_1 ..
abbrev zrw {n a0}:=jf (z2p n a0) (fun b=>⟨[(1,.ptr 1 0),(10,.bool (b))],[(1,.box 25 (z0g a0))]⟩) fun _=>z2p.eq_1 ..
abbrev znj {n}:=jf (z3p n) (fun b=>⟨[(2,.bool (b))],[]⟩) fun _=>z3p.eq_1 ..
abbrev zm2 {n}:=jf (z2c n) (fun b=>⟨[(58,.bool (b))],[]⟩) fun _=>z2c.eq_1 ..
abbrev zm1 {n}:=jf (z4t n) (fun b=>⟨[(70,.bool (b))],[]⟩) fun _=>z4t.eq_1 ..
abbrev zm3 {n a0}:=jf (z4u n a0) (fun b=>⟨[(1,.ptr 1 0),(23,.bool (b))],[(1,.box 313 (zex a0))]⟩) fun _=>z4u.eq_1 ..
abbrev zm4 {n a0}:=jf (z4v n a0) (fun b=>⟨[(1,.ptr 1 0),(15,.bool (b))],[(1,.box 313 (zex a0))]⟩) fun _=>z4v.eq_1 ..
abbrev zp3 {n a0}:=jt (z4g n a0) (fun b=>⟨[(4,.ptr 4 0),(8,.ptr 8 0)],[(4,.box 313 [aI 0,aI 0,aI 0,aI 0,.str (ByteArray.empty)]),(8,.box 313 [aI a0.fKind,aI ((IntKind.wrap .i64 (a0.fCount+1))),aI b.1,aI b.2.1,.str (b.2.2)])]⟩) fun _=>z4g.eq_1 ..
abbrev zky {n a1 a0}:=jf (z41 n a1 a0) (fun b=>⟨[(2,.ptr 2 0),(3,.ptr 3 0),(4,.ptr 4 0),(35,.bool (b))],[(2,.box 313 (zex a0)),(3,.box 109 (z26 a1)),(4,.box 109 [aI 0,aI 0,.str (ByteArray.empty)])]⟩) fun _=>z41.eq_1 ..
abbrev zpn {n a2 a1 c}:=li (z9q n a2 a1 c) (fun b=>⟨[(1,.sl 3 (a1.map z08)),(5,.ptr 5 0),(6,.ptr 6 0),(8,.ptr 8 0),(9,aI b.1)],[(5,.box 109 (z26 a2)),(6,.box 109 [aI 0,aI 0,.str (ByteArray.empty)]),(8,.box 313 [aI b.2.1,aI b.2.2.1,aI b.2.2.2.1,aI b.2.2.2.2.1,.str (b.2.2.2.2.2)])]⟩) fun _ _=>z9q.eq_2 ..
attribute [instance] zt0 zt1 zrt zru zrv zrw znj zm2 zm1 zm3 zm4 zp3 zky zpn
instance ydi {n a0 a1 a2}:CI E0 (zfk n a0 a1 a2) true 105 [z0n a0,z0w a1,aI a2] aI:=⟨fun {r} hF=>by
 unfold zfk at hF
 refine cw Tryz.func105 ?_
 repeat' first
  |refine AW.jI hF (fun v hF=>?_) fun hF=>?_
  |refine AW.regO hF fun hF=>?_
  |refine AW.stepU [1] ?_;conv=>whnf
  |refine z14.o hF (fun hF=>?_) fun hF=>?_
  |refine z14.t ?_
  |refine z1n.I hF fun a hF=>?_
  |refine IdxX.oD hF z3v (fun x hF=>?_)
  |exact ⟨_,hF,LeX.a []⟩
  |refine z8h.I hF (LeX.a []) fun m v hF=>?_
  |refine AndA ?_
  |exact RetX.oB hF⟩
instance yav {n a0}:CI E0 (zba n a0) true 69 [z0n a0] aI:=by unfold zba;exact CI.w [1,3] Tryz.func69
instance y4z {n a0}:CI E0 (zae n a0) true 273 [aI a0] (fun r=>.bool (r)):=by unfold zae;exact CI.w [1] Tryz.func273
instance y3o {n a0}:CI E0 (z9r n a0) true 277 [z34 a0] aI:=by unfold z9r;exact CI.w [3,5,11,14] Tryz.func277
instance y3m {n a0 a1}:CI E0 (z9p n a0 a1) true 278 [aI a0,z08 a1] aI:=by unfold z9p;exact CI.w [] Tryz.func278
instance y00 {n a0 a1 a2}:CI E0 (za6 n a0 a1 a2) true 279 [aI a0,z08 a1,z08 a2] z08:=by unfold za6;exact CI.w [] Tryz.func279
instance y7m {n a0 a1}:CI E0 (zd2 n a0 a1) true 274 [z34 a0,z08 a1] (fun r=>.tup [z34 r.1,aI r.2]):=by unfold zd2;exact CI.w [10,12] Tryz.func274
instance y1p {n a0 a1}:CI E0 (z91 n a0 a1) true 275 [z34 a0,z08 a1] (fun r=>.tup [z08 r.1,aI r.2]):=by unfold z91;exact CI.w [9] Tryz.func275
end
noncomputable section
abbrev zkx {n a1 a0}:=jf (z40 n a1 a0) (fun b=>⟨[(1,aI a1),(2,.ptr 2 0),(13,.bool (b))],[(2,.box 220 (zcv a0))]⟩) fun _=>z40.eq_1 ..
abbrev znb {n a0 x2 b}:=li (z8c n a0 x2 b) (fun c=>⟨[(4,.ptr 4 0),(8,.ptr 8 0),(10,.row 7063),(11,.sl 5 (x2.map z02)),(12,aI c.1)],[(4,.box 111 (z8s a0)),(8,.box 109 [aI 0,aI 0,.str (ByteArray.empty)]),(7063,.row 109 3 (c.2.map z08))]⟩) fun _ _=>z8c.eq_2 ..
abbrev zix {n}:=jt (z27 n) (fun b=>⟨[(9,.bool (b))],[]⟩) fun _=>z27.eq_1 ..
abbrev ziy {n a0}:=jt (z1r n a0) (fun b=>⟨[(3,aI a0),(4,.bool (b))],[]⟩) fun _=>z1r.eq_1 ..
abbrev ziw {n a1 a0 b c}:=jf (z1i n a1 a0 b c) (fun d=>⟨[(0,aI a0),(1,.sl 1 (a1.map aI)),(5,aI b),(38,.bool (d))],[]⟩) fun _=>z1i.eq_1 ..
abbrev ziv {n a1 a0 b}:=li (z1a n a1 a0 b) (fun c=>⟨[(0,aI a0),(1,.sl 1 (a1.map aI)),(5,aI c)],[]⟩) fun _ _=>z1a.eq_2 ..
abbrev zlv {n}:=jf (z4q n) (fun b=>⟨[(4,.ptr 4 0)],[(4,.box 109 [aI b.1,aI b.2.1,.str (b.2.2)])]⟩) fun _=>z4q.eq_1 ..
abbrev zlu {n}:=jf (z4p n) (fun b=>⟨[(4,.ptr 4 0)],[(4,.box 109 [aI b.1,aI b.2.1,.str (b.2.2)])]⟩) fun _=>z4p.eq_1 ..
abbrev zni {n b a3 a2 a1 a0 d}:=li (z8d n b a3 a2 a1 a0 d) (fun c=>⟨[(2,aI a2),(4,.ptr 4 0),(5,.ptr 5 0),(7,.ptr 7 0),(8,.ptr 8 0),(10,.row 7053),(11,.row 7058),(12,aI c.1)],[(4,.box 111 (z8s a0)),(5,.box 220 (zcv a1)),(7,.box 71 (z16 a3)),(8,.box 109 [aI 0,aI 0,.str (ByteArray.empty)]),(7053,.row 109 3 (c.2.1.map z08)),(7058,.row 3 1 (c.2.2.map aI))]⟩) fun _ _=>z8d.eq_2 ..
abbrev zlw {n}:=jf (z4r n) (fun b=>⟨[(8,.bool (b))],[]⟩) fun _=>z4r.eq_1 ..
attribute [instance] zkx znb zix ziy ziw ziv zlv zlu zni zlw
instance y8p {n a0 a1 a2}:CI E0 (zbq n a0 a1 a2) true 266 [aI a0,.sl 3 (a1.map z08),z08 a2] (fun r=>.tup [z08 r.1,aI r.2]):=by unfold zbq;exact CI.w [] Tryz.func266
instance y1o {n a0 a1}:CI E0 (z6v n a0 a1) false 265 [zct a0,aI a1] (fun r=>.sl 5 (r.map z02)):=⟨fun {r} hF=>by
 unfold z6v at hF
 refine cw Tryz.func265 ?_
 repeat' first
  |refine AW.jI hF (fun v hF=>?_) fun hF=>?_
  |refine AW.regO hF fun hF=>?_
  |refine AW.stepU [1] ?_;conv=>whnf
  |refine z14.o hF (fun hF=>?_) fun hF=>?_
  |refine IdxX.o (fun q=>AV.sl 5 (List.map z02 q)) hF fun x hF=>?_
  |exact ⟨_,hF,LeX.a []⟩
  |exact RetX.oB hF⟩
instance y4v {n a0 a1 a2 a3}:CI E0 (zeq n a0 a1 a2 a3) false 267 [zct a0,aI a1,aI a2,z02 a3] (fun r=>.tup [z02 r.1,.bool (r.2)]):=by unfold zeq;exact CI.w [] Tryz.func267
instance y4t {n a0 a1 a2 a3}:CI E0 (zad n a0 a1 a2 a3) true 248 [z0l a0,zct a1,aI a2,z02 a3] (fun r=>.tup [z08 r.1,aI r.2]):=⟨fun {r} hF=>by
 unfold zad at hF
 refine cw Tryz.func248 ?_
 repeat' first
  |refine AW.step ?_;conv=>whnf
  |refine z14.o hF (fun hF=>?_) fun hF=>?_
  |refine z1n.I hF fun a hF=>?_
  |refine zap.I hF (fun a hF=>?_) rfl rfl fun _=>Or.inr rfl
  |refine IdxX.A hF fun x hF=>?_
  |refine AppX.oA hF fun l hF=>?_
  |exact ⟨_,hF,LeX.a [(7063,63)]⟩
  |refine z8h.I hF ?_ fun m v hF=>?_
  |exact LeX.trans (LeX.adopt 10 7063 109 3 rfl rfl) (LeX.a [])
  |refine AndA ?_
  |exact RetX.oB hF⟩
instance zz9 {n a0}:CI E0 (z9o n a0) true 268 [aI a0] aI:=by unfold z9o;exact CI.w [2,3,4,7,8] Tryz.func268
instance zz8 {n a0 a1}:CI E0 (zbp n a0 a1) true 249 [aI a0,.sl 1 (a1.map aI)] aI:=by unfold zbp;exact CI.w [5] Tryz.func249
instance y4x {n a0}:CI E0 (z1j n a0) true 68 [.bool (a0)] z08:=by unfold z1j;exact CI.w [] Tryz.func68
instance y3h {n a0 a1}:CI E0 (z7w n a0 a1) true 250 [aI a0,.sl 3 (a1.map z08)] z08:=by unfold z7w;exact CI.w [13,15] Tryz.func250
def zs1 (r:z05×Int):AV:=.tup [.agg [aI (r.1.fKind),aI (r.1.fNum),.str (r.1.fText)],aI (r.2)]
theorem zmp {n a0 a1 a2 a3 r}(hF:z4k n a0 a1 a2 a3=some r):Con E0 true 228 [z0l a0,zct a1,aI a2,z02 a3] (.tup [z08 r.1,aI r.2]):=by
 induction n generalizing a0 a1 a2 a3 r
 case zero=>cases hF
 case succ n ih =>
 unfold z4k at hF
 refine cw Tryz.func228 ?_
 repeat' first
  |refine AW.step ?_;conv=>whnf
  |refine z14.o hF (fun hF=>?_) fun hF=>?_
  |refine z1n.I hF fun a hF=>?_
  |refine zap.I hF (fun a hF=>?_) rfl rfl fun _=>Or.inr rfl
  |refine IdxX.oD hF z3v (fun x hF=>?_)
  |refine z1n.o hF zs1 (fun a h=>ih h) (fun a hF=>?_)
  |refine AppX.oA hF fun l hF=>?_
  |exact ⟨_,hF,LeX.a [(7053,53),(7058,58)]⟩
  |refine z8h.I hF ?_ fun m v hF=>?_
  |exact LeX.trans (LeX.adopt 10 7053 109 3 rfl rfl) (LeX.trans (LeX.adopt 11 7058 3 1 rfl rfl) (LeX.a []))
  |refine AndA ?_
  |exact RetX.oB hF
instance y4w {n a0 a1 a2 a3}:CI E0 (z4k n a0 a1 a2 a3) true 228 [z0l a0,zct a1,aI a2,z02 a3] (fun r=>.tup [z08 r.1,aI r.2]):=⟨zmp⟩
instance y4y {n a0 a1 a2 a3}:CI E0 (zer n a0 a1 a2 a3) true 197 [z0l a0,zct a1,aI a2,z02 a3] (fun r=>.tup [z08 r.1,aI r.2]):=by unfold zer;exact CI.w [] Tryz.func197
end
noncomputable section
abbrev zjz {n a1 a0 b c d}:=jf (z3h n a1 a0 b c d) (fun e=>⟨[(2,.ptr 2 0),(3,.ptr 3 0),(5,aI b),(18,.bool (e))],[(2,.box 44 (zef a0)),(3,.box 44 (zef a1))]⟩) fun _=>z3h.eq_1 ..
abbrev zjy {n a1 a0 b}:=li (z2m n a1 a0 b) (fun c=>⟨[(2,.ptr 2 0),(3,.ptr 3 0),(5,aI c)],[(2,.box 44 (zef a0)),(3,.box 44 (zef a1))]⟩) fun _ _=>z2m.eq_2 ..
abbrev zjw {n a1 a0 b c d e}:=jf (z2l n a1 a0 b c d e) (fun f=>⟨[(2,.ptr 2 0),(3,.ptr 3 0),(6,aI b),(7,.ptr 7 0),(8,.ptr 8 0),(71,.bool (f))],[(2,.box 60 (z10 a0)),(3,.box 60 (z10 a1)),(7,.box 102 (zsw d)),(8,.box 102 (zsw e))]⟩) fun _=>z2l.eq_1 ..
abbrev zjx {n a1 a0 b c d}:=jf (z3g n a1 a0 b c d) (fun e=>⟨[(2,.ptr 2 0),(3,.ptr 3 0),(6,aI b),(40,.bool (e))],[(2,.box 60 (z10 a0)),(3,.box 60 (z10 a1))]⟩) fun _=>z3g.eq_1 ..
abbrev zjv {n a1 a0 b}:=li (z2k n a1 a0 b) (fun c=>⟨[(2,.ptr 2 0),(3,.ptr 3 0),(6,aI c)],[(2,.box 60 (z10 a0)),(3,.box 60 (z10 a1))]⟩) fun _ _=>z2k.eq_2 ..
abbrev zon {n a1 a0 b}:=jf (z6o n a1 a0 b) (fun c=>⟨[(0,.sl 3 (a0.map z01)),(3,.ptr 3 0),(5,aI b),(34,.bool (c))],[(3,.box 60 (z10 a1))]⟩) fun _=>z6o.eq_1 ..
abbrev zom {n a1 a0 b c d}:=jf (z6n n a1 a0 b c d) (fun e=>⟨[(0,.sl 3 (a0.map z01)),(3,.ptr 3 0),(5,aI b),(19,.bool (e))],[(3,.box 60 (z10 a1))]⟩) fun _=>z6n.eq_1 ..
abbrev zol {n a1 a0 b}:=li (z4b n a1 a0 b) (fun c=>⟨[(0,.sl 3 (a0.map z01)),(3,.ptr 3 0),(5,aI c)],[(3,.box 60 (z10 a1))]⟩) fun _ _=>z4b.eq_2 ..
abbrev zry {n}:=jf (z6m n) (fun b=>⟨[(2,.bool (b))],[]⟩) fun _=>z6m.eq_1 ..
abbrev zrx {n}:=jf (z4l n) (fun b=>⟨[(4,.bool (b))],[]⟩) fun _=>z4l.eq_1 ..
attribute [instance] zjz zjy zjw zjx zjv zon zom zol zry zrx
instance y3i {n a0 a1 a2 a3}:CI E0 (z2z n a0 a1 a2 a3) true 170 [z0l a0,zct a1,aI a2,z02 a3] (fun r=>.bool (r)):=by unfold z2z;exact CI.w [2] Tryz.func170
instance y3p {n a0 a1}:CI E0 (z9s n a0 a1) true 90 [z1c a0,z1c a1] aI:=by unfold z9s;exact CI.w [] Tryz.func90
instance y3c {n a0 a1}:CI E0 (zbh n a0 a1) true 55 [z0b a0,z0b a1] aI:=by unfold zbh;exact CI.w [] Tryz.func55
instance zzz {n a0 a1}:CI E0 (z5s n a0 a1) true 21 [z0d a0,z0d a1] aI:=by unfold z5s;exact CI.w [2] Tryz.func21
instance zzy {n a0 a1}:CI E0 (z5o n a0 a1) true 29 [z01 a0,z01 a1] aI:=by unfold z5o;exact CI.w [9,12] Tryz.func29
instance y7e {n a0 a1}:CI E0 (z9e n a0 a1) false 103 [.sl 3 (a0.map z01),z01 a1] (fun r=>.sl 3 (r.map z01)):=⟨fun {r} hF=>by
 unfold z9e at hF
 refine cw Tryz.func103 ?_
 repeat' first
  |refine AW.jI hF (fun v hF=>?_) fun hF=>?_
  |refine AW.regO hF fun hF=>?_
  |refine AW.stepU [2,4] ?_;conv=>whnf
  |refine z14.o hF (fun hF=>?_) fun hF=>?_
  |refine SlsX.o z01 hF (fun l hF=>?_)
  |refine AppX.oA0 hF fun l hF=>?_
  |refine AppX.oA hF fun l hF=>?_
  |refine IdxX.A hF fun x hF=>?_
  |refine z1n.I hF fun a hF=>?_
  |exact ⟨_,hF,LeX.a []⟩
  |refine z8h.I hF (LeX.a []) fun m v hF=>?_
  |refine AndA ?_
  |exact RetX.oB hF⟩
instance yay {n a0}:CI E0 (zcr n a0) true 280 [aI a0] (fun r=>.bool (r)):=by unfold zcr;exact CI.w [1] Tryz.func280
instance yax {n a0 a1}:CI E0 (zcq n a0 a1) true 287 [aI a0,z08 a1] (fun r=>.bool (r)):=by unfold zcq;exact CI.w [1] Tryz.func287
instance yaw {n a0 a1}:CI E0 (zbb n a0 a1) true 281 [aI a0,z08 a1] aI:=by unfold zbb;exact CI.w [] Tryz.func281
instance y8y {n a0 a1}:CI E0 (zfv n a0 a1) true 285 [aI a0,z08 a1] z08:=by unfold zfv;exact CI.w [] Tryz.func285
instance y41 {n}:CI E0 (zed n) true 290 [] z08:=by unfold zed;exact CI.w [] Tryz.func290
def zqw (m0:z05)(m1:z05):List (Nat×Ent):=[(100000,.box 109 (z26 m0)),(100001,.box 109 (z26 m1))]
def zdt (r:z05×z05×z05):List (Nat×Ent):=[(2,.box 109 (z26 r.1)),(100000,.box 109 (z26 r.2.1)),(100001,.box 109 (z26 r.2.2))]
def zg5 (r:z05×z05×z05):AV:=.agg [aI (r.1.fKind),aI (r.1.fNum),.str (r.1.fText)]
def zqk (r:z05×z05×z05):AS:=⟨[(2,.ptr 2 0),(0,.ptr 100000 0),(1,.ptr 100001 0)],zdt r⟩
end
noncomputable section
abbrev zqc {n c a1 d}:=li (za1 n c a1 d) (fun b=>⟨[(2,.fn 283 [.ref [aI c]]),(3,.ptr 3 0),(6,.ptr 6 0),(9,.sl 3 (a1.map z08)),(10,aI (((a1.map z08).length:Int))),(11,aI b.1)],[(3,.box 313 [aI b.2.1,aI b.2.2.1,aI b.2.2.2.1,aI b.2.2.2.2.1,.str (b.2.2.2.2.2)]),(6,.box 313 [aI 0,aI 0,aI 0,aI 0,.str (ByteArray.empty)])]⟩) fun _ _=>za1.eq_2 ..
abbrev zrz {n a0}:=jf (z8p n a0) (fun b=>⟨[(1,.ptr 1 0),(10,.bool (b))],[(1,.box 313 (zex a0))]⟩) fun _=>z8p.eq_1 ..
abbrev zqd {n a1 a0}:=jf (z85 n a1 a0) (fun b=>⟨[(2,.ptr 2 0),(3,.ptr 3 0),(4,.ptr 4 0),(29,.bool (b))],[(2,.box 313 (zex a0)),(3,.box 109 (z26 a1)),(4,.box 109 [aI 0,aI 0,.str (ByteArray.empty)])]⟩) fun _=>z85.eq_1 ..
abbrev zuy {n a2 a1 a0 b}:=li (zcs n a2 a1 a0 b) (fun c=>⟨[(1,.sl 3 (a1.map z08)),(3,.ptr 3 0),(5,.ptr 5 0),(6,.ptr 6 0),(22,.sl 3 (a1.map z08)),(23,aI (((a1.map z08).length:Int))),(24,aI c)],[(3,.box 3 [aI a0]),(5,.box 109 (z26 a2)),(6,.box 109 [aI 0,aI 0,.str (ByteArray.empty)])]⟩) fun _ _=>zcs.eq_2 ..
attribute [instance] zqc zrz zqd zuy
theorem zo6 {n m0 m1 r}(hF:zec n m0 m1=some r):ConG E0.P none (CalF E0.P 291 0) [.ptr 100000 0,.ptr 100001 0] [] (zqw m0 m1) (zg5 r) (zdt r):=by
 unfold zec at hF
 refine ConG.walk (E:=(E0p 2)) (caps:=[]) _ Tryz.func291 rfl rfl rfl rfl rfl ?_
 repeat' first
  |refine AW.step ?_;conv=>whnf
  |exact GX.A (res:=zg5) (meF:=zdt) hF zqk
def zqv (m0:z05)(m1:z05):List (Nat×Ent):=[(100000,.box 109 (z26 m0)),(100001,.box 109 (z26 m1))]
def zds (r:z05×z05×z05):List (Nat×Ent):=[(2,.box 109 (z26 r.1)),(100000,.box 109 (z26 r.2.1)),(100001,.box 109 (z26 r.2.2))]
def zg4 (r:z05×z05×z05):AV:=.agg [aI (r.1.fKind),aI (r.1.fNum),.str (r.1.fText)]
def zqj (r:z05×z05×z05):AS:=⟨[(2,.ptr 2 0),(0,.ptr 100000 0),(1,.ptr 100001 0)],zds r⟩
theorem zo5 {n m0 m1 r}(hF:zeb n m0 m1=some r):ConG E0.P none (CalF E0.P 292 0) [.ptr 100000 0,.ptr 100001 0] [] (zqv m0 m1) (zg4 r) (zds r):=by
 unfold zeb at hF
 refine ConG.walk (E:=(E0p 2)) (caps:=[]) _ Tryz.func292 rfl rfl rfl rfl rfl ?_
 repeat' first
  |refine AW.step ?_;conv=>whnf
  |exact GX.A (res:=zg4) (meF:=zds) hF zqj
def zqu (m0:z05)(m1:z05):List (Nat×Ent):=[(100000,.box 109 (z26 m0)),(100001,.box 109 (z26 m1))]
def zdr (r:z05×z05×z05):List (Nat×Ent):=[(2,.box 109 (z26 r.1)),(100000,.box 109 (z26 r.2.1)),(100001,.box 109 (z26 r.2.2))]
def zg3 (r:z05×z05×z05):AV:=.agg [aI (r.1.fKind),aI (r.1.fNum),.str (r.1.fText)]
def zqi (r:z05×z05×z05):AS:=⟨[(2,.ptr 2 0),(0,.ptr 100000 0),(1,.ptr 100001 0)],zdr r⟩
theorem zo4 {n m0 m1 r}(hF:zea n m0 m1=some r):ConG E0.P none (CalF E0.P 293 0) [.ptr 100000 0,.ptr 100001 0] [] (zqu m0 m1) (zg3 r) (zdr r):=by
 unfold zea at hF
 refine ConG.walk (E:=(E0p 2)) (caps:=[]) _ Tryz.func293 rfl rfl rfl rfl rfl ?_
 repeat' first
  |refine AW.step ?_;conv=>whnf
  |exact GX.A (res:=zg3) (meF:=zdr) hF zqi
def zqt (m0:z05):List (Nat×Ent):=[(100000,.box 109 (z26 m0))]
def zdq (r:z05×z05):List (Nat×Ent):=[(1,.box 109 (z26 r.1)),(100000,.box 109 (z26 r.2))]
def zg2 (r:z05×z05):AV:=.agg [aI (r.1.fKind),aI (r.1.fNum),.str (r.1.fText)]
def zqh (r:z05×z05):AS:=⟨[(1,.ptr 1 0),(0,.ptr 100000 0)],zdq r⟩
theorem zo3 {n m0 r}(hF:ze9 n m0=some r):ConG E0.P none (CalF E0.P 294 0) [.ptr 100000 0] [] (zqt m0) (zg2 r) (zdq r):=by
 unfold ze9 at hF
 refine ConG.walk (E:=(E0p 1)) (caps:=[]) _ Tryz.func294 rfl rfl rfl rfl rfl ?_
 repeat' first
  |refine AW.step ?_;conv=>whnf
  |exact GX.A (res:=zg2) (meF:=zdq) hF zqh
def zqs (m0:z05):List (Nat×Ent):=[(100000,.box 109 (z26 m0))]
def zdp (r:z05×z05):List (Nat×Ent):=[(1,.box 109 (z26 r.1)),(100000,.box 109 (z26 r.2))]
def zg1 (r:z05×z05):AV:=.agg [aI (r.1.fKind),aI (r.1.fNum),.str (r.1.fText)]
def zqg (r:z05×z05):AS:=⟨[(1,.ptr 1 0),(0,.ptr 100000 0)],zdp r⟩
theorem zo2 {n m0 r}(hF:ze8 n m0=some r):ConG E0.P none (CalF E0.P 295 0) [.ptr 100000 0] [] (zqs m0) (zg1 r) (zdp r):=by
 unfold ze8 at hF
 refine ConG.walk (E:=(E0p 1)) (caps:=[]) _ Tryz.func295 rfl rfl rfl rfl rfl ?_
 repeat' first
  |refine AW.step ?_;conv=>whnf
  |exact GX.A (res:=zg1) (meF:=zdp) hF zqg
instance y83 {n a0 a1 a2}:CI E0 (zdj n a0 a1 a2) true 288 [aI a0,z08 a1,z08 a2] z08:=⟨fun {r} hF=>by
 unfold zdj at hF
 refine cw Tryz.func288 ?_
 repeat' first
  |refine AW.step ?_;conv=>whnf
  |refine NatX.oS hF rfl (fun hF=>?_) (fun hF=>?_)
  |(cases hF;done)
  |refine z1n.I hF fun a hF=>?_
  |refine zap.oM (z75 15 hF) [(100000,4),(100001,5)] [(2,16000000),(100000,4),(100001,5)] _ _ zdt zg5 [] (fun a h=>ConG.up (zo6 h)) (z0y Tryz.func291 rfl rfl) rfl rfl rfl ⟨⟨rfl,rfl⟩,⟨⟨rfl,rfl⟩,trivial⟩⟩ (fun a=>⟨rfl,rfl,rfl,rfl,rfl,rfl,rfl,rfl⟩) (fun a hF=>?_)
  |refine zap.oM (z75 15 hF) [(100000,4),(100001,5)] [(2,16000000),(100000,4),(100001,5)] _ _ zds zg4 [] (fun a h=>ConG.up (zo5 h)) (z0y Tryz.func292 rfl rfl) rfl rfl rfl ⟨⟨rfl,rfl⟩,⟨⟨rfl,rfl⟩,trivial⟩⟩ (fun a=>⟨rfl,rfl,rfl,rfl,rfl,rfl,rfl,rfl⟩) (fun a hF=>?_)
  |refine zap.oM (z75 15 hF) [(100000,4),(100001,5)] [(2,16000000),(100000,4),(100001,5)] _ _ zdr zg3 [] (fun a h=>ConG.up (zo4 h)) (z0y Tryz.func293 rfl rfl) rfl rfl rfl ⟨⟨rfl,rfl⟩,⟨⟨rfl,rfl⟩,trivial⟩⟩ (fun a=>⟨rfl,rfl,rfl,rfl,rfl,rfl,rfl,rfl⟩) (fun a hF=>?_)
  |refine zap.oM (z75 15 hF) [(100000,4)] [(1,16000000),(100000,4)] _ _ zdq zg2 [] (fun a h=>ConG.up (zo3 h)) (z0y Tryz.func294 rfl rfl) rfl rfl rfl ⟨⟨rfl,rfl⟩,trivial⟩ (fun a=>⟨rfl,rfl,rfl,rfl,rfl,rfl,rfl,rfl⟩) (fun a hF=>?_)
  |refine zap.oM (z75 15 hF) [(100000,5)] [(1,16000000),(100000,5)] _ _ zdp zg1 [] (fun a h=>ConG.up (zo2 h)) (z0y Tryz.func295 rfl rfl) rfl rfl rfl ⟨⟨rfl,rfl⟩,trivial⟩ (fun a=>⟨rfl,rfl,rfl,rfl,rfl,rfl,rfl,rfl⟩) (fun a hF=>?_)
  |exact RetX.oB hF⟩
instance y8z {n a0 a1}:CI E0 (zfw n a0 a1) true 284 [z34 a0,z34 a1] z34:=by unfold zfw;exact CI.w [] Tryz.func284
instance ydj {n a0 a1 a2}:CI E0 (zgv n a0 a1 a2) true 283 [z34 a0,z08 a1,.ref [aI a2]] z34:=by unfold zgv;exact CI.w [] Tryz.func283
instance y90 {n a0 a1 b}:CI E0 (ze7 n a0 a1 b) true 282 [z34 a0,.sl 3 (a1.map z08),.fn 283 [.ref [aI b]]] z34:=by unfold ze7;exact CI.w [] Tryz.func282
instance yaz {n a0}:CI E0 (zf7 n a0) true 289 [z34 a0] aI:=by unfold zf7;exact CI.w [3,7,9,11,6] Tryz.func289
instance y91 {n a0 a1}:CI E0 (zbr n a0 a1) true 286 [z34 a0,z08 a1] (fun r=>.tup [z08 r.1,aI r.2]):=by unfold zbr;exact CI.w [9] Tryz.func286
instance yfb {n a0 a1 a2}:CI E0 (zfr n a0 a1 a2) true 276 [aI a0,.sl 3 (a1.map z08),z08 a2] (fun r=>.tup [z08 r.1,aI r.2]):=⟨fun {r} hF=>by
 unfold zfr at hF
 refine cw Tryz.func276 ?_
 repeat' first
  |refine AW.step ?_;conv=>whnf
  |refine z14.o hF (fun hF=>?_) fun hF=>?_
  |refine z1n.I hF fun a hF=>?_
  |refine zap.I hF (fun a hF=>?_) rfl rfl fun _=>Or.inr rfl
  |refine IdxX.A hF fun x hF=>?_
  |exact ⟨_,hF,LeX.a []⟩
  |refine z8h.I hF (LeX.a []) fun m v hF=>?_
  |exact RetX.oB hF⟩
instance yl8 {n a0}:CI E0 (zjn n a0) true 176 [aI a0] (fun r=>.bool (r)):=by unfold zjn;exact CI.w [] Tryz.func176
instance yib {n a0 a1}:CI E0 (z3b n a0 a1) true 135 [aI a0,aI a1] aI:=by unfold z3b;exact CI.w [] Tryz.func135
end
end Go.Proofs.YtidhlpjgifoneaaGreat
