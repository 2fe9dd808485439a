/- What some functions compute, over plain values. -/
import Derived.Test.YtidhlpjgifoneaaGreatK18
set_option linter.unusedVariables false
set_option linter.unusedSimpArgs false
set_option maxRecDepth 100000
set_option maxHeartbeats 8000000
namespace Go.Proofs.YtidhlpjgifoneaaGreat
open Go.RowKit
noncomputable section
abbrev zmb {n b a1 a0 c d e}:=jf (z4z n b a1 a0 c d e) (fun f=>⟨[(1,aI a1),(2,.ptr 2 0),(5,aI c.1),(6,aI c.2),(16,.bool (f))],[(2,.box 111 (z8z a0))]⟩) fun _=>z4z.eq_1 ..
abbrev zma {n b a1 a0 c}:=li (z3f n b a1 a0 c) (fun d=>⟨[(1,aI a1),(2,.ptr 2 0),(5,aI d.1),(6,aI d.2)],[(2,.box 111 (z8z a0))]⟩) fun _ _=>z3f.eq_2 ..
abbrev zm9 {n b a0 c}:=li (z7m n b a0 c) (fun d=>⟨[(1,.ptr 1 0),(3,aI d.1),(4,aI d.2)],[(1,.box 111 (z8z a0))]⟩) fun _ _=>z7m.eq_2 ..
abbrev zm4 {n}:=jt (z1e n) (fun b=>⟨[(12,.bool (b))],[]⟩) fun _=>z1e.eq_1 ..
abbrev zm5 {n a0}:=jt (z1w n a0) (fun b=>⟨[(3,aI a0),(4,.bool (b))],[]⟩) fun _=>z1w.eq_1 ..
abbrev znn {n b}:=jf (z3s n b) (fun c=>⟨[(2,.bool (c)),(3,.bool (b))],[]⟩) fun _=>z3s.eq_1 ..
abbrev zno {n a0}:=jf (z5y n a0) (fun b=>⟨[(0,aI a0),(4,.bool (b))],[]⟩) fun _=>z5y.eq_1 ..
abbrev zmc {n}:=jf (z2d n) (fun b=>⟨[(4,.bool (b))],[]⟩) fun _=>z2d.eq_1 ..
abbrev znq {n}:=jf (z0k n) (fun b=>⟨[(130,.bool (b))],[]⟩) fun _=>z0k.eq_1 ..
abbrev znr {n a0 x2 b}:=jf (z2s n a0 x2 b) (fun c=>⟨[(1,.ptr 1 0),(4,.bool (x2.1)),(5,.bool (x2.2)),(6,.bool (decide (a0.fOp=4))),(7,.bool (b)),(95,.bool (c))],[(1,.box 111 (z8z a0))]⟩) fun _=>z2s.eq_1 ..
abbrev zns {n a0 x2 b}:=jt (z5z n a0 x2 b) (fun _=>⟨[(1,.ptr 1 0),(4,.bool (x2.1)),(5,.bool (x2.2)),(6,.bool (decide (a0.fOp=4))),(7,.bool (b))],[(1,.box 111 (z8z a0))]⟩) fun _=>z5z.eq_1 ..
abbrev znt {n a0 x2}:=jf (z60 n a0 x2) (fun b=>⟨[(1,.ptr 1 0),(4,.bool (x2.1)),(5,.bool (x2.2)),(6,.bool (decide (a0.fOp=4))),(7,.bool (b))],[(1,.box 111 (z8z a0))]⟩) fun _=>z60.eq_1 ..
abbrev znu {n a0 x2}:=jf (z3u n a0 x2) (fun b=>⟨[(1,.ptr 1 0),(4,.bool (x2.1)),(5,.bool (x2.2)),(6,.bool (decide (a0.fOp=4))),(62,.bool (b))],[(1,.box 111 (z8z a0))]⟩) fun _=>z3u.eq_1 ..
abbrev znv {n a0 x2}:=jf (z1c n a0 x2) (fun b=>⟨[(1,.ptr 1 0),(4,.bool (x2.1)),(5,.bool (x2.2)),(48,.bool (b))],[(1,.box 111 (z8z a0))]⟩) fun _=>z1c.eq_1 ..
abbrev zm3 {n b a0 c}:=li (z7l n b a0 c) (fun d=>⟨[(1,.ptr 1 0),(4,aI d)],[(1,.box 111 (z8z a0))]⟩) fun _ _=>z7l.eq_2 ..
attribute [instance] zmb zma zm9 zm4 zm5 znn zno zmc znq znr zns znt znu znv zm3
def zr7 (r:Int):AV:=aI (r)
theorem zlq {n a0 a1 r}(hF:z33 n a0 a1=some r):Con E0 true 95 [z0l a0,aI a1] (aI r):=by
 induction n generalizing a0 a1 r
 case zero=>cases hF
 case succ n ih =>
 unfold z33 at hF
 refine cw Tryz.func95 ?_
 repeat' first
  |refine AW.jI hF (fun v hF=>?_) fun hF=>?_
  |refine AW.regO hF fun hF=>?_
  |refine AW.stepU [3] ?_;conv=>whnf
  |refine z12.o hF (fun hF=>?_) fun hF=>?_
  |refine IdxX.oD hF z42 (fun x hF=>?_)
  |refine z1l.o hF zr7 (fun a h=>ih h) (fun a hF=>?_)
  |exact ⟨_,hF,LeX.a []⟩
  |refine z7z.I hF (LeX.a []) fun m v hF=>?_
  |exact RetX.oB hF
instance y48 {n a0 a1}:CI E0 (z33 n a0 a1) true 95 [z0l a0,aI a1] aI:=⟨zlq⟩
def zr6 (r:Int):AV:=aI (r)
theorem zlp {n a0 r}(hF:z32 n a0=some r):Con E0 true 96 [z0l a0] (aI r):=by
 induction n generalizing a0 r
 case zero=>cases hF
 case succ n ih =>
 unfold z32 at hF
 refine cw Tryz.func96 ?_
 repeat' first
  |refine AW.step ?_;conv=>whnf
  |refine z12.o hF (fun hF=>?_) fun hF=>?_
  |refine IdxX.oD hF z42 (fun x hF=>?_)
  |refine z1l.o hF zr6 (fun a h=>ih h) (fun a hF=>?_)
  |exact ⟨_,hF,LeX.a []⟩
  |refine z7z.I hF (LeX.a []) fun m v hF=>?_
  |exact RetX.oB hF
instance y47 {n a0}:CI E0 (z32 n a0) true 96 [z0l a0] aI:=⟨zlp⟩
instance y43 {n a0}:CI E0 (zbq n a0) true 235 [aI a0] aI:=by unfold zbq;exact CI.w [2,3,4,5,10,11,12,13,14,15] Tryz.func235
instance y5g {n a0}:CI E0 (zc9 n a0) true 234 [aI a0] (fun r=>.tup [.bool (r.1),.bool (r.2)]):=by unfold zc9;exact CI.w [1,2] Tryz.func234
instance y4f {n a0}:CI E0 (z3w n a0) true 236 [z08 a0] aI:=by unfold z3w;exact CI.w [] Tryz.func236
instance y4b {n a0 a1}:CI E0 (z82 n a0 a1) true 237 [aI a0,z08 a1] (fun r=>.bool (r)):=by unfold z82;exact CI.w [1] Tryz.func237
instance y5i {n a0}:CI E0 (zca n a0) true 209 [z0l a0] aI:=⟨fun {r} hF=>by
 unfold zca at hF
 refine cw Tryz.func209 ?_
 repeat' first
  |refine AW.jI hF (fun v hF=>?_) fun hF=>?_
  |refine AW.jI2 hF (fun v hF=>?_) fun hF=>?_
  |refine AW.regO hF fun hF=>?_
  |refine AW.stepU [7,10,12,13,17,19] ?_;conv=>whnf
  |refine z12.o hF (fun hF=>?_) fun hF=>?_
  |refine z12.t ?_
  |refine z12.f ?_
  |refine z1l.I hF fun a hF=>?_
  |exact ⟨_,hF,LeX.a []⟩
  |exact ⟨(),hF,LeX.a []⟩
  |refine EqX.A ?_
  |exact RetX.oB hF⟩
def zr5 (r:Int):AV:=aI (r)
theorem zlo {n a0 r}(hF:z3t n a0=some r):Con E0 true 179 [z0l a0] (aI r):=by
 induction n generalizing a0 r
 case zero=>cases hF
 case succ n ih =>
 unfold z3t at hF
 refine cw Tryz.func179 ?_
 repeat' first
  |refine AW.step ?_;conv=>whnf
  |refine z12.o hF (fun hF=>?_) fun hF=>?_
  |refine z1l.I hF fun a hF=>?_
  |refine IdxX.oD hF z42 (fun x hF=>?_)
  |refine z1l.o hF zr5 (fun a h=>ih h) (fun a hF=>?_)
  |exact ⟨_,hF,LeX.a []⟩
  |refine z7z.I hF (LeX.a []) fun m v hF=>?_
  |exact RetX.oB hF
instance y42 {n a0}:CI E0 (z3t n a0) true 179 [z0l a0] aI:=⟨zlo⟩
end
noncomputable section
abbrev zpb {n}:=jf (z6x n) (fun b=>⟨[(4,.bool (b))],[]⟩) fun _=>z6x.eq_1 ..
abbrev zl6 {n a1 a0 b c}:=li (z6h n a1 a0 b c) (fun d=>⟨[(1,.sl 11 (a1.map z0u)),(2,.ptr 2 0),(5,aI b),(6,aI d)],[(2,.box 25 (z0g a0))]⟩) fun _ _=>z6h.eq_2 ..
abbrev zl8 {n a1 a0 b c}:=jf (z30 n a1 a0 b c) (fun d=>⟨[(1,.sl 11 (a1.map z0u)),(2,.ptr 2 0),(5,aI b),(44,.bool (d))],[(2,.box 25 (z0g a0))]⟩) fun _=>z30.eq_1 ..
abbrev zl7 {n a1 a0 b}:=li (z1p n a1 a0 b) (fun c=>⟨[(1,.sl 11 (a1.map z0u)),(2,.ptr 2 0),(5,aI c)],[(2,.box 25 (z0g a0))]⟩) fun _ _=>z1p.eq_2 ..
abbrev zl4 {n a1 a0 b c}:=li (z6g n a1 a0 b c) (fun d=>⟨[(0,.sl 1 (a0.map aI)),(1,aI a1),(5,aI b),(6,aI d)],[]⟩) fun _ _=>z6g.eq_2 ..
abbrev zl5 {n a1 a0 b}:=li (z48 n a1 a0 b) (fun c=>⟨[(0,.sl 1 (a0.map aI)),(1,aI a1),(5,aI c)],[]⟩) fun _ _=>z48.eq_2 ..
abbrev zlu {n a1 b}:=li (z4v n a1 b) (fun c=>⟨[(3,.ptr 3 0),(10,aI c)],[(3,.box 115 (z2a a1))]⟩) fun _ _=>z4v.eq_2 ..
abbrev zlv {n a1 a0 b c}:=li (z2b n a1 a0 b c) (fun d=>⟨[(2,.ptr 2 0),(3,.ptr 3 0),(7,.sl 1 [.sl 1 (a1.fOpens.map aI),.sl 1 (a1.fCloses.map aI),.sl 1 (a1.fInside.map aI),.sl 1 (b.map aI)]),(8,aI d)],[(2,.box 25 (z0g a0)),(3,.box 115 (z2a a1))]⟩) fun _ _=>z2b.eq_2 ..
abbrev zlw {n a1 a0 b}:=li (z7h n a1 a0 b) (fun c=>⟨[(2,.ptr 2 0),(3,.ptr 3 0),(5,.row 7026),(6,aI c.1)],[(2,.box 25 (z0g a0)),(3,.box 115 (z2a a1)),(7026,.row 3 1 (c.2.map aI))]⟩) fun _ _=>z7h.eq_2 ..
abbrev zng {n a1 a0 b}:=li (z8g n a1 a0 b) (fun c=>⟨[(3,.ptr 3 0),(4,.ptr 4 0),(9,aI c)],[(3,.box 25 (z0g a0)),(4,.box 115 (z2a a1))]⟩) fun _ _=>z8g.eq_2 ..
abbrev znh {n a2 a1 a0}:=jf (z17 n a2 a1 a0) (fun b=>⟨[(2,aI a2),(3,.ptr 3 0),(4,.ptr 4 0),(42,.bool (b))],[(3,.box 25 (z0g a0)),(4,.box 115 (z2a a1))]⟩) fun _=>z17.eq_1 ..
abbrev zlx {n a0 b}:=li (z7i n a0 b) (fun c=>⟨[(1,.ptr 1 0),(5,aI c.1),(6,aI c.2)],[(1,.box 25 (z0g a0))]⟩) fun _ _=>z7i.eq_2 ..
abbrev zly {n a0 b}:=li (z7j n a0 b) (fun c=>⟨[(1,.ptr 1 0),(3,aI c)],[(1,.box 25 (z0g a0))]⟩) fun _ _=>z7j.eq_2 ..
abbrev zlz {n a0}:=jf (z1u n a0) (fun b=>⟨[(1,.ptr 1 0),(31,.bool (b))],[(1,.box 25 (z0g a0))]⟩) fun _=>z1u.eq_1 ..
abbrev zm0 {n a0}:=jf (z2c n a0) (fun b=>⟨[(1,.ptr 1 0),(15,.bool (b))],[(1,.box 25 (z0g a0))]⟩) fun _=>z2c.eq_1 ..
attribute [instance] zpb zl6 zl8 zl7 zl4 zl5 zlu zlv zlw zng znh zlx zly zlz zm0
instance y49 {n a0}:CI E0 (z34 n a0) true 138 [z0l a0] aI:=by unfold z34;exact CI.w [] Tryz.func138
instance y81 {n a0 a1}:CI E0 (z19 n a0 a1) true 97 [aI a0,aI a1] (fun r=>.bool (r)):=by unfold z19;exact CI.w [1] Tryz.func97
instance y2b {n a0 a1}:CI E0 (zb3 n a0 a1) true 98 [z0o a0,.sl 11 (a1.map z0u)] aI:=by unfold zb3;exact CI.w [6] Tryz.func98
instance y2a {n a0 a1}:CI E0 (z95 n a0 a1) true 180 [.sl 1 (a0.map aI),aI a1] aI:=by unfold z95;exact CI.w [] Tryz.func180
instance y3x {n a0 a1}:CI E0 (z9u n a0 a1) true 139 [z0o a0,z0w a1] aI:=⟨fun {r} hF=>by
 unfold z9u at hF
 refine cw Tryz.func139 ?_
 repeat' first
  |refine AW.regO hF fun hF=>?_
  |refine AW.frzO hF 7026 rfl (fun hF=>?_)
  |refine AW.stepU [6] ?_;conv=>whnf
  |refine z12.o hF (fun hF=>?_) fun hF=>?_
  |refine IdxX.A hF fun x hF=>?_
  |refine z1l.I hF fun a hF=>?_
  |exact ⟨_,hF,LeX.a []⟩
  |refine z7z.I hF ?_ fun m v hF=>?_
  |exact LeX.a []
  |refine IdxX.o (fun q=>AV.sl 1 (List.map aI q)) hF fun x hF=>?_
  |refine AppX.oA hF fun l hF=>?_
  |exact ⟨_,hF,LeX.a [(7026,26)]⟩
  |exact LeX.trans (LeX.adopt 5 7026 3 1 rfl rfl) (LeX.a [])
  |refine AndA ?_
  |exact RetX.oB hF⟩
instance y5e {n a0 a1 a2}:CI E0 (zc7 n a0 a1 a2) true 99 [z0o a0,z0w a1,aI a2] aI:=⟨fun {r} hF=>by
 unfold zc7 at hF
 refine cw Tryz.func99 ?_
 repeat' first
  |refine AW.jI hF (fun v hF=>?_) fun hF=>?_
  |refine AW.regO hF fun hF=>?_
  |refine AW.stepU [2] ?_;conv=>whnf
  |refine z12.o hF (fun hF=>?_) fun hF=>?_
  |refine z12.t ?_
  |refine z12.f ?_
  |refine z1l.I hF fun a hF=>?_
  |refine IdxX.oD hF z42 (fun x hF=>?_)
  |exact ⟨_,hF,LeX.a []⟩
  |refine z7z.I hF (LeX.a []) fun m v hF=>?_
  |exact RetX.oB hF⟩
end
noncomputable section
abbrev y0n {n b a0 d}:=li (zfw n b a0 d) (fun c=>⟨[(4,aI c.1),(5,aI c.2.1),(11,.sl 8 (a0.fArgs.map idA)),(12,aI (((a0.fArgs.map idA).length:Int))),(13,aI c.2.2)],[]⟩) fun _ _=>zfw.eq_2 ..
abbrev zz4 {n a0}:=jf (zdq n a0) (fun b=>⟨[(0,aI a0),(4,.bool (b))],[]⟩) fun _=>zdq.eq_1 ..
abbrev y0g {n}:=jt (zep n) (fun b=>⟨[(8,.bool (b))],[]⟩) fun _=>zep.eq_1 ..
abbrev y0h {n a0}:=jt (zeq n a0) (fun b=>⟨[(4,aI a0),(5,.bool (b))],[]⟩) fun _=>zeq.eq_1 ..
abbrev zz3 {n}:=jf (zbu n) (fun b=>⟨[(4,.bool (b))],[]⟩) fun _=>zbu.eq_1 ..
abbrev ztc {n}:=jf (z6b n) (fun b=>⟨[(31,.bool (b))],[]⟩) fun _=>z6b.eq_1 ..
abbrev y0i {n}:=jf (z13 n) (fun b=>⟨[(113,.bool (b))],[]⟩) fun _=>z13.eq_1 ..
abbrev y0j {n a0 x2 b}:=jt (zer n a0 x2 b) (fun _=>⟨[(1,.ptr 1 0),(5,.bool (x2.1)),(6,.bool (x2.2)),(7,.bool (decide (a0.fOp=4))),(8,.bool (b))],[(1,.box 111 (z8z a0))]⟩) fun _=>zer.eq_1 ..
abbrev y0k {n a0 x2}:=jf (zes n a0 x2) (fun b=>⟨[(1,.ptr 1 0),(5,.bool (x2.1)),(6,.bool (x2.2)),(7,.bool (decide (a0.fOp=4))),(8,.bool (b))],[(1,.box 111 (z8z a0))]⟩) fun _=>zes.eq_1 ..
abbrev y0l {n a0 x2}:=jf (zcp n a0 x2) (fun b=>⟨[(1,.ptr 1 0),(5,.bool (x2.1)),(6,.bool (x2.2)),(7,.bool (decide (a0.fOp=4))),(66,.bool (b))],[(1,.box 111 (z8z a0))]⟩) fun _=>zcp.eq_1 ..
abbrev y0m {n a0 x2}:=jf (z6o n a0 x2) (fun b=>⟨[(1,.ptr 1 0),(5,.bool (x2.1)),(6,.bool (x2.2)),(52,.bool (b))],[(1,.box 111 (z8z a0))]⟩) fun _=>z6o.eq_1 ..
abbrev zz1 {n b a0 c}:=li (zfc n b a0 c) (fun d=>⟨[(1,.fn 183 []),(16,.sl 8 (a0.fArgs.map idA)),(17,aI (((a0.fArgs.map idA).length:Int))),(18,aI d)],[]⟩) fun _ _=>zfc.eq_2 ..
abbrev zqp {n}:=jf (z87 n) (fun b=>⟨[(4,.bool (b))],[]⟩) fun _=>z87.eq_1 ..
attribute [instance] y0n zz4 y0g y0h zz3 ztc y0i y0j y0k y0l y0m zz1 zqp
instance y3y {n a0}:CI E0 (z5c n a0) true 63 [z0o a0] aI:=by unfold z5c;exact CI.w [1,3] Tryz.func63
def yc1 (r:Int×Int):AV:=.tup [aI (r.1),aI (r.2)]
theorem zzg {n a0 r}(hF:zfo n a0=some r):Con E0 true 182 [z0l a0] (.tup [aI r.1,aI r.2]):=by
 induction n generalizing a0 r
 case zero=>cases hF
 case succ n ih =>
 unfold zfo at hF
 refine cw Tryz.func182 ?_
 repeat' first
  |refine AW.step ?_;conv=>whnf
  |refine z12.o hF (fun hF=>?_) fun hF=>?_
  |refine IdxX.oD hF z42 (fun x hF=>?_)
  |refine z1l.o hF yc1 (fun a h=>ih h) (fun a hF=>?_)
  |exact ⟨_,hF,LeX.a []⟩
  |refine z7z.I hF (LeX.a []) fun m v hF=>?_
  |exact RetX.oB hF
instance ylw {n a0}:CI E0 (zfo n a0) true 182 [z0l a0] (fun r=>.tup [aI r.1,aI r.2]):=⟨zzg⟩
instance yk4 {n a0}:CI E0 (zin n a0) true 210 [aI a0] (fun r=>.tup [aI r.1,.bool (r.2)]):=by unfold zin;exact CI.w [1] Tryz.func210
instance ylt {n a0}:CI E0 (zi7 n a0) true 153 [aI a0] (fun r=>.tup [.bool (r.1),.bool (r.2)]):=by unfold zi7;exact CI.w [2,5] Tryz.func153
instance yju {n a0}:CI E0 (zgf n a0) true 252 [z08 a0] aI:=by unfold zgf;exact CI.w [] Tryz.func252
instance yix {n a0}:CI E0 (zci n a0) true 238 [z08 a0] aI:=by unfold zci;exact CI.w [] Tryz.func238
instance yk2 {n a0 a1}:CI E0 (zim n a0 a1) true 239 [aI a0,z08 a1] (fun r=>.bool (r)):=by unfold zim;exact CI.w [1] Tryz.func239
instance ye7 {n a0}:CI E0 (zfq n a0) true 211 [z0l a0] aI:=by unfold zfq;exact CI.w [4] Tryz.func211
instance ylu {n a0}:CI E0 (zjv n a0) true 183 [z0l a0] aI:=⟨fun {r} hF=>by
 unfold zjv at hF
 refine cw Tryz.func183 ?_
 repeat' first
  |refine AW.jI hF (fun v hF=>?_) fun hF=>?_
  |refine AW.jI2 hF (fun v hF=>?_) fun hF=>?_
  |refine AW.regO hF fun hF=>?_
  |refine AW.stepU [7,10,12,13,17] ?_;conv=>whnf
  |refine z12.o hF (fun hF=>?_) fun hF=>?_
  |refine z12.t ?_
  |refine z12.f ?_
  |refine z1l.I hF fun a hF=>?_
  |exact ⟨_,hF,LeX.a []⟩
  |exact ⟨(),hF,LeX.a []⟩
  |refine EqX.A ?_
  |exact RetX.oB hF⟩
def y95 (r:Int):AV:=aI (r)
theorem zwp {n a0 r}(hF:ze9 n a0=some r):Con E0 true 151 [z0l a0,.fn 183 []] (aI r):=by
 induction n generalizing a0 r
 case zero=>cases hF
 case succ n ih =>
 unfold ze9 at hF
 refine cw Tryz.func151 ?_
 repeat' first
  |refine AW.step ?_;conv=>whnf
  |refine z12.o hF (fun hF=>?_) fun hF=>?_
  |refine z1l.I hF fun a hF=>?_
  |refine IdxX.oD hF z42 (fun x hF=>?_)
  |refine z1l.o hF y95 (fun a h=>ih h) (fun a hF=>?_)
  |exact ⟨_,hF,LeX.a []⟩
  |refine z7z.I hF (LeX.a []) fun m v hF=>?_
  |exact RetX.oB hF
instance yk1 {n a0}:CI E0 (ze9 n a0) true 151 [z0l a0,.fn 183 []] aI:=⟨zwp⟩
instance yk5 {n a0}:CI E0 (zeb n a0) true 143 [z0l a0] aI:=by unfold zeb;exact CI.w [] Tryz.func143
instance y9e {n a0 a1}:CI E0 (z40 n a0 a1) true 140 [aI a0,aI a1] (fun r=>.bool (r)):=by unfold z40;exact CI.w [1] Tryz.func140
end
noncomputable section
abbrev zq8 {n b a0 c}:=li (za1 n b a0 c) (fun d=>⟨[(0,.sl 11 (a0.map z0u)),(1,.fn 142 [.ref (zjo b)]),(7,aI (((a0.map z0u).length:Int))),(8,aI d)],[]⟩) fun _ _=>za1.eq_2 ..
abbrev zqt {n a1 a0 b c d}:=jf (z5f n a1 a0 b c d) (fun e=>⟨[(1,.sl 11 (a1.map z0u)),(2,.ptr 2 0),(5,aI b),(6,.ptr 6 0),(11,.sl 11 (a1.map z0u)),(12,aI (((a1.map z0u).length:Int))),(13,aI b),(18,.bool (e))],[(2,.box 25 (z0g a0)),(6,.box 154 (zjo d))]⟩) fun _=>z5f.eq_1 ..
abbrev zqs {n a1 a0 b}:=li (z35 n a1 a0 b) (fun c=>⟨[(1,.sl 11 (a1.map z0u)),(2,.ptr 2 0),(11,.sl 11 (a1.map z0u)),(12,aI (((a1.map z0u).length:Int))),(13,aI c)],[(2,.box 25 (z0g a0))]⟩) fun _ _=>z35.eq_2 ..
abbrev zq0 {n a0 b}:=li (z9e n a0 b) (fun c=>⟨[(3,.row 7016),(6,.sl 2 (a0.map z27)),(7,aI (((a0.map z27).length:Int))),(8,aI c.1)],[(7016,.row 3 1 (c.2.map aI))]⟩) fun _ _=>z9e.eq_2 ..
abbrev zuu {n a1 a0 b}:=li (zcs n a1 a0 b) (fun c=>⟨[(0,.sl 1 (a0.map aI)),(1,aI a1),(7,aI (((a0.map aI).length:Int))),(8,aI c)],[]⟩) fun _ _=>zcs.eq_2 ..
abbrev zqq {n a1 a0 c b d}:=li (z41 n a1 a0 c b d) (fun e=>⟨[(2,.ptr 2 0),(6,.sl 1 (b.map aI)),(9,.sl 1 (List.map (fun q=>AV.sl 1 (List.map aI q)) (a1))),(10,aI ((((List.map (fun q=>AV.sl 1 (List.map aI q)) (a1)).length:Nat):Int))),(11,aI c),(15,.sl 1 (b.map aI)),(16,aI (((b.map aI).length:Int))),(17,aI e)],[(2,.box 25 (z0g a0))]⟩) fun _ _=>z41.eq_2 ..
abbrev zqr {n a1 a0 b}:=li (z5e n a1 a0 b) (fun c=>⟨[(2,.ptr 2 0),(9,.sl 1 (List.map (fun q=>AV.sl 1 (List.map aI q)) (a1))),(10,aI ((((List.map (fun q=>AV.sl 1 (List.map aI q)) (a1)).length:Nat):Int))),(11,aI c)],[(2,.box 25 (z0g a0))]⟩) fun _ _=>z5e.eq_2 ..
abbrev zqu {n}:=jf (z88 n) (fun b=>⟨[(2,.bool (b))],[]⟩) fun _=>z88.eq_1 ..
abbrev zld {n a0 b}:=li (z6k n a0 b) (fun c=>⟨[(0,.sl 2 (a0.map z27)),(1,.fn 147 []),(7,aI (((a0.map z27).length:Int))),(8,aI c)],[]⟩) fun _ _=>z6k.eq_2 ..
attribute [instance] zq8 zqt zqs zq0 zuu zqq zqr zqu zld
instance y5u {n a0 a1}:CI E0 (zat n a0 a1) true 142 [z0u a0,.ref (zjo a1)] (fun r=>.bool (r)):=by unfold zat;exact CI.w [] Tryz.func142
instance y9a {n a0 b}:CI E0 (ze5 n a0 b) true 181 [.sl 11 (a0.map z0u),.fn 142 [.ref (zjo b)]] aI:=by unfold ze5;exact CI.w [] Tryz.func181
instance y4h {n a0 b}:CI E0 (za3 n a0 b) true 141 [.sl 11 (a0.map z0u),.fn 142 [.ref (zjo b)]] (fun r=>.bool (r)):=by unfold za3;exact CI.w [] Tryz.func141
instance y9g {n a0 a1}:CI E0 (zed n a0 a1) true 104 [z0o a0,.sl 11 (a1.map z0u)] aI:=⟨fun {r} hF=>by
 unfold zed at hF
 refine cw Tryz.func104 ?_
 repeat' first
  |refine AW.jI hF (fun v hF=>?_) fun hF=>?_
  |refine AW.regO hF fun hF=>?_
  |refine AW.stepU [6] ?_;conv=>whnf
  |refine z12.o hF (fun hF=>?_) fun hF=>?_
  |refine z12.t ?_
  |refine IdxX.A hF fun x hF=>?_
  |refine SlsX.o z0u hF (fun l hF=>?_)
  |refine zak.I hF (fun a hF=>?_) rfl rfl fun _=>Or.inr rfl
  |refine z1l.I hF fun a hF=>?_
  |exact ⟨_,hF,LeX.a []⟩
  |refine z7z.I hF (LeX.a []) fun m v hF=>?_
  |exact RetX.oB hF⟩
instance y8n {n a0}:CI E0 (zbe n a0) false 145 [.sl 2 (a0.map z27)] (fun r=>.sl 1 (r.map aI)):=⟨fun {r} hF=>by
 unfold zbe at hF
 refine cw Tryz.func145 ?_
 repeat' first
  |refine AW.step ?_;conv=>whnf
  |refine z12.o hF (fun hF=>?_) fun hF=>?_
  |refine IdxX.A hF fun x hF=>?_
  |refine AppX.oA hF fun l hF=>?_
  |exact ⟨_,hF,LeX.a [(7016,16)]⟩
  |refine z7z.I hF ?_ fun m v hF=>?_
  |exact LeX.trans (LeX.adopt 3 7016 3 1 rfl rfl) (LeX.a [])
  |exact RetX.oB hF⟩
instance yfv {n a0 a1}:CI E0 (zi9 n a0 a1) true 212 [.sl 1 (a0.map aI),aI a1] aI:=by unfold zi9;exact CI.w [] Tryz.func212
instance yb4 {n a0 a1}:CI E0 (z8k n a0 a1) true 184 [.sl 1 (a0.map aI),aI a1] (fun r=>.bool (r)):=by unfold z8k;exact CI.w [] Tryz.func184
instance y9f {n a0 a1}:CI E0 (zec n a0 a1) true 144 [z0o a0,.sl 1 (List.map (fun q=>AV.sl 1 (List.map aI q)) (a1))] aI:=⟨fun {r} hF=>by
 unfold zec at hF
 refine cw Tryz.func144 ?_
 repeat' first
  |refine AW.step ?_;conv=>whnf
  |refine z12.o hF (fun hF=>?_) fun hF=>?_
  |refine IdxX.o (fun q=>AV.sl 1 (List.map aI q)) hF fun x hF=>?_
  |exact ⟨_,hF,LeX.a []⟩
  |refine IdxX.A hF fun x hF=>?_
  |refine z1l.I hF fun a hF=>?_
  |refine SlsX.o aI hF (fun l hF=>?_)
  |refine z7z.I hF (LeX.a []) fun m v hF=>?_
  |exact RetX.oB hF⟩
instance y9h {n a0}:CI E0 (zaj n a0) true 147 [z27 a0] (fun r=>.bool (r)):=by unfold zaj;exact CI.w [1] Tryz.func147
instance y2i {n a0}:CI E0 (zb7 n a0) true 185 [.sl 2 (a0.map z27),.fn 147 []] aI:=by unfold zb7;exact CI.w [] Tryz.func185
instance zzc {n a0}:CI E0 (z6l n a0) true 146 [.sl 2 (a0.map z27),.fn 147 []] (fun r=>.bool (r)):=by unfold z6l;exact CI.w [] Tryz.func146
end
noncomputable section
abbrev zti {n a1 a0 b}:=li (zbf n a1 a0 b) (fun c=>⟨[(3,.ptr 3 0),(4,.ptr 4 0),(63,.sl 8 (a1.fChecks.map idA)),(64,aI (((a1.fChecks.map idA).length:Int))),(65,aI c)],[(3,.box 25 (z0g a0)),(4,.box 115 (z2a a1))]⟩) fun _ _=>zbf.eq_2 ..
abbrev ztj {n a2 a1 a0}:=jf (z21 n a2 a1 a0) (fun b=>⟨[(2,aI a2),(3,.ptr 3 0),(4,.ptr 4 0),(12,.bool (b))],[(3,.box 25 (z0g a0)),(4,.box 115 (z2a a1))]⟩) fun _=>z21.eq_1 ..
abbrev zse {n a0 b}:=li (zau n a0 b) (fun c=>⟨[(1,.ptr 1 0),(6,aI c.1),(62,.sl 17 (a0.fEdges.map z0w)),(63,aI (((a0.fEdges.map z0w).length:Int))),(64,aI c.2)],[(1,.box 25 (z0g a0))]⟩) fun _ _=>zau.eq_2 ..
abbrev zsf {n a0 b}:=li (zav n a0 b) (fun c=>⟨[(1,.ptr 1 0),(47,.sl 1 (a0.fStates.map z0q)),(48,aI (((a0.fStates.map z0q).length:Int))),(49,aI c)],[(1,.box 25 (z0g a0))]⟩) fun _ _=>zav.eq_2 ..
abbrev zsg {n a0}:=jf (z3h n a0) (fun b=>⟨[(1,.ptr 1 0),(29,.bool (b))],[(1,.box 25 (z0g a0))]⟩) fun _=>z3h.eq_1 ..
abbrev zsh {n a0}:=jf (z2r n a0) (fun b=>⟨[(1,.ptr 1 0),(10,.bool (b))],[(1,.box 25 (z0g a0))]⟩) fun _=>z2r.eq_1 ..
abbrev znx {n}:=jf (z3v n) (fun b=>⟨[(2,.bool (b))],[]⟩) fun _=>z3v.eq_1 ..
abbrev zme {n}:=jf (z2e n) (fun b=>⟨[(58,.bool (b))],[]⟩) fun _=>z2e.eq_1 ..
abbrev zmd {n}:=jf (z51 n) (fun b=>⟨[(70,.bool (b))],[]⟩) fun _=>z51.eq_1 ..
abbrev zmf {n a0}:=jf (z52 n a0) (fun b=>⟨[(1,.ptr 1 0),(23,.bool (b))],[(1,.box 313 (zf2 a0))]⟩) fun _=>z52.eq_1 ..
abbrev zmg {n a0}:=jf (z54 n a0) (fun b=>⟨[(1,.ptr 1 0),(15,.bool (b))],[(1,.box 313 (zf2 a0))]⟩) fun _=>z54.eq_1 ..
abbrev zpl {n a0}:=jt (z4n n a0) (fun b=>⟨[(4,.ptr 4 0),(8,.ptr 8 0)],[(4,.box 313 [aI 0,aI 0,aI 0,aI 0,.str (ByteArray.empty)]),(8,.box 313 [aI a0.fKind,aI ((IntKind.wrap .i64 (a0.fCount+1))),aI b.1,aI b.2.1,.str (b.2.2)])]⟩) fun _=>z4n.eq_1 ..
abbrev zla {n a1 a0}:=jf (z4a n a1 a0) (fun b=>⟨[(2,.ptr 2 0),(3,.ptr 3 0),(4,.ptr 4 0),(35,.bool (b))],[(2,.box 313 (zf2 a0)),(3,.box 109 (z28 a1)),(4,.box 109 [aI 0,aI 0,.str (ByteArray.empty)])]⟩) fun _=>z4a.eq_1 ..
abbrev zq6 {n a2 a1 c}:=li (z9x n a2 a1 c) (fun b=>⟨[(1,.sl 3 (a1.map z08)),(5,.ptr 5 0),(6,.ptr 6 0),(8,.ptr 8 0),(9,aI b.1)],[(5,.box 109 (z28 a2)),(6,.box 109 [aI 0,aI 0,.str (ByteArray.empty)]),(8,.box 313 [aI b.2.1,aI b.2.2.1,aI b.2.2.2.1,aI b.2.2.2.2.1,.str (b.2.2.2.2.2)])]⟩) fun _ _=>z9x.eq_2 ..
attribute [instance] zti ztj zse zsf zsg zsh znx zme zmd zmf zmg zpl zla zq6
instance ye9 {n a0 a1 a2}:CI E0 (zfr n a0 a1 a2) true 105 [z0o a0,z0w a1,aI a2] aI:=⟨fun {r} hF=>by
 unfold zfr at hF
 refine cw Tryz.func105 ?_
 repeat' first
  |refine AW.jI hF (fun v hF=>?_) fun hF=>?_
  |refine AW.regO hF fun hF=>?_
  |refine AW.stepU [1] ?_;conv=>whnf
  |refine z12.o hF (fun hF=>?_) fun hF=>?_
  |refine z12.t ?_
  |refine z1l.I hF fun a hF=>?_
  |refine IdxX.oD hF z42 (fun x hF=>?_)
  |exact ⟨_,hF,LeX.a []⟩
  |refine z7z.I hF (LeX.a []) fun m v hF=>?_
  |refine AndA ?_
  |exact RetX.oB hF⟩
instance ybh {n a0}:CI E0 (zbg n a0) true 69 [z0o a0] aI:=by unfold zbg;exact CI.w [1,3] Tryz.func69
instance y5n {n a0}:CI E0 (zam n a0) true 273 [aI a0] (fun r=>.bool (r)):=by unfold zam;exact CI.w [1] Tryz.func273
instance y4c {n a0}:CI E0 (z9y n a0) true 277 [z36 a0] aI:=by unfold z9y;exact CI.w [3,5,11,14] Tryz.func277
instance y4a {n a0 a1}:CI E0 (z9w n a0 a1) true 278 [aI a0,z08 a1] aI:=by unfold z9w;exact CI.w [] Tryz.func278
instance y0r {n a0 a1 a2}:CI E0 (zad n a0 a1 a2) true 279 [aI a0,z08 a1,z08 a2] z08:=by unfold zad;exact CI.w [] Tryz.func279
instance y86 {n a0 a1}:CI E0 (zdb n a0 a1) true 274 [z36 a0,z08 a1] (fun r=>.tup [z36 r.1,aI r.2]):=by unfold zdb;exact CI.w [10,12] Tryz.func274
instance y2e {n a0 a1}:CI E0 (z98 n a0 a1) true 275 [z36 a0,z08 a1] (fun r=>.tup [z08 r.1,aI r.2]):=by unfold z98;exact CI.w [9] Tryz.func275
end
noncomputable section
abbrev zl9 {n a1 a0}:=jf (z49 n a1 a0) (fun b=>⟨[(1,aI a1),(2,.ptr 2 0),(13,.bool (b))],[(2,.box 220 (zd4 a0))]⟩) fun _=>z49.eq_1 ..
abbrev znp {n a0 x2 b}:=li (z8h n a0 x2 b) (fun c=>⟨[(4,.ptr 4 0),(8,.ptr 8 0),(10,.row 7063),(11,.sl 5 (x2.map z02)),(12,aI c.1)],[(4,.box 111 (z8z a0)),(8,.box 109 [aI 0,aI 0,.str (ByteArray.empty)]),(7063,.row 109 3 (c.2.map z08))]⟩) fun _ _=>z8h.eq_2 ..
abbrev zj9 {n}:=jt (z29 n) (fun b=>⟨[(9,.bool (b))],[]⟩) fun _=>z29.eq_1 ..
abbrev zja {n a0}:=jt (z1s n a0) (fun b=>⟨[(3,aI a0),(4,.bool (b))],[]⟩) fun _=>z1s.eq_1 ..
abbrev zj8 {n a1 a0 b c}:=jf (z1h n a1 a0 b c) (fun d=>⟨[(0,aI a0),(1,.sl 1 (a1.map aI)),(5,aI b),(38,.bool (d))],[]⟩) fun _=>z1h.eq_1 ..
abbrev zj7 {n a1 a0 b}:=li (z1a n a1 a0 b) (fun c=>⟨[(0,aI a0),(1,.sl 1 (a1.map aI)),(5,aI c)],[]⟩) fun _ _=>z1a.eq_2 ..
abbrev zm7 {n}:=jf (z4x n) (fun b=>⟨[(4,.ptr 4 0)],[(4,.box 109 [aI b.1,aI b.2.1,.str (b.2.2)])]⟩) fun _=>z4x.eq_1 ..
abbrev zm6 {n}:=jf (z4w n) (fun b=>⟨[(4,.ptr 4 0)],[(4,.box 109 [aI b.1,aI b.2.1,.str (b.2.2)])]⟩) fun _=>z4w.eq_1 ..
abbrev znw {n b a3 a2 a1 a0 d}:=li (z8i n b a3 a2 a1 a0 d) (fun c=>⟨[(2,aI a2),(4,.ptr 4 0),(5,.ptr 5 0),(7,.ptr 7 0),(8,.ptr 8 0),(10,.row 7053),(11,.row 7058),(12,aI c.1)],[(4,.box 111 (z8z a0)),(5,.box 220 (zd4 a1)),(7,.box 71 (z16 a3)),(8,.box 109 [aI 0,aI 0,.str (ByteArray.empty)]),(7053,.row 109 3 (c.2.1.map z08)),(7058,.row 3 1 (c.2.2.map aI))]⟩) fun _ _=>z8i.eq_2 ..
abbrev zm8 {n}:=jf (z4y n) (fun b=>⟨[(8,.bool (b))],[]⟩) fun _=>z4y.eq_1 ..
attribute [instance] zl9 znp zj9 zja zj8 zj7 zm7 zm6 znw zm8
instance y99 {n a0 a1 a2}:CI E0 (zbx n a0 a1 a2) true 266 [aI a0,.sl 3 (a1.map z08),z08 a2] (fun r=>.tup [z08 r.1,aI r.2]):=by unfold zbx;exact CI.w [] Tryz.func266
instance y2d {n a0 a1}:CI E0 (z73 n a0 a1) false 265 [zd2 a0,aI a1] (fun r=>.sl 5 (r.map z02)):=⟨fun {r} hF=>by
 unfold z73 at hF
 refine cw Tryz.func265 ?_
 repeat' first
  |refine AW.jI hF (fun v hF=>?_) fun hF=>?_
  |refine AW.regO hF fun hF=>?_
  |refine AW.stepU [1] ?_;conv=>whnf
  |refine z12.o hF (fun hF=>?_) fun hF=>?_
  |refine IdxX.o (fun q=>AV.sl 5 (List.map z02 q)) hF fun x hF=>?_
  |exact ⟨_,hF,LeX.a []⟩
  |exact RetX.oB hF⟩
instance y5j {n a0 a1 a2 a3}:CI E0 (zev n a0 a1 a2 a3) false 267 [zd2 a0,aI a1,aI a2,z02 a3] (fun r=>.tup [z02 r.1,.bool (r.2)]):=by unfold zev;exact CI.w [] Tryz.func267
instance y5h {n a0 a1 a2 a3}:CI E0 (zal n a0 a1 a2 a3) true 248 [z0l a0,zd2 a1,aI a2,z02 a3] (fun r=>.tup [z08 r.1,aI r.2]):=⟨fun {r} hF=>by
 unfold zal at hF
 refine cw Tryz.func248 ?_
 repeat' first
  |refine AW.step ?_;conv=>whnf
  |refine z12.o hF (fun hF=>?_) fun hF=>?_
  |refine z1l.I hF fun a hF=>?_
  |refine zak.I hF (fun a hF=>?_) rfl rfl fun _=>Or.inr rfl
  |refine IdxX.A hF fun x hF=>?_
  |refine AppX.oA hF fun l hF=>?_
  |exact ⟨_,hF,LeX.a [(7063,63)]⟩
  |refine z7z.I hF ?_ fun m v hF=>?_
  |exact LeX.trans (LeX.adopt 10 7063 109 3 rfl rfl) (LeX.a [])
  |refine AndA ?_
  |exact RetX.oB hF⟩
instance zzx {n a0}:CI E0 (z9v n a0) true 268 [aI a0] aI:=by unfold z9v;exact CI.w [2,3,4,7,8] Tryz.func268
instance zzw {n a0 a1}:CI E0 (zbw n a0 a1) true 249 [aI a0,.sl 1 (a1.map aI)] aI:=by unfold zbw;exact CI.w [5] Tryz.func249
instance y5l {n a0}:CI E0 (z1k n a0) true 68 [.bool (a0)] z08:=by unfold z1k;exact CI.w [] Tryz.func68
instance y44 {n a0 a1}:CI E0 (z81 n a0 a1) true 250 [aI a0,.sl 3 (a1.map z08)] z08:=by unfold z81;exact CI.w [13,15] Tryz.func250
def zsn (r:z05×Int):AV:=.tup [.agg [aI (r.1.fKind),aI (r.1.fNum),.str (r.1.fText)],aI (r.2)]
theorem zn3 {n a0 a1 a2 a3 r}(hF:z4r n a0 a1 a2 a3=some r):Con E0 true 228 [z0l a0,zd2 a1,aI a2,z02 a3] (.tup [z08 r.1,aI r.2]):=by
 induction n generalizing a0 a1 a2 a3 r
 case zero=>cases hF
 case succ n ih =>
 unfold z4r at hF
 refine cw Tryz.func228 ?_
 repeat' first
  |refine AW.step ?_;conv=>whnf
  |refine z12.o hF (fun hF=>?_) fun hF=>?_
  |refine z1l.I hF fun a hF=>?_
  |refine zak.I hF (fun a hF=>?_) rfl rfl fun _=>Or.inr rfl
  |refine IdxX.oD hF z42 (fun x hF=>?_)
  |refine z1l.o hF zsn (fun a h=>ih h) (fun a hF=>?_)
  |refine AppX.oA hF fun l hF=>?_
  |exact ⟨_,hF,LeX.a [(7053,53),(7058,58)]⟩
  |refine z7z.I hF ?_ fun m v hF=>?_
  |exact LeX.trans (LeX.adopt 10 7053 109 3 rfl rfl) (LeX.trans (LeX.adopt 11 7058 3 1 rfl rfl) (LeX.a []))
  |refine AndA ?_
  |exact RetX.oB hF
instance y5k {n a0 a1 a2 a3}:CI E0 (z4r n a0 a1 a2 a3) true 228 [z0l a0,zd2 a1,aI a2,z02 a3] (fun r=>.tup [z08 r.1,aI r.2]):=⟨zn3⟩
instance y5m {n a0 a1 a2 a3}:CI E0 (zew n a0 a1 a2 a3) true 197 [z0l a0,zd2 a1,aI a2,z02 a3] (fun r=>.tup [z08 r.1,aI r.2]):=by unfold zew;exact CI.w [] Tryz.func197
end
noncomputable section
abbrev zk9 {n a1 a0 b c d}:=jf (z3k n a1 a0 b c d) (fun e=>⟨[(2,.ptr 2 0),(3,.ptr 3 0),(5,aI b),(18,.bool (e))],[(2,.box 44 (zel a0)),(3,.box 44 (zel a1))]⟩) fun _=>z3k.eq_1 ..
abbrev zk8 {n a1 a0 b}:=li (z2o n a1 a0 b) (fun c=>⟨[(2,.ptr 2 0),(3,.ptr 3 0),(5,aI c)],[(2,.box 44 (zel a0)),(3,.box 44 (zel a1))]⟩) fun _ _=>z2o.eq_2 ..
abbrev zk6 {n a1 a0 b c d e}:=jf (z2n n a1 a0 b c d e) (fun f=>⟨[(2,.ptr 2 0),(3,.ptr 3 0),(6,aI b),(7,.ptr 7 0),(8,.ptr 8 0),(71,.bool (f))],[(2,.box 60 (z10 a0)),(3,.box 60 (z10 a1)),(7,.box 102 (ztg d)),(8,.box 102 (ztg e))]⟩) fun _=>z2n.eq_1 ..
abbrev zk7 {n a1 a0 b c d}:=jf (z3j n a1 a0 b c d) (fun e=>⟨[(2,.ptr 2 0),(3,.ptr 3 0),(6,aI b),(40,.bool (e))],[(2,.box 60 (z10 a0)),(3,.box 60 (z10 a1))]⟩) fun _=>z3j.eq_1 ..
abbrev zk5 {n a1 a0 b}:=li (z2m n a1 a0 b) (fun c=>⟨[(2,.ptr 2 0),(3,.ptr 3 0),(6,aI c)],[(2,.box 60 (z10 a0)),(3,.box 60 (z10 a1))]⟩) fun _ _=>z2m.eq_2 ..
abbrev zp5 {n a1 a0 b}:=jf (z6v n a1 a0 b) (fun c=>⟨[(0,.sl 3 (a0.map z01)),(3,.ptr 3 0),(5,aI b),(34,.bool (c))],[(3,.box 60 (z10 a1))]⟩) fun _=>z6v.eq_1 ..
abbrev zp4 {n a1 a0 b c d}:=jf (z6u n a1 a0 b c d) (fun e=>⟨[(0,.sl 3 (a0.map z01)),(3,.ptr 3 0),(5,aI b),(19,.bool (e))],[(3,.box 60 (z10 a1))]⟩) fun _=>z6u.eq_1 ..
abbrev zp3 {n a1 a0 b}:=li (z4i n a1 a0 b) (fun c=>⟨[(0,.sl 3 (a0.map z01)),(3,.ptr 3 0),(5,aI c)],[(3,.box 60 (z10 a1))]⟩) fun _ _=>z4i.eq_2 ..
abbrev zsk {n}:=jf (z6t n) (fun b=>⟨[(2,.bool (b))],[]⟩) fun _=>z6t.eq_1 ..
abbrev zsi {n}:=jf (z4s n) (fun b=>⟨[(4,.bool (b))],[]⟩) fun _=>z4s.eq_1 ..
attribute [instance] zk9 zk8 zk6 zk7 zk5 zp5 zp4 zp3 zsk zsi
instance y46 {n a0 a1 a2 a3}:CI E0 (z31 n a0 a1 a2 a3) true 170 [z0l a0,zd2 a1,aI a2,z02 a3] (fun r=>.bool (r)):=by unfold z31;exact CI.w [2] Tryz.func170
instance y4d {n a0 a1}:CI E0 (z9z n a0 a1) true 90 [z1b a0,z1b a1] aI:=by unfold z9z;exact CI.w [] Tryz.func90
instance y3z {n a0 a1}:CI E0 (zbo n a0 a1) true 55 [z0b a0,z0b a1] aI:=by unfold zbo;exact CI.w [] Tryz.func55
instance y0q {n a0 a1}:CI E0 (z5x n a0 a1) true 21 [z0d a0,z0d a1] aI:=by unfold z5x;exact CI.w [2] Tryz.func21
instance y0p {n a0 a1}:CI E0 (z3r n a0 a1) true 29 [z01 a0,z01 a1] aI:=by unfold z3r;exact CI.w [9,12] Tryz.func29
instance y7y {n a0 a1}:CI E0 (z9m n a0 a1) false 103 [.sl 3 (a0.map z01),z01 a1] (fun r=>.sl 3 (r.map z01)):=⟨fun {r} hF=>by
 unfold z9m at hF
 refine cw Tryz.func103 ?_
 repeat' first
  |refine AW.jI hF (fun v hF=>?_) fun hF=>?_
  |refine AW.regO hF fun hF=>?_
  |refine AW.stepU [2,4] ?_;conv=>whnf
  |refine z12.o hF (fun hF=>?_) fun hF=>?_
  |refine SlsX.o z01 hF (fun l hF=>?_)
  |refine AppX.oA0 hF fun l hF=>?_
  |refine AppX.oA hF fun l hF=>?_
  |refine IdxX.A hF fun x hF=>?_
  |refine z1l.I hF fun a hF=>?_
  |exact ⟨_,hF,LeX.a []⟩
  |refine z7z.I hF (LeX.a []) fun m v hF=>?_
  |refine AndA ?_
  |exact RetX.oB hF⟩
instance ybk {n a0}:CI E0 (zd0 n a0) true 280 [aI a0] (fun r=>.bool (r)):=by unfold zd0;exact CI.w [1] Tryz.func280
instance ybj {n a0 a1}:CI E0 (zcz n a0 a1) true 287 [aI a0,z08 a1] (fun r=>.bool (r)):=by unfold zcz;exact CI.w [1] Tryz.func287
instance ybi {n a0 a1}:CI E0 (zbh n a0 a1) true 281 [aI a0,z08 a1] aI:=by unfold zbh;exact CI.w [] Tryz.func281
instance y9i {n a0 a1}:CI E0 (zg4 n a0 a1) true 285 [aI a0,z08 a1] z08:=by unfold zg4;exact CI.w [] Tryz.func285
instance y4p {n}:CI E0 (zek n) true 290 [] z08:=by unfold zek;exact CI.w [] Tryz.func290
def zrh (m0:z05)(m1:z05):List (Nat×Ent):=[(100000,.box 109 (z28 m0)),(100001,.box 109 (z28 m1))]
def ze2 (r:z05×z05×z05):List (Nat×Ent):=[(2,.box 109 (z28 r.1)),(100000,.box 109 (z28 r.2.1)),(100001,.box 109 (z28 r.2.2))]
def zge (r:z05×z05×z05):AV:=.agg [aI (r.1.fKind),aI (r.1.fNum),.str (r.1.fText)]
def zr3 (r:z05×z05×z05):AS:=⟨[(2,.ptr 2 0),(0,.ptr 100000 0),(1,.ptr 100001 0)],ze2 r⟩
end
noncomputable section
abbrev zqv {n c a1 d}:=li (za8 n c a1 d) (fun b=>⟨[(2,.fn 283 [.ref [aI c]]),(3,.ptr 3 0),(6,.ptr 6 0),(9,.sl 3 (a1.map z08)),(10,aI (((a1.map z08).length:Int))),(11,aI b.1)],[(3,.box 313 [aI b.2.1,aI b.2.2.1,aI b.2.2.2.1,aI b.2.2.2.2.1,.str (b.2.2.2.2.2)]),(6,.box 313 [aI 0,aI 0,aI 0,aI 0,.str (ByteArray.empty)])]⟩) fun _ _=>za8.eq_2 ..
abbrev zsl {n a0}:=jf (z8w n a0) (fun b=>⟨[(1,.ptr 1 0),(10,.bool (b))],[(1,.box 313 (zf2 a0))]⟩) fun _=>z8w.eq_1 ..
abbrev zqw {n a1 a0}:=jf (z89 n a1 a0) (fun b=>⟨[(2,.ptr 2 0),(3,.ptr 3 0),(4,.ptr 4 0),(29,.bool (b))],[(2,.box 313 (zf2 a0)),(3,.box 109 (z28 a1)),(4,.box 109 [aI 0,aI 0,.str (ByteArray.empty)])]⟩) fun _=>z89.eq_1 ..
abbrev zvj {n a2 a1 a0 b}:=li (zd1 n a2 a1 a0 b) (fun c=>⟨[(1,.sl 3 (a1.map z08)),(3,.ptr 3 0),(5,.ptr 5 0),(6,.ptr 6 0),(22,.sl 3 (a1.map z08)),(23,aI (((a1.map z08).length:Int))),(24,aI c)],[(3,.box 3 [aI a0]),(5,.box 109 (z28 a2)),(6,.box 109 [aI 0,aI 0,.str (ByteArray.empty)])]⟩) fun _ _=>zd1.eq_2 ..
attribute [instance] zqv zsl zqw zvj
theorem zon {n m0 m1 r}(hF:zej n m0 m1=some r):ConG E0.P none (CalF E0.P 291 0) [.ptr 100000 0,.ptr 100001 0] [] (zrh m0 m1) (zge r) (ze2 r):=by
 unfold zej at hF
 refine ConG.walk (E:=(E0p 2)) (caps:=[]) _ Tryz.func291 rfl rfl rfl rfl rfl ?_
 repeat' first
  |refine AW.step ?_;conv=>whnf
  |exact GX.A (res:=zge) (meF:=ze2) hF zr3
def zrg (m0:z05)(m1:z05):List (Nat×Ent):=[(100000,.box 109 (z28 m0)),(100001,.box 109 (z28 m1))]
def ze1 (r:z05×z05×z05):List (Nat×Ent):=[(2,.box 109 (z28 r.1)),(100000,.box 109 (z28 r.2.1)),(100001,.box 109 (z28 r.2.2))]
def zgd (r:z05×z05×z05):AV:=.agg [aI (r.1.fKind),aI (r.1.fNum),.str (r.1.fText)]
def zr2 (r:z05×z05×z05):AS:=⟨[(2,.ptr 2 0),(0,.ptr 100000 0),(1,.ptr 100001 0)],ze1 r⟩
theorem zom {n m0 m1 r}(hF:zei n m0 m1=some r):ConG E0.P none (CalF E0.P 292 0) [.ptr 100000 0,.ptr 100001 0] [] (zrg m0 m1) (zgd r) (ze1 r):=by
 unfold zei at hF
 refine ConG.walk (E:=(E0p 2)) (caps:=[]) _ Tryz.func292 rfl rfl rfl rfl rfl ?_
 repeat' first
  |refine AW.step ?_;conv=>whnf
  |exact GX.A (res:=zgd) (meF:=ze1) hF zr2
def zrf (m0:z05)(m1:z05):List (Nat×Ent):=[(100000,.box 109 (z28 m0)),(100001,.box 109 (z28 m1))]
def ze0 (r:z05×z05×z05):List (Nat×Ent):=[(2,.box 109 (z28 r.1)),(100000,.box 109 (z28 r.2.1)),(100001,.box 109 (z28 r.2.2))]
def zgc (r:z05×z05×z05):AV:=.agg [aI (r.1.fKind),aI (r.1.fNum),.str (r.1.fText)]
def zr1 (r:z05×z05×z05):AS:=⟨[(2,.ptr 2 0),(0,.ptr 100000 0),(1,.ptr 100001 0)],ze0 r⟩
theorem zol {n m0 m1 r}(hF:zeh n m0 m1=some r):ConG E0.P none (CalF E0.P 293 0) [.ptr 100000 0,.ptr 100001 0] [] (zrf m0 m1) (zgc r) (ze0 r):=by
 unfold zeh at hF
 refine ConG.walk (E:=(E0p 2)) (caps:=[]) _ Tryz.func293 rfl rfl rfl rfl rfl ?_
 repeat' first
  |refine AW.step ?_;conv=>whnf
  |exact GX.A (res:=zgc) (meF:=ze0) hF zr1
def zrd (m0:z05):List (Nat×Ent):=[(100000,.box 109 (z28 m0))]
def zdz (r:z05×z05):List (Nat×Ent):=[(1,.box 109 (z28 r.1)),(100000,.box 109 (z28 r.2))]
def zgb (r:z05×z05):AV:=.agg [aI (r.1.fKind),aI (r.1.fNum),.str (r.1.fText)]
def zr0 (r:z05×z05):AS:=⟨[(1,.ptr 1 0),(0,.ptr 100000 0)],zdz r⟩
theorem zok {n m0 r}(hF:zeg n m0=some r):ConG E0.P none (CalF E0.P 294 0) [.ptr 100000 0] [] (zrd m0) (zgb r) (zdz r):=by
 unfold zeg at hF
 refine ConG.walk (E:=(E0p 1)) (caps:=[]) _ Tryz.func294 rfl rfl rfl rfl rfl ?_
 repeat' first
  |refine AW.step ?_;conv=>whnf
  |exact GX.A (res:=zgb) (meF:=zdz) hF zr0
def zrc (m0:z05):List (Nat×Ent):=[(100000,.box 109 (z28 m0))]
def zdy (r:z05×z05):List (Nat×Ent):=[(1,.box 109 (z28 r.1)),(100000,.box 109 (z28 r.2))]
def zga (r:z05×z05):AV:=.agg [aI (r.1.fKind),aI (r.1.fNum),.str (r.1.fText)]
def zqz (r:z05×z05):AS:=⟨[(1,.ptr 1 0),(0,.ptr 100000 0)],zdy r⟩
theorem zoj {n m0 r}(hF:zef n m0=some r):ConG E0.P none (CalF E0.P 295 0) [.ptr 100000 0] [] (zrc m0) (zga r) (zdy r):=by
 unfold zef at hF
 refine ConG.walk (E:=(E0p 1)) (caps:=[]) _ Tryz.func295 rfl rfl rfl rfl rfl ?_
 repeat' first
  |refine AW.step ?_;conv=>whnf
  |exact GX.A (res:=zga) (meF:=zdy) hF zqz
instance y8o {n a0 a1 a2}:CI E0 (zds n a0 a1 a2) true 288 [aI a0,z08 a1,z08 a2] z08:=⟨fun {r} hF=>by
 unfold zds at hF
 refine cw Tryz.func288 ?_
 repeat' first
  |refine AW.step ?_;conv=>whnf
  |refine NatX.oS hF rfl (fun hF=>?_) (fun hF=>?_)
  |(cases hF;done)
  |refine z1l.I hF fun a hF=>?_
  |refine zak.oM (z6d 15 hF) [(100000,4),(100001,5)] [(2,16000000),(100000,4),(100001,5)] _ _ ze2 zge [] (fun a h=>ConG.up (zon h)) (z0x Tryz.func291 rfl rfl) rfl rfl rfl ⟨⟨rfl,rfl⟩,⟨⟨rfl,rfl⟩,trivial⟩⟩ (fun a=>⟨rfl,rfl,rfl,rfl,rfl,rfl,rfl,rfl⟩) (fun a hF=>?_)
  |refine zak.oM (z6d 15 hF) [(100000,4),(100001,5)] [(2,16000000),(100000,4),(100001,5)] _ _ ze1 zgd [] (fun a h=>ConG.up (zom h)) (z0x Tryz.func292 rfl rfl) rfl rfl rfl ⟨⟨rfl,rfl⟩,⟨⟨rfl,rfl⟩,trivial⟩⟩ (fun a=>⟨rfl,rfl,rfl,rfl,rfl,rfl,rfl,rfl⟩) (fun a hF=>?_)
  |refine zak.oM (z6d 15 hF) [(100000,4),(100001,5)] [(2,16000000),(100000,4),(100001,5)] _ _ ze0 zgc [] (fun a h=>ConG.up (zol h)) (z0x Tryz.func293 rfl rfl) rfl rfl rfl ⟨⟨rfl,rfl⟩,⟨⟨rfl,rfl⟩,trivial⟩⟩ (fun a=>⟨rfl,rfl,rfl,rfl,rfl,rfl,rfl,rfl⟩) (fun a hF=>?_)
  |refine zak.oM (z6d 15 hF) [(100000,4)] [(1,16000000),(100000,4)] _ _ zdz zgb [] (fun a h=>ConG.up (zok h)) (z0x Tryz.func294 rfl rfl) rfl rfl rfl ⟨⟨rfl,rfl⟩,trivial⟩ (fun a=>⟨rfl,rfl,rfl,rfl,rfl,rfl,rfl,rfl⟩) (fun a hF=>?_)
  |refine zak.oM (z6d 15 hF) [(100000,5)] [(1,16000000),(100000,5)] _ _ zdy zga [] (fun a h=>ConG.up (zoj h)) (z0x Tryz.func295 rfl rfl) rfl rfl rfl ⟨⟨rfl,rfl⟩,trivial⟩ (fun a=>⟨rfl,rfl,rfl,rfl,rfl,rfl,rfl,rfl⟩) (fun a hF=>?_)
  |exact RetX.oB hF⟩
instance y9j {n a0 a1}:CI E0 (zg5 n a0 a1) true 284 [z36 a0,z36 a1] z36:=by unfold zg5;exact CI.w [] Tryz.func284
instance yeb {n a0 a1 a2}:CI E0 (zhc n a0 a1 a2) true 283 [z36 a0,z08 a1,.ref [aI a2]] z36:=by unfold zhc;exact CI.w [] Tryz.func283
instance y9k {n a0 a1 b}:CI E0 (zee n a0 a1 b) true 282 [z36 a0,.sl 3 (a1.map z08),.fn 283 [.ref [aI b]]] z36:=by unfold zee;exact CI.w [] Tryz.func282
instance ybl {n a0}:CI E0 (zfd n a0) true 289 [z36 a0] aI:=by unfold zfd;exact CI.w [3,7,9,11,6] Tryz.func289
instance y9l {n a0 a1}:CI E0 (zbz n a0 a1) true 286 [z36 a0,z08 a1] (fun r=>.tup [z08 r.1,aI r.2]):=by unfold zbz;exact CI.w [9] Tryz.func286
instance yg0 {n a0 a1 a2}:CI E0 (zfy n a0 a1 a2) true 276 [aI a0,.sl 3 (a1.map z08),z08 a2] (fun r=>.tup [z08 r.1,aI r.2]):=⟨fun {r} hF=>by
 unfold zfy at hF
 refine cw Tryz.func276 ?_
 repeat' first
  |refine AW.step ?_;conv=>whnf
  |refine z12.o hF (fun hF=>?_) fun hF=>?_
  |refine z1l.I hF fun a hF=>?_
  |refine zak.I hF (fun a hF=>?_) rfl rfl fun _=>Or.inr rfl
  |refine IdxX.A hF fun x hF=>?_
  |exact ⟨_,hF,LeX.a []⟩
  |refine z7z.I hF (LeX.a []) fun m v hF=>?_
  |exact RetX.oB hF⟩
instance ylz {n a0}:CI E0 (zjx n a0) true 176 [aI a0] (fun r=>.bool (r)):=by unfold zjx;exact CI.w [] Tryz.func176
instance yj1 {n a0 a1}:CI E0 (z3e n a0 a1) true 135 [aI a0,aI a1] aI:=by unfold z3e;exact CI.w [] Tryz.func135
end
end Go.Proofs.YtidhlpjgifoneaaGreat
