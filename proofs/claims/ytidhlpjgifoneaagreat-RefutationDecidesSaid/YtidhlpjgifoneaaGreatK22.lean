/- What some functions compute, over plain values. -/
import Derived.Test.YtidhlpjgifoneaaGreatK18
set_option linter.unusedVariables false
set_option linter.unusedSimpArgs false
set_option maxRecDepth 100000
set_option maxHeartbeats 8000000
namespace Go.Proofs.YtidhlpjgifoneaaGreat
open Go.RowKit
noncomputable section
abbrev zlx {n b a1 a0 c d e}:=jf (z4x n b a1 a0 c d e) (fun f=>⟨[(1,aI a1),(2,.ptr 2 0),(5,aI c.1),(6,aI c.2),(16,.bool (f))],[(2,.box 111 (z8s a0))]⟩) fun _=>z4x.eq_1 ..
abbrev zlw {n b a1 a0 c}:=li (z3f n b a1 a0 c) (fun d=>⟨[(1,aI a1),(2,.ptr 2 0),(5,aI d.1),(6,aI d.2)],[(2,.box 111 (z8s a0))]⟩) fun _ _=>z3f.eq_2 ..
abbrev zlv {n b a0 c}:=li (z7h n b a0 c) (fun d=>⟨[(1,.ptr 1 0),(3,aI d.1),(4,aI d.2)],[(1,.box 111 (z8s a0))]⟩) fun _ _=>z7h.eq_2 ..
abbrev zlq {n}:=jt (z1g n) (fun b=>⟨[(12,.bool (b))],[]⟩) fun _=>z1g.eq_1 ..
abbrev zlr {n a0}:=jt (z1w n a0) (fun b=>⟨[(3,aI a0),(4,.bool (b))],[]⟩) fun _=>z1w.eq_1 ..
abbrev zn5 {n b}:=jf (z3q n b) (fun c=>⟨[(2,.bool (c)),(3,.bool (b))],[]⟩) fun _=>z3q.eq_1 ..
abbrev zn6 {n a0}:=jf (z5v n a0) (fun b=>⟨[(0,aI a0),(4,.bool (b))],[]⟩) fun _=>z5v.eq_1 ..
abbrev zly {n}:=jf (z2d n) (fun b=>⟨[(4,.bool (b))],[]⟩) fun _=>z2d.eq_1 ..
abbrev zn8 {n}:=jf (z0j n) (fun b=>⟨[(130,.bool (b))],[]⟩) fun _=>z0j.eq_1 ..
abbrev zn9 {n a0 x2 b}:=jf (z2t n a0 x2 b) (fun c=>⟨[(1,.ptr 1 0),(4,.bool (x2.1)),(5,.bool (x2.2)),(6,.bool (decide (a0.fOp=4))),(7,.bool (b)),(95,.bool (c))],[(1,.box 111 (z8s a0))]⟩) fun _=>z2t.eq_1 ..
abbrev zna {n a0 x2 b}:=jt (z5w n a0 x2 b) (fun _=>⟨[(1,.ptr 1 0),(4,.bool (x2.1)),(5,.bool (x2.2)),(6,.bool (decide (a0.fOp=4))),(7,.bool (b))],[(1,.box 111 (z8s a0))]⟩) fun _=>z5w.eq_1 ..
abbrev znb {n a0 x2}:=jf (z5x n a0 x2) (fun b=>⟨[(1,.ptr 1 0),(4,.bool (x2.1)),(5,.bool (x2.2)),(6,.bool (decide (a0.fOp=4))),(7,.bool (b))],[(1,.box 111 (z8s a0))]⟩) fun _=>z5x.eq_1 ..
abbrev znc {n a0 x2}:=jf (z3s n a0 x2) (fun b=>⟨[(1,.ptr 1 0),(4,.bool (x2.1)),(5,.bool (x2.2)),(6,.bool (decide (a0.fOp=4))),(62,.bool (b))],[(1,.box 111 (z8s a0))]⟩) fun _=>z3s.eq_1 ..
abbrev znd {n a0 x2}:=jf (z1f n a0 x2) (fun b=>⟨[(1,.ptr 1 0),(4,.bool (x2.1)),(5,.bool (x2.2)),(48,.bool (b))],[(1,.box 111 (z8s a0))]⟩) fun _=>z1f.eq_1 ..
abbrev zlp {n b a0 c}:=li (z7g n b a0 c) (fun d=>⟨[(1,.ptr 1 0),(4,aI d)],[(1,.box 111 (z8s a0))]⟩) fun _ _=>z7g.eq_2 ..
attribute [instance] zlx zlw zlv zlq zlr zn5 zn6 zly zn8 zn9 zna znb znc znd zlp
def zqm (r:Int):AV:=aI (r)
theorem zlc {n a0 a1 r}(hF:z34 n a0 a1=some r):Con E0 true 95 [z0l a0,aI a1] (aI r):=by
 induction n generalizing a0 a1 r
 case zero=>cases hF
 case succ n ih =>
 unfold z34 at hF
 refine cw Tryz.func95 ?_
 repeat' first
  |refine AW.jI hF (fun v hF=>?_) fun hF=>?_
  |refine AW.regO hF fun hF=>?_
  |refine AW.stepU [3] ?_;conv=>whnf
  |refine z17.o hF (fun hF=>?_) fun hF=>?_
  |refine IdxX.oD hF z40 (fun x hF=>?_)
  |refine z1n.o hF zqm (fun a h=>ih h) (fun a hF=>?_)
  |exact ⟨_,hF,LeX.a []⟩
  |refine z8k.I hF (LeX.a []) fun m v hF=>?_
  |exact RetX.oB hF
instance y2z {n a0 a1}:CI E0 (z34 n a0 a1) true 95 [z0l a0,aI a1] aI:=⟨zlc⟩
def zql (r:Int):AV:=aI (r)
theorem zlb {n a0 r}(hF:z33 n a0=some r):Con E0 true 96 [z0l a0] (aI r):=by
 induction n generalizing a0 r
 case zero=>cases hF
 case succ n ih =>
 unfold z33 at hF
 refine cw Tryz.func96 ?_
 repeat' first
  |refine AW.step ?_;conv=>whnf
  |refine z17.o hF (fun hF=>?_) fun hF=>?_
  |refine IdxX.oD hF z40 (fun x hF=>?_)
  |refine z1n.o hF zql (fun a h=>ih h) (fun a hF=>?_)
  |exact ⟨_,hF,LeX.a []⟩
  |refine z8k.I hF (LeX.a []) fun m v hF=>?_
  |exact RetX.oB hF
instance y2y {n a0}:CI E0 (z33 n a0) true 96 [z0l a0] aI:=⟨zlb⟩
instance y2v {n a0}:CI E0 (zbl n a0) true 235 [aI a0] aI:=by unfold zbl;exact CI.w [2,3,4,5,10,11,12,13,14,15] Tryz.func235
instance y46 {n a0}:CI E0 (zc1 n a0) true 234 [aI a0] (fun r=>.tup [.bool (r.1),.bool (r.2)]):=by unfold zc1;exact CI.w [1,2] Tryz.func234
instance y36 {n a0}:CI E0 (z3u n a0) true 236 [z08 a0] aI:=by unfold z3u;exact CI.w [] Tryz.func236
instance y32 {n a0 a1}:CI E0 (z7z n a0 a1) true 237 [aI a0,z08 a1] (fun r=>.bool (r)):=by unfold z7z;exact CI.w [1] Tryz.func237
instance y48 {n a0}:CI E0 (zc2 n a0) true 209 [z0l a0] aI:=⟨fun {r} hF=>by
 unfold zc2 at hF
 refine cw Tryz.func209 ?_
 repeat' first
  |refine AW.jI hF (fun v hF=>?_) fun hF=>?_
  |refine AW.jI2 hF (fun v hF=>?_) fun hF=>?_
  |refine AW.regO hF fun hF=>?_
  |refine AW.stepU [7,10,12,13,17,19] ?_;conv=>whnf
  |refine z17.o hF (fun hF=>?_) fun hF=>?_
  |refine z17.t ?_
  |refine z17.f ?_
  |refine z1n.I hF fun a hF=>?_
  |exact ⟨_,hF,LeX.a []⟩
  |exact ⟨(),hF,LeX.a []⟩
  |refine EqX.A ?_
  |exact RetX.oB hF⟩
def zqk (r:Int):AV:=aI (r)
theorem zla {n a0 r}(hF:z3r n a0=some r):Con E0 true 179 [z0l a0] (aI r):=by
 induction n generalizing a0 r
 case zero=>cases hF
 case succ n ih =>
 unfold z3r at hF
 refine cw Tryz.func179 ?_
 repeat' first
  |refine AW.step ?_;conv=>whnf
  |refine z17.o hF (fun hF=>?_) fun hF=>?_
  |refine z1n.I hF fun a hF=>?_
  |refine IdxX.oD hF z40 (fun x hF=>?_)
  |refine z1n.o hF zqk (fun a h=>ih h) (fun a hF=>?_)
  |exact ⟨_,hF,LeX.a []⟩
  |refine z8k.I hF (LeX.a []) fun m v hF=>?_
  |exact RetX.oB hF
instance y2u {n a0}:CI E0 (z3r n a0) true 179 [z0l a0] aI:=⟨zla⟩
end
noncomputable section
abbrev zop {n}:=jf (z6r n) (fun b=>⟨[(4,.bool (b))],[]⟩) fun _=>z6r.eq_1 ..
abbrev zks {n a1 a0 b c}:=li (z6b n a1 a0 b c) (fun d=>⟨[(1,.sl 11 (a1.map z0t)),(2,.ptr 2 0),(5,aI b),(6,aI d)],[(2,.box 25 (z0g a0))]⟩) fun _ _=>z6b.eq_2 ..
abbrev zku {n a1 a0 b c}:=jf (z31 n a1 a0 b c) (fun d=>⟨[(1,.sl 11 (a1.map z0t)),(2,.ptr 2 0),(5,aI b),(44,.bool (d))],[(2,.box 25 (z0g a0))]⟩) fun _=>z31.eq_1 ..
abbrev zkt {n a1 a0 b}:=li (z1p n a1 a0 b) (fun c=>⟨[(1,.sl 11 (a1.map z0t)),(2,.ptr 2 0),(5,aI c)],[(2,.box 25 (z0g a0))]⟩) fun _ _=>z1p.eq_2 ..
abbrev zkq {n a1 a0 b c}:=li (z6a n a1 a0 b c) (fun d=>⟨[(0,.sl 1 (a0.map aI)),(1,aI a1),(5,aI b),(6,aI d)],[]⟩) fun _ _=>z6a.eq_2 ..
abbrev zkr {n a1 a0 b}:=li (z44 n a1 a0 b) (fun c=>⟨[(0,.sl 1 (a0.map aI)),(1,aI a1),(5,aI c)],[]⟩) fun _ _=>z44.eq_2 ..
abbrev zlg {n a1 b}:=li (z4t n a1 b) (fun c=>⟨[(3,.ptr 3 0),(10,aI c)],[(3,.box 115 (z2a a1))]⟩) fun _ _=>z4t.eq_2 ..
abbrev zlh {n a1 a0 b c}:=li (z2b n a1 a0 b c) (fun d=>⟨[(2,.ptr 2 0),(3,.ptr 3 0),(7,.sl 1 [.sl 1 (a1.fOpens.map aI),.sl 1 (a1.fCloses.map aI),.sl 1 (a1.fInside.map aI),.sl 1 (b.map aI)]),(8,aI d)],[(2,.box 25 (z0g a0)),(3,.box 115 (z2a a1))]⟩) fun _ _=>z2b.eq_2 ..
abbrev zli {n a1 a0 b}:=li (z7c n a1 a0 b) (fun c=>⟨[(2,.ptr 2 0),(3,.ptr 3 0),(5,.row 7026),(6,aI c.1)],[(2,.box 25 (z0g a0)),(3,.box 115 (z2a a1)),(7026,.row 3 1 (c.2.map aI))]⟩) fun _ _=>z7c.eq_2 ..
abbrev zmy {n a1 a0 b}:=li (z8a n a1 a0 b) (fun c=>⟨[(3,.ptr 3 0),(4,.ptr 4 0),(9,aI c)],[(3,.box 25 (z0g a0)),(4,.box 115 (z2a a1))]⟩) fun _ _=>z8a.eq_2 ..
abbrev zmz {n a2 a1 a0}:=jf (z18 n a2 a1 a0) (fun b=>⟨[(2,aI a2),(3,.ptr 3 0),(4,.ptr 4 0),(42,.bool (b))],[(3,.box 25 (z0g a0)),(4,.box 115 (z2a a1))]⟩) fun _=>z18.eq_1 ..
abbrev zlj {n a0 b}:=li (z7d n a0 b) (fun c=>⟨[(1,.ptr 1 0),(5,aI c.1),(6,aI c.2)],[(1,.box 25 (z0g a0))]⟩) fun _ _=>z7d.eq_2 ..
abbrev zlk {n a0 b}:=li (z7e n a0 b) (fun c=>⟨[(1,.ptr 1 0),(3,aI c)],[(1,.box 25 (z0g a0))]⟩) fun _ _=>z7e.eq_2 ..
abbrev zll {n a0}:=jf (z1u n a0) (fun b=>⟨[(1,.ptr 1 0),(31,.bool (b))],[(1,.box 25 (z0g a0))]⟩) fun _=>z1u.eq_1 ..
abbrev zlm {n a0}:=jf (z2c n a0) (fun b=>⟨[(1,.ptr 1 0),(15,.bool (b))],[(1,.box 25 (z0g a0))]⟩) fun _=>z2c.eq_1 ..
attribute [instance] zop zks zku zkt zkq zkr zlg zlh zli zmy zmz zlj zlk zll zlm
instance y30 {n a0}:CI E0 (z35 n a0) true 138 [z0l a0] aI:=by unfold z35;exact CI.w [] Tryz.func138
instance y6r {n a0 a1}:CI E0 (z1b n a0 a1) true 97 [aI a0,aI a1] (fun r=>.bool (r)):=by unfold z1b;exact CI.w [1] Tryz.func97
instance y15 {n a0 a1}:CI E0 (zax n a0 a1) true 98 [z0n a0,.sl 11 (a1.map z0t)] aI:=by unfold zax;exact CI.w [6] Tryz.func98
instance y14 {n a0 a1}:CI E0 (z8y n a0 a1) true 180 [.sl 1 (a0.map aI),aI a1] aI:=by unfold z8y;exact CI.w [] Tryz.func180
instance y2p {n a0 a1}:CI E0 (z9n n a0 a1) true 139 [z0n a0,z0v a1] aI:=⟨fun {r} hF=>by
 unfold z9n at hF
 refine cw Tryz.func139 ?_
 repeat' first
  |refine AW.regO hF fun hF=>?_
  |refine AW.frzO hF 7026 rfl (fun hF=>?_)
  |refine AW.stepU [6] ?_;conv=>whnf
  |refine z17.o hF (fun hF=>?_) fun hF=>?_
  |refine IdxX.A hF fun x hF=>?_
  |refine z1n.I hF fun a hF=>?_
  |exact ⟨_,hF,LeX.a []⟩
  |refine z8k.I hF ?_ fun m v hF=>?_
  |exact LeX.a []
  |refine IdxX.o (fun q=>AV.sl 1 (List.map aI q)) hF fun x hF=>?_
  |refine AppX.oA hF fun l hF=>?_
  |exact ⟨_,hF,LeX.a [(7026,26)]⟩
  |exact LeX.trans (LeX.adopt 5 7026 3 1 rfl rfl) (LeX.a [])
  |refine AndA ?_
  |exact RetX.oB hF⟩
instance y44 {n a0 a1 a2}:CI E0 (zbz n a0 a1 a2) true 99 [z0n a0,z0v a1,aI a2] aI:=⟨fun {r} hF=>by
 unfold zbz at hF
 refine cw Tryz.func99 ?_
 repeat' first
  |refine AW.jI hF (fun v hF=>?_) fun hF=>?_
  |refine AW.regO hF fun hF=>?_
  |refine AW.stepU [2] ?_;conv=>whnf
  |refine z17.o hF (fun hF=>?_) fun hF=>?_
  |refine z17.t ?_
  |refine z17.f ?_
  |refine z1n.I hF fun a hF=>?_
  |refine IdxX.oD hF z40 (fun x hF=>?_)
  |exact ⟨_,hF,LeX.a []⟩
  |refine z8k.I hF (LeX.a []) fun m v hF=>?_
  |exact RetX.oB hF⟩
end
noncomputable section
abbrev zzj {n b a0 d}:=li (zfn n b a0 d) (fun c=>⟨[(4,aI c.1),(5,aI c.2.1),(11,.sl 8 (a0.fArgs.map idA)),(12,aI (((a0.fArgs.map idA).length:Int))),(13,aI c.2.2)],[]⟩) fun _ _=>zfn.eq_2 ..
abbrev zy2 {n a0}:=jf (zdi n a0) (fun b=>⟨[(0,aI a0),(4,.bool (b))],[]⟩) fun _=>zdi.eq_1 ..
abbrev zzc {n}:=jt (zej n) (fun b=>⟨[(8,.bool (b))],[]⟩) fun _=>zej.eq_1 ..
abbrev zzd {n a0}:=jt (zek n a0) (fun b=>⟨[(4,aI a0),(5,.bool (b))],[]⟩) fun _=>zek.eq_1 ..
abbrev zy1 {n}:=jf (zbp n) (fun b=>⟨[(4,.bool (b))],[]⟩) fun _=>zbp.eq_1 ..
abbrev zsn {n}:=jf (z65 n) (fun b=>⟨[(31,.bool (b))],[]⟩) fun _=>z65.eq_1 ..
abbrev zze {n}:=jf (z13 n) (fun b=>⟨[(113,.bool (b))],[]⟩) fun _=>z13.eq_1 ..
abbrev zzf {n a0 x2 b}:=jt (zel n a0 x2 b) (fun _=>⟨[(1,.ptr 1 0),(5,.bool (x2.1)),(6,.bool (x2.2)),(7,.bool (decide (a0.fOp=4))),(8,.bool (b))],[(1,.box 111 (z8s a0))]⟩) fun _=>zel.eq_1 ..
abbrev zzg {n a0 x2}:=jf (zem n a0 x2) (fun b=>⟨[(1,.ptr 1 0),(5,.bool (x2.1)),(6,.bool (x2.2)),(7,.bool (decide (a0.fOp=4))),(8,.bool (b))],[(1,.box 111 (z8s a0))]⟩) fun _=>zem.eq_1 ..
abbrev zzh {n a0 x2}:=jf (zcg n a0 x2) (fun b=>⟨[(1,.ptr 1 0),(5,.bool (x2.1)),(6,.bool (x2.2)),(7,.bool (decide (a0.fOp=4))),(66,.bool (b))],[(1,.box 111 (z8s a0))]⟩) fun _=>zcg.eq_1 ..
abbrev zzi {n a0 x2}:=jf (z6j n a0 x2) (fun b=>⟨[(1,.ptr 1 0),(5,.bool (x2.1)),(6,.bool (x2.2)),(52,.bool (b))],[(1,.box 111 (z8s a0))]⟩) fun _=>z6j.eq_1 ..
abbrev zy0 {n b a0 c}:=li (zf5 n b a0 c) (fun d=>⟨[(1,.fn 183 []),(16,.sl 8 (a0.fArgs.map idA)),(17,aI (((a0.fArgs.map idA).length:Int))),(18,aI d)],[]⟩) fun _ _=>zf5.eq_2 ..
abbrev zq4 {n}:=jf (z83 n) (fun b=>⟨[(4,.bool (b))],[]⟩) fun _=>z83.eq_1 ..
attribute [instance] zzj zy2 zzc zzd zy1 zsn zze zzf zzg zzh zzi zy0 zq4
instance y2q {n a0}:CI E0 (z59 n a0) true 63 [z0n a0] aI:=by unfold z59;exact CI.w [1,3] Tryz.func63
def yak (r:Int×Int):AV:=.tup [aI (r.1),aI (r.2)]
theorem zyf {n a0 r}(hF:zff n a0=some r):Con E0 true 182 [z0l a0] (.tup [aI r.1,aI r.2]):=by
 induction n generalizing a0 r
 case zero=>cases hF
 case succ n ih =>
 unfold zff at hF
 refine cw Tryz.func182 ?_
 repeat' first
  |refine AW.step ?_;conv=>whnf
  |refine z17.o hF (fun hF=>?_) fun hF=>?_
  |refine IdxX.oD hF z40 (fun x hF=>?_)
  |refine z1n.o hF yak (fun a h=>ih h) (fun a hF=>?_)
  |exact ⟨_,hF,LeX.a []⟩
  |refine z8k.I hF (LeX.a []) fun m v hF=>?_
  |exact RetX.oB hF
instance yk1 {n a0}:CI E0 (zff n a0) true 182 [z0l a0] (fun r=>.tup [aI r.1,aI r.2]):=⟨zyf⟩
instance yi8 {n a0}:CI E0 (zi8 n a0) true 210 [aI a0] (fun r=>.tup [aI r.1,.bool (r.2)]):=by unfold zi8;exact CI.w [1] Tryz.func210
instance yjy {n a0}:CI E0 (zhu n a0) true 153 [aI a0] (fun r=>.tup [.bool (r.1),.bool (r.2)]):=by unfold zhu;exact CI.w [2,5] Tryz.func153
instance yhy {n a0}:CI E0 (zg3 n a0) true 252 [z08 a0] aI:=by unfold zg3;exact CI.w [] Tryz.func252
instance yh3 {n a0}:CI E0 (zca n a0) true 238 [z08 a0] aI:=by unfold zca;exact CI.w [] Tryz.func238
instance yi6 {n a0 a1}:CI E0 (zi7 n a0 a1) true 239 [aI a0,z08 a1] (fun r=>.bool (r)):=by unfold zi7;exact CI.w [1] Tryz.func239
instance ycn {n a0}:CI E0 (zfh n a0) true 211 [z0l a0] aI:=by unfold zfh;exact CI.w [4] Tryz.func211
instance yjz {n a0}:CI E0 (zji n a0) true 183 [z0l a0] aI:=⟨fun {r} hF=>by
 unfold zji at hF
 refine cw Tryz.func183 ?_
 repeat' first
  |refine AW.jI hF (fun v hF=>?_) fun hF=>?_
  |refine AW.jI2 hF (fun v hF=>?_) fun hF=>?_
  |refine AW.regO hF fun hF=>?_
  |refine AW.stepU [7,10,12,13,17] ?_;conv=>whnf
  |refine z17.o hF (fun hF=>?_) fun hF=>?_
  |refine z17.t ?_
  |refine z17.f ?_
  |refine z1n.I hF fun a hF=>?_
  |exact ⟨_,hF,LeX.a []⟩
  |exact ⟨(),hF,LeX.a []⟩
  |refine EqX.A ?_
  |exact RetX.oB hF⟩
def y7u (r:Int):AV:=aI (r)
theorem zvy {n a0 r}(hF:ze3 n a0=some r):Con E0 true 151 [z0l a0,.fn 183 []] (aI r):=by
 induction n generalizing a0 r
 case zero=>cases hF
 case succ n ih =>
 unfold ze3 at hF
 refine cw Tryz.func151 ?_
 repeat' first
  |refine AW.step ?_;conv=>whnf
  |refine z17.o hF (fun hF=>?_) fun hF=>?_
  |refine z1n.I hF fun a hF=>?_
  |refine IdxX.oD hF z40 (fun x hF=>?_)
  |refine z1n.o hF y7u (fun a h=>ih h) (fun a hF=>?_)
  |exact ⟨_,hF,LeX.a []⟩
  |refine z8k.I hF (LeX.a []) fun m v hF=>?_
  |exact RetX.oB hF
instance yi5 {n a0}:CI E0 (ze3 n a0) true 151 [z0l a0,.fn 183 []] aI:=⟨zvy⟩
instance yi9 {n a0}:CI E0 (ze5 n a0) true 143 [z0l a0] aI:=by unfold ze5;exact CI.w [] Tryz.func143
instance y83 {n a0 a1}:CI E0 (z3y n a0 a1) true 140 [aI a0,aI a1] (fun r=>.bool (r)):=by unfold z3y;exact CI.w [1] Tryz.func140
end
noncomputable section
abbrev zpm {n b a0 c}:=li (z9u n b a0 c) (fun d=>⟨[(0,.sl 11 (a0.map z0t)),(1,.fn 142 [.ref (zjb b)]),(7,aI (((a0.map z0t).length:Int))),(8,aI d)],[]⟩) fun _ _=>z9u.eq_2 ..
abbrev zq8 {n a1 a0 b c d}:=jf (z5d n a1 a0 b c d) (fun e=>⟨[(1,.sl 11 (a1.map z0t)),(2,.ptr 2 0),(5,aI b),(6,.ptr 6 0),(11,.sl 11 (a1.map z0t)),(12,aI (((a1.map z0t).length:Int))),(13,aI b),(18,.bool (e))],[(2,.box 25 (z0g a0)),(6,.box 154 (zjb d))]⟩) fun _=>z5d.eq_1 ..
abbrev zq7 {n a1 a0 b}:=li (z36 n a1 a0 b) (fun c=>⟨[(1,.sl 11 (a1.map z0t)),(2,.ptr 2 0),(11,.sl 11 (a1.map z0t)),(12,aI (((a1.map z0t).length:Int))),(13,aI c)],[(2,.box 25 (z0g a0))]⟩) fun _ _=>z36.eq_2 ..
abbrev zpf {n a0 b}:=li (z96 n a0 b) (fun c=>⟨[(3,.row 7016),(6,.sl 2 (a0.map z26)),(7,aI (((a0.map z26).length:Int))),(8,aI c.1)],[(7016,.row 3 1 (c.2.map aI))]⟩) fun _ _=>z96.eq_2 ..
abbrev zu9 {n a1 a0 b}:=li (zck n a1 a0 b) (fun c=>⟨[(0,.sl 1 (a0.map aI)),(1,aI a1),(7,aI (((a0.map aI).length:Int))),(8,aI c)],[]⟩) fun _ _=>zck.eq_2 ..
abbrev zq5 {n a1 a0 c b d}:=li (z3z n a1 a0 c b d) (fun e=>⟨[(2,.ptr 2 0),(6,.sl 1 (b.map aI)),(9,.sl 1 (List.map (fun q=>AV.sl 1 (List.map aI q)) (a1))),(10,aI ((((List.map (fun q=>AV.sl 1 (List.map aI q)) (a1)).length:Nat):Int))),(11,aI c),(15,.sl 1 (b.map aI)),(16,aI (((b.map aI).length:Int))),(17,aI e)],[(2,.box 25 (z0g a0))]⟩) fun _ _=>z3z.eq_2 ..
abbrev zq6 {n a1 a0 b}:=li (z5c n a1 a0 b) (fun c=>⟨[(2,.ptr 2 0),(9,.sl 1 (List.map (fun q=>AV.sl 1 (List.map aI q)) (a1))),(10,aI ((((List.map (fun q=>AV.sl 1 (List.map aI q)) (a1)).length:Nat):Int))),(11,aI c)],[(2,.box 25 (z0g a0))]⟩) fun _ _=>z5c.eq_2 ..
abbrev zq9 {n}:=jf (z84 n) (fun b=>⟨[(2,.bool (b))],[]⟩) fun _=>z84.eq_1 ..
abbrev zkz {n a0 b}:=li (z6e n a0 b) (fun c=>⟨[(0,.sl 2 (a0.map z26)),(1,.fn 147 []),(7,aI (((a0.map z26).length:Int))),(8,aI c)],[]⟩) fun _ _=>z6e.eq_2 ..
attribute [instance] zpm zq8 zq7 zpf zu9 zq5 zq6 zq9 zkz
instance y4j {n a0 a1}:CI E0 (zak n a0 a1) true 142 [z0t a0,.ref (zjb a1)] (fun r=>.bool (r)):=by unfold zak;exact CI.w [] Tryz.func142
instance y7z {n a0 b}:CI E0 (zdx n a0 b) true 181 [.sl 11 (a0.map z0t),.fn 142 [.ref (zjb b)]] aI:=by unfold zdx;exact CI.w [] Tryz.func181
instance y38 {n a0 b}:CI E0 (z9w n a0 b) true 141 [.sl 11 (a0.map z0t),.fn 142 [.ref (zjb b)]] (fun r=>.bool (r)):=by unfold z9w;exact CI.w [] Tryz.func141
instance y85 {n a0 a1}:CI E0 (ze7 n a0 a1) true 104 [z0n a0,.sl 11 (a1.map z0t)] aI:=⟨fun {r} hF=>by
 unfold ze7 at hF
 refine cw Tryz.func104 ?_
 repeat' first
  |refine AW.jI hF (fun v hF=>?_) fun hF=>?_
  |refine AW.regO hF fun hF=>?_
  |refine AW.stepU [6] ?_;conv=>whnf
  |refine z17.o hF (fun hF=>?_) fun hF=>?_
  |refine z17.t ?_
  |refine IdxX.A hF fun x hF=>?_
  |refine SlsX.o z0t hF (fun l hF=>?_)
  |refine zaq.I hF (fun a hF=>?_) rfl rfl fun _=>Or.inr rfl
  |refine z1n.I hF fun a hF=>?_
  |exact ⟨_,hF,LeX.a []⟩
  |refine z8k.I hF (LeX.a []) fun m v hF=>?_
  |exact RetX.oB hF⟩
instance y7c {n a0}:CI E0 (zbc n a0) false 145 [.sl 2 (a0.map z26)] (fun r=>.sl 1 (r.map aI)):=⟨fun {r} hF=>by
 unfold zbc at hF
 refine cw Tryz.func145 ?_
 repeat' first
  |refine AW.step ?_;conv=>whnf
  |refine z17.o hF (fun hF=>?_) fun hF=>?_
  |refine IdxX.A hF fun x hF=>?_
  |refine AppX.oA hF fun l hF=>?_
  |exact ⟨_,hF,LeX.a [(7016,16)]⟩
  |refine z8k.I hF ?_ fun m v hF=>?_
  |exact LeX.trans (LeX.adopt 3 7016 3 1 rfl rfl) (LeX.a [])
  |exact RetX.oB hF⟩
instance ye8 {n a0 a1}:CI E0 (zhw n a0 a1) true 212 [.sl 1 (a0.map aI),aI a1] aI:=by unfold zhw;exact CI.w [] Tryz.func212
instance y9n {n a0 a1}:CI E0 (z8d n a0 a1) true 184 [.sl 1 (a0.map aI),aI a1] (fun r=>.bool (r)):=by unfold z8d;exact CI.w [] Tryz.func184
instance y84 {n a0 a1}:CI E0 (ze6 n a0 a1) true 144 [z0n a0,.sl 1 (List.map (fun q=>AV.sl 1 (List.map aI q)) (a1))] aI:=⟨fun {r} hF=>by
 unfold ze6 at hF
 refine cw Tryz.func144 ?_
 repeat' first
  |refine AW.step ?_;conv=>whnf
  |refine z17.o hF (fun hF=>?_) fun hF=>?_
  |refine IdxX.o (fun q=>AV.sl 1 (List.map aI q)) hF fun x hF=>?_
  |exact ⟨_,hF,LeX.a []⟩
  |refine IdxX.A hF fun x hF=>?_
  |refine z1n.I hF fun a hF=>?_
  |refine SlsX.o aI hF (fun l hF=>?_)
  |refine z8k.I hF (LeX.a []) fun m v hF=>?_
  |exact RetX.oB hF⟩
instance y86 {n a0}:CI E0 (zac n a0) true 147 [z26 a0] (fun r=>.bool (r)):=by unfold zac;exact CI.w [1] Tryz.func147
instance y1b {n a0}:CI E0 (zb1 n a0) true 185 [.sl 2 (a0.map z26),.fn 147 []] aI:=by unfold zb1;exact CI.w [] Tryz.func185
instance zy9 {n a0}:CI E0 (z6f n a0) true 146 [.sl 2 (a0.map z26),.fn 147 []] (fun r=>.bool (r)):=by unfold z6f;exact CI.w [] Tryz.func146
end
noncomputable section
abbrev zsx {n a1 a0 b}:=li (zbd n a1 a0 b) (fun c=>⟨[(3,.ptr 3 0),(4,.ptr 4 0),(63,.sl 8 (a1.fChecks.map idA)),(64,aI (((a1.fChecks.map idA).length:Int))),(65,aI c)],[(3,.box 25 (z0g a0)),(4,.box 115 (z2a a1))]⟩) fun _ _=>zbd.eq_2 ..
abbrev zsy {n a2 a1 a0}:=jf (z20 n a2 a1 a0) (fun b=>⟨[(2,aI a2),(3,.ptr 3 0),(4,.ptr 4 0),(12,.bool (b))],[(3,.box 25 (z0g a0)),(4,.box 115 (z2a a1))]⟩) fun _=>z20.eq_1 ..
abbrev zrq {n a0 b}:=li (zal n a0 b) (fun c=>⟨[(1,.ptr 1 0),(6,aI c.1),(62,.sl 17 (a0.fEdges.map z0v)),(63,aI (((a0.fEdges.map z0v).length:Int))),(64,aI c.2)],[(1,.box 25 (z0g a0))]⟩) fun _ _=>zal.eq_2 ..
abbrev zrr {n a0 b}:=li (zam n a0 b) (fun c=>⟨[(1,.ptr 1 0),(47,.sl 1 (a0.fStates.map z0p)),(48,aI (((a0.fStates.map z0p).length:Int))),(49,aI c)],[(1,.box 25 (z0g a0))]⟩) fun _ _=>zam.eq_2 ..
abbrev zrs {n a0}:=jf (z3i n a0) (fun b=>⟨[(1,.ptr 1 0),(29,.bool (b))],[(1,.box 25 (z0g a0))]⟩) fun _=>z3i.eq_1 ..
abbrev zrt {n a0}:=jf (z2r n a0) (fun b=>⟨[(1,.ptr 1 0),(10,.bool (b))],[(1,.box 25 (z0g a0))]⟩) fun _=>z2r.eq_1 ..
abbrev znf {n}:=jf (z3t n) (fun b=>⟨[(2,.bool (b))],[]⟩) fun _=>z3t.eq_1 ..
abbrev zm0 {n}:=jf (z2e n) (fun b=>⟨[(58,.bool (b))],[]⟩) fun _=>z2e.eq_1 ..
abbrev zlz {n}:=jf (z4y n) (fun b=>⟨[(70,.bool (b))],[]⟩) fun _=>z4y.eq_1 ..
abbrev zm1 {n a0}:=jf (z4z n a0) (fun b=>⟨[(1,.ptr 1 0),(23,.bool (b))],[(1,.box 313 (zev a0))]⟩) fun _=>z4z.eq_1 ..
abbrev zm2 {n a0}:=jf (z51 n a0) (fun b=>⟨[(1,.ptr 1 0),(15,.bool (b))],[(1,.box 313 (zev a0))]⟩) fun _=>z51.eq_1 ..
abbrev zoz {n a0}:=jt (z4l n a0) (fun b=>⟨[(4,.ptr 4 0),(8,.ptr 8 0)],[(4,.box 313 [aI 0,aI 0,aI 0,aI 0,.str (ByteArray.empty)]),(8,.box 313 [aI a0.fKind,aI ((IntKind.wrap .i64 (a0.fCount+1))),aI b.1,aI b.2.1,.str (b.2.2)])]⟩) fun _=>z4l.eq_1 ..
abbrev zkw {n a1 a0}:=jf (z48 n a1 a0) (fun b=>⟨[(2,.ptr 2 0),(3,.ptr 3 0),(4,.ptr 4 0),(35,.bool (b))],[(2,.box 313 (zev a0)),(3,.box 109 (z27 a1)),(4,.box 109 [aI 0,aI 0,.str (ByteArray.empty)])]⟩) fun _=>z48.eq_1 ..
abbrev zpk {n a2 a1 c}:=li (z9q n a2 a1 c) (fun b=>⟨[(1,.sl 3 (a1.map z08)),(5,.ptr 5 0),(6,.ptr 6 0),(8,.ptr 8 0),(9,aI b.1)],[(5,.box 109 (z27 a2)),(6,.box 109 [aI 0,aI 0,.str (ByteArray.empty)]),(8,.box 313 [aI b.2.1,aI b.2.2.1,aI b.2.2.2.1,aI b.2.2.2.2.1,.str (b.2.2.2.2.2)])]⟩) fun _ _=>z9q.eq_2 ..
attribute [instance] zsx zsy zrq zrr zrs zrt znf zm0 zlz zm1 zm2 zoz zkw zpk
instance ycp {n a0 a1 a2}:CI E0 (zfi n a0 a1 a2) true 105 [z0n a0,z0v a1,aI a2] aI:=⟨fun {r} hF=>by
 unfold zfi at hF
 refine cw Tryz.func105 ?_
 repeat' first
  |refine AW.jI hF (fun v hF=>?_) fun hF=>?_
  |refine AW.regO hF fun hF=>?_
  |refine AW.stepU [1] ?_;conv=>whnf
  |refine z17.o hF (fun hF=>?_) fun hF=>?_
  |refine z17.t ?_
  |refine z1n.I hF fun a hF=>?_
  |refine IdxX.oD hF z40 (fun x hF=>?_)
  |exact ⟨_,hF,LeX.a []⟩
  |refine z8k.I hF (LeX.a []) fun m v hF=>?_
  |refine AndA ?_
  |exact RetX.oB hF⟩
instance ya0 {n a0}:CI E0 (zbe n a0) true 69 [z0n a0] aI:=by unfold zbe;exact CI.w [1,3] Tryz.func69
instance y4d {n a0}:CI E0 (zae n a0) true 273 [aI a0] (fun r=>.bool (r)):=by unfold zae;exact CI.w [1] Tryz.func273
instance y33 {n a0}:CI E0 (z9r n a0) true 277 [z37 a0] aI:=by unfold z9r;exact CI.w [3,5,11,14] Tryz.func277
instance y31 {n a0 a1}:CI E0 (z9p n a0 a1) true 278 [aI a0,z08 a1] aI:=by unfold z9p;exact CI.w [] Tryz.func278
instance zzn {n a0 a1 a2}:CI E0 (za6 n a0 a1 a2) true 279 [aI a0,z08 a1,z08 a2] z08:=by unfold za6;exact CI.w [] Tryz.func279
instance y6w {n a0 a1}:CI E0 (zd2 n a0 a1) true 274 [z37 a0,z08 a1] (fun r=>.tup [z37 r.1,aI r.2]):=by unfold zd2;exact CI.w [10,12] Tryz.func274
instance y17 {n a0 a1}:CI E0 (z91 n a0 a1) true 275 [z37 a0,z08 a1] (fun r=>.tup [z08 r.1,aI r.2]):=by unfold z91;exact CI.w [9] Tryz.func275
end
noncomputable section
abbrev zkv {n a1 a0}:=jf (z47 n a1 a0) (fun b=>⟨[(1,aI a1),(2,.ptr 2 0),(13,.bool (b))],[(2,.box 220 (zcv a0))]⟩) fun _=>z47.eq_1 ..
abbrev zn7 {n a0 x2 b}:=li (z8b n a0 x2 b) (fun c=>⟨[(4,.ptr 4 0),(8,.ptr 8 0),(10,.row 7063),(11,.sl 5 (x2.map z02)),(12,aI c.1)],[(4,.box 111 (z8s a0)),(8,.box 109 [aI 0,aI 0,.str (ByteArray.empty)]),(7063,.row 109 3 (c.2.map z08))]⟩) fun _ _=>z8b.eq_2 ..
abbrev ziu {n}:=jt (z28 n) (fun b=>⟨[(9,.bool (b))],[]⟩) fun _=>z28.eq_1 ..
abbrev ziv {n a0}:=jt (z1s n a0) (fun b=>⟨[(3,aI a0),(4,.bool (b))],[]⟩) fun _=>z1s.eq_1 ..
abbrev zit {n a1 a0 b c}:=jf (z1j n a1 a0 b c) (fun d=>⟨[(0,aI a0),(1,.sl 1 (a1.map aI)),(5,aI b),(38,.bool (d))],[]⟩) fun _=>z1j.eq_1 ..
abbrev zis {n a1 a0 b}:=li (z1c n a1 a0 b) (fun c=>⟨[(0,aI a0),(1,.sl 1 (a1.map aI)),(5,aI c)],[]⟩) fun _ _=>z1c.eq_2 ..
abbrev zlt {n}:=jf (z4v n) (fun b=>⟨[(4,.ptr 4 0)],[(4,.box 109 [aI b.1,aI b.2.1,.str (b.2.2)])]⟩) fun _=>z4v.eq_1 ..
abbrev zls {n}:=jf (z4u n) (fun b=>⟨[(4,.ptr 4 0)],[(4,.box 109 [aI b.1,aI b.2.1,.str (b.2.2)])]⟩) fun _=>z4u.eq_1 ..
abbrev zne {n b a3 a2 a1 a0 d}:=li (z8c n b a3 a2 a1 a0 d) (fun c=>⟨[(2,aI a2),(4,.ptr 4 0),(5,.ptr 5 0),(7,.ptr 7 0),(8,.ptr 8 0),(10,.row 7053),(11,.row 7058),(12,aI c.1)],[(4,.box 111 (z8s a0)),(5,.box 220 (zcv a1)),(7,.box 71 (z16 a3)),(8,.box 109 [aI 0,aI 0,.str (ByteArray.empty)]),(7053,.row 109 3 (c.2.1.map z08)),(7058,.row 3 1 (c.2.2.map aI))]⟩) fun _ _=>z8c.eq_2 ..
abbrev zlu {n}:=jf (z4w n) (fun b=>⟨[(8,.bool (b))],[]⟩) fun _=>z4w.eq_1 ..
attribute [instance] zkv zn7 ziu ziv zit zis zlt zls zne zlu
instance y7y {n a0 a1 a2}:CI E0 (zbs n a0 a1 a2) true 266 [aI a0,.sl 3 (a1.map z08),z08 a2] (fun r=>.tup [z08 r.1,aI r.2]):=by unfold zbs;exact CI.w [] Tryz.func266
instance y16 {n a0 a1}:CI E0 (z6w n a0 a1) false 265 [zcs a0,aI a1] (fun r=>.sl 5 (r.map z02)):=⟨fun {r} hF=>by
 unfold z6w at hF
 refine cw Tryz.func265 ?_
 repeat' first
  |refine AW.jI hF (fun v hF=>?_) fun hF=>?_
  |refine AW.regO hF fun hF=>?_
  |refine AW.stepU [1] ?_;conv=>whnf
  |refine z17.o hF (fun hF=>?_) fun hF=>?_
  |refine IdxX.o (fun q=>AV.sl 5 (List.map z02 q)) hF fun x hF=>?_
  |exact ⟨_,hF,LeX.a []⟩
  |exact RetX.oB hF⟩
instance y49 {n a0 a1 a2 a3}:CI E0 (zep n a0 a1 a2 a3) false 267 [zcs a0,aI a1,aI a2,z02 a3] (fun r=>.tup [z02 r.1,.bool (r.2)]):=by unfold zep;exact CI.w [] Tryz.func267
instance y47 {n a0 a1 a2 a3}:CI E0 (zad n a0 a1 a2 a3) true 248 [z0l a0,zcs a1,aI a2,z02 a3] (fun r=>.tup [z08 r.1,aI r.2]):=⟨fun {r} hF=>by
 unfold zad at hF
 refine cw Tryz.func248 ?_
 repeat' first
  |refine AW.step ?_;conv=>whnf
  |refine z17.o hF (fun hF=>?_) fun hF=>?_
  |refine z1n.I hF fun a hF=>?_
  |refine zaq.I hF (fun a hF=>?_) rfl rfl fun _=>Or.inr rfl
  |refine IdxX.A hF fun x hF=>?_
  |refine AppX.oA hF fun l hF=>?_
  |exact ⟨_,hF,LeX.a [(7063,63)]⟩
  |refine z8k.I hF ?_ fun m v hF=>?_
  |exact LeX.trans (LeX.adopt 10 7063 109 3 rfl rfl) (LeX.a [])
  |refine AndA ?_
  |exact RetX.oB hF⟩
instance zyw {n a0}:CI E0 (z9o n a0) true 268 [aI a0] aI:=by unfold z9o;exact CI.w [2,3,4,7,8] Tryz.func268
instance zyv {n a0 a1}:CI E0 (zbr n a0 a1) true 249 [aI a0,.sl 1 (a1.map aI)] aI:=by unfold zbr;exact CI.w [5] Tryz.func249
instance y4b {n a0}:CI E0 (z1k n a0) true 68 [.bool (a0)] z08:=by unfold z1k;exact CI.w [] Tryz.func68
instance y2w {n a0 a1}:CI E0 (z7y n a0 a1) true 250 [aI a0,.sl 3 (a1.map z08)] z08:=by unfold z7y;exact CI.w [13,15] Tryz.func250
def zry (r:z05×Int):AV:=.tup [.agg [aI (r.1.fKind),aI (r.1.fNum),.str (r.1.fText)],aI (r.2)]
theorem zmn {n a0 a1 a2 a3 r}(hF:z4p n a0 a1 a2 a3=some r):Con E0 true 228 [z0l a0,zcs a1,aI a2,z02 a3] (.tup [z08 r.1,aI r.2]):=by
 induction n generalizing a0 a1 a2 a3 r
 case zero=>cases hF
 case succ n ih =>
 unfold z4p at hF
 refine cw Tryz.func228 ?_
 repeat' first
  |refine AW.step ?_;conv=>whnf
  |refine z17.o hF (fun hF=>?_) fun hF=>?_
  |refine z1n.I hF fun a hF=>?_
  |refine zaq.I hF (fun a hF=>?_) rfl rfl fun _=>Or.inr rfl
  |refine IdxX.oD hF z40 (fun x hF=>?_)
  |refine z1n.o hF zry (fun a h=>ih h) (fun a hF=>?_)
  |refine AppX.oA hF fun l hF=>?_
  |exact ⟨_,hF,LeX.a [(7053,53),(7058,58)]⟩
  |refine z8k.I hF ?_ fun m v hF=>?_
  |exact LeX.trans (LeX.adopt 10 7053 109 3 rfl rfl) (LeX.trans (LeX.adopt 11 7058 3 1 rfl rfl) (LeX.a []))
  |refine AndA ?_
  |exact RetX.oB hF
instance y4a {n a0 a1 a2 a3}:CI E0 (z4p n a0 a1 a2 a3) true 228 [z0l a0,zcs a1,aI a2,z02 a3] (fun r=>.tup [z08 r.1,aI r.2]):=⟨zmn⟩
instance y4c {n a0 a1 a2 a3}:CI E0 (zeq n a0 a1 a2 a3) true 197 [z0l a0,zcs a1,aI a2,z02 a3] (fun r=>.tup [z08 r.1,aI r.2]):=by unfold zeq;exact CI.w [] Tryz.func197
end
noncomputable section
abbrev zjw {n a1 a0 b c d}:=jf (z3l n a1 a0 b c d) (fun e=>⟨[(2,.ptr 2 0),(3,.ptr 3 0),(5,aI b),(18,.bool (e))],[(2,.box 44 (zcu a0)),(3,.box 44 (zcu a1))]⟩) fun _=>z3l.eq_1 ..
abbrev zjv {n a1 a0 b}:=li (z2o n a1 a0 b) (fun c=>⟨[(2,.ptr 2 0),(3,.ptr 3 0),(5,aI c)],[(2,.box 44 (zcu a0)),(3,.box 44 (zcu a1))]⟩) fun _ _=>z2o.eq_2 ..
abbrev zjt {n a1 a0 b c d e}:=jf (z2n n a1 a0 b c d e) (fun f=>⟨[(2,.ptr 2 0),(3,.ptr 3 0),(6,aI b),(7,.ptr 7 0),(8,.ptr 8 0),(71,.bool (f))],[(2,.box 60 (z12 a0)),(3,.box 60 (z12 a1)),(7,.box 102 (zsu d)),(8,.box 102 (zsu e))]⟩) fun _=>z2n.eq_1 ..
abbrev zju {n a1 a0 b c d}:=jf (z3k n a1 a0 b c d) (fun e=>⟨[(2,.ptr 2 0),(3,.ptr 3 0),(6,aI b),(40,.bool (e))],[(2,.box 60 (z12 a0)),(3,.box 60 (z12 a1))]⟩) fun _=>z3k.eq_1 ..
abbrev zjs {n a1 a0 b}:=li (z2m n a1 a0 b) (fun c=>⟨[(2,.ptr 2 0),(3,.ptr 3 0),(6,aI c)],[(2,.box 60 (z12 a0)),(3,.box 60 (z12 a1))]⟩) fun _ _=>z2m.eq_2 ..
abbrev zoj {n a1 a0 b}:=jf (z6p n a1 a0 b) (fun c=>⟨[(0,.sl 3 (a0.map z01)),(3,.ptr 3 0),(5,aI b),(34,.bool (c))],[(3,.box 60 (z12 a1))]⟩) fun _=>z6p.eq_1 ..
abbrev zoi {n a1 a0 b c d}:=jf (z6o n a1 a0 b c d) (fun e=>⟨[(0,.sl 3 (a0.map z01)),(3,.ptr 3 0),(5,aI b),(19,.bool (e))],[(3,.box 60 (z12 a1))]⟩) fun _=>z6o.eq_1 ..
abbrev zoh {n a1 a0 b}:=li (z4g n a1 a0 b) (fun c=>⟨[(0,.sl 3 (a0.map z01)),(3,.ptr 3 0),(5,aI c)],[(3,.box 60 (z12 a1))]⟩) fun _ _=>z4g.eq_2 ..
abbrev zrv {n}:=jf (z6n n) (fun b=>⟨[(2,.bool (b))],[]⟩) fun _=>z6n.eq_1 ..
abbrev zru {n}:=jf (z4q n) (fun b=>⟨[(4,.bool (b))],[]⟩) fun _=>z4q.eq_1 ..
attribute [instance] zjw zjv zjt zju zjs zoj zoi zoh zrv zru
instance y2x {n a0 a1 a2 a3}:CI E0 (z32 n a0 a1 a2 a3) true 170 [z0l a0,zcs a1,aI a2,z02 a3] (fun r=>.bool (r)):=by unfold z32;exact CI.w [2] Tryz.func170
instance y34 {n a0 a1}:CI E0 (z9s n a0 a1) true 90 [z1e a0,z1e a1] aI:=by unfold z9s;exact CI.w [] Tryz.func90
instance y2r {n a0 a1}:CI E0 (zbj n a0 a1) true 55 [z0b a0,z0b a1] aI:=by unfold zbj;exact CI.w [] Tryz.func55
instance zzm {n a0 a1}:CI E0 (z2s n a0 a1) true 21 [z0c a0,z0c a1] aI:=by unfold z2s;exact CI.w [2] Tryz.func21
instance zzl {n a0 a1}:CI E0 (z89 n a0 a1) true 29 [z01 a0,z01 a1] aI:=by unfold z89;exact CI.w [9,12] Tryz.func29
instance y6o {n a0 a1}:CI E0 (z9e n a0 a1) false 103 [.sl 3 (a0.map z01),z01 a1] (fun r=>.sl 3 (r.map z01)):=⟨fun {r} hF=>by
 unfold z9e at hF
 refine cw Tryz.func103 ?_
 repeat' first
  |refine AW.jI hF (fun v hF=>?_) fun hF=>?_
  |refine AW.regO hF fun hF=>?_
  |refine AW.stepU [2,4] ?_;conv=>whnf
  |refine z17.o hF (fun hF=>?_) fun hF=>?_
  |refine SlsX.o z01 hF (fun l hF=>?_)
  |refine AppX.oA0 hF fun l hF=>?_
  |refine AppX.oA hF fun l hF=>?_
  |refine IdxX.A hF fun x hF=>?_
  |refine z1n.I hF fun a hF=>?_
  |exact ⟨_,hF,LeX.a []⟩
  |refine z8k.I hF (LeX.a []) fun m v hF=>?_
  |refine AndA ?_
  |exact RetX.oB hF⟩
instance ya3 {n a0}:CI E0 (zcq n a0) true 280 [aI a0] (fun r=>.bool (r)):=by unfold zcq;exact CI.w [1] Tryz.func280
instance ya2 {n a0 a1}:CI E0 (zcp n a0 a1) true 287 [aI a0,z08 a1] (fun r=>.bool (r)):=by unfold zcp;exact CI.w [1] Tryz.func287
instance ya1 {n a0 a1}:CI E0 (zbf n a0 a1) true 281 [aI a0,z08 a1] aI:=by unfold zbf;exact CI.w [] Tryz.func281
instance y87 {n a0 a1}:CI E0 (zft n a0 a1) true 285 [aI a0,z08 a1] z08:=by unfold zft;exact CI.w [] Tryz.func285
instance y3f {n}:CI E0 (zee n) true 290 [] z08:=by unfold zee;exact CI.w [] Tryz.func290
def zqu (m0:z05)(m1:z05):List (Nat×Ent):=[(100000,.box 109 (z27 m0)),(100001,.box 109 (z27 m1))]
def zdu (r:z05×z05×z05):List (Nat×Ent):=[(2,.box 109 (z27 r.1)),(100000,.box 109 (z27 r.2.1)),(100001,.box 109 (z27 r.2.2))]
def zg2 (r:z05×z05×z05):AV:=.agg [aI (r.1.fKind),aI (r.1.fNum),.str (r.1.fText)]
def zqi (r:z05×z05×z05):AS:=⟨[(2,.ptr 2 0),(0,.ptr 100000 0),(1,.ptr 100001 0)],zdu r⟩
end
noncomputable section
abbrev zqa {n c a1 d}:=li (za1 n c a1 d) (fun b=>⟨[(2,.fn 283 [.ref [aI c]]),(3,.ptr 3 0),(6,.ptr 6 0),(9,.sl 3 (a1.map z08)),(10,aI (((a1.map z08).length:Int))),(11,aI b.1)],[(3,.box 313 [aI b.2.1,aI b.2.2.1,aI b.2.2.2.1,aI b.2.2.2.2.1,.str (b.2.2.2.2.2)]),(6,.box 313 [aI 0,aI 0,aI 0,aI 0,.str (ByteArray.empty)])]⟩) fun _ _=>za1.eq_2 ..
abbrev zrw {n a0}:=jf (z8p n a0) (fun b=>⟨[(1,.ptr 1 0),(10,.bool (b))],[(1,.box 313 (zev a0))]⟩) fun _=>z8p.eq_1 ..
abbrev zqb {n a1 a0}:=jf (z85 n a1 a0) (fun b=>⟨[(2,.ptr 2 0),(3,.ptr 3 0),(4,.ptr 4 0),(29,.bool (b))],[(2,.box 313 (zev a0)),(3,.box 109 (z27 a1)),(4,.box 109 [aI 0,aI 0,.str (ByteArray.empty)])]⟩) fun _=>z85.eq_1 ..
abbrev zuv {n a2 a1 a0 b}:=li (zcr n a2 a1 a0 b) (fun c=>⟨[(1,.sl 3 (a1.map z08)),(3,.ptr 3 0),(5,.ptr 5 0),(6,.ptr 6 0),(22,.sl 3 (a1.map z08)),(23,aI (((a1.map z08).length:Int))),(24,aI c)],[(3,.box 3 [aI a0]),(5,.box 109 (z27 a2)),(6,.box 109 [aI 0,aI 0,.str (ByteArray.empty)])]⟩) fun _ _=>zcr.eq_2 ..
attribute [instance] zqa zrw zqb zuv
theorem zo2 {n m0 m1 r}(hF:zed n m0 m1=some r):ConG E0.P none (CalF E0.P 291 0) [.ptr 100000 0,.ptr 100001 0] [] (zqu m0 m1) (zg2 r) (zdu r):=by
 unfold zed at hF
 refine ConG.walk (E:=(E0p 2)) (caps:=[]) _ Tryz.func291 rfl rfl rfl rfl rfl ?_
 repeat' first
  |refine AW.step ?_;conv=>whnf
  |exact GX.A (res:=zg2) (meF:=zdu) hF zqi
def zqt (m0:z05)(m1:z05):List (Nat×Ent):=[(100000,.box 109 (z27 m0)),(100001,.box 109 (z27 m1))]
def zdt (r:z05×z05×z05):List (Nat×Ent):=[(2,.box 109 (z27 r.1)),(100000,.box 109 (z27 r.2.1)),(100001,.box 109 (z27 r.2.2))]
def zg1 (r:z05×z05×z05):AV:=.agg [aI (r.1.fKind),aI (r.1.fNum),.str (r.1.fText)]
def zqh (r:z05×z05×z05):AS:=⟨[(2,.ptr 2 0),(0,.ptr 100000 0),(1,.ptr 100001 0)],zdt r⟩
theorem zo1 {n m0 m1 r}(hF:zec n m0 m1=some r):ConG E0.P none (CalF E0.P 292 0) [.ptr 100000 0,.ptr 100001 0] [] (zqt m0 m1) (zg1 r) (zdt r):=by
 unfold zec at hF
 refine ConG.walk (E:=(E0p 2)) (caps:=[]) _ Tryz.func292 rfl rfl rfl rfl rfl ?_
 repeat' first
  |refine AW.step ?_;conv=>whnf
  |exact GX.A (res:=zg1) (meF:=zdt) hF zqh
def zqs (m0:z05)(m1:z05):List (Nat×Ent):=[(100000,.box 109 (z27 m0)),(100001,.box 109 (z27 m1))]
def zds (r:z05×z05×z05):List (Nat×Ent):=[(2,.box 109 (z27 r.1)),(100000,.box 109 (z27 r.2.1)),(100001,.box 109 (z27 r.2.2))]
def zg0 (r:z05×z05×z05):AV:=.agg [aI (r.1.fKind),aI (r.1.fNum),.str (r.1.fText)]
def zqg (r:z05×z05×z05):AS:=⟨[(2,.ptr 2 0),(0,.ptr 100000 0),(1,.ptr 100001 0)],zds r⟩
theorem zo0 {n m0 m1 r}(hF:zeb n m0 m1=some r):ConG E0.P none (CalF E0.P 293 0) [.ptr 100000 0,.ptr 100001 0] [] (zqs m0 m1) (zg0 r) (zds r):=by
 unfold zeb at hF
 refine ConG.walk (E:=(E0p 2)) (caps:=[]) _ Tryz.func293 rfl rfl rfl rfl rfl ?_
 repeat' first
  |refine AW.step ?_;conv=>whnf
  |exact GX.A (res:=zg0) (meF:=zds) hF zqg
def zqr (m0:z05):List (Nat×Ent):=[(100000,.box 109 (z27 m0))]
def zdr (r:z05×z05):List (Nat×Ent):=[(1,.box 109 (z27 r.1)),(100000,.box 109 (z27 r.2))]
def zfz (r:z05×z05):AV:=.agg [aI (r.1.fKind),aI (r.1.fNum),.str (r.1.fText)]
def zqf (r:z05×z05):AS:=⟨[(1,.ptr 1 0),(0,.ptr 100000 0)],zdr r⟩
theorem znz {n m0 r}(hF:zea n m0=some r):ConG E0.P none (CalF E0.P 294 0) [.ptr 100000 0] [] (zqr m0) (zfz r) (zdr r):=by
 unfold zea at hF
 refine ConG.walk (E:=(E0p 1)) (caps:=[]) _ Tryz.func294 rfl rfl rfl rfl rfl ?_
 repeat' first
  |refine AW.step ?_;conv=>whnf
  |exact GX.A (res:=zfz) (meF:=zdr) hF zqf
def zqq (m0:z05):List (Nat×Ent):=[(100000,.box 109 (z27 m0))]
def zdq (r:z05×z05):List (Nat×Ent):=[(1,.box 109 (z27 r.1)),(100000,.box 109 (z27 r.2))]
def zfy (r:z05×z05):AV:=.agg [aI (r.1.fKind),aI (r.1.fNum),.str (r.1.fText)]
def zqe (r:z05×z05):AS:=⟨[(1,.ptr 1 0),(0,.ptr 100000 0)],zdq r⟩
theorem zny {n m0 r}(hF:ze9 n m0=some r):ConG E0.P none (CalF E0.P 295 0) [.ptr 100000 0] [] (zqq m0) (zfy r) (zdq r):=by
 unfold ze9 at hF
 refine ConG.walk (E:=(E0p 1)) (caps:=[]) _ Tryz.func295 rfl rfl rfl rfl rfl ?_
 repeat' first
  |refine AW.step ?_;conv=>whnf
  |exact GX.A (res:=zfy) (meF:=zdq) hF zqe
instance y7d {n a0 a1 a2}:CI E0 (zdk n a0 a1 a2) true 288 [aI a0,z08 a1,z08 a2] z08:=⟨fun {r} hF=>by
 unfold zdk at hF
 refine cw Tryz.func288 ?_
 repeat' first
  |refine AW.step ?_;conv=>whnf
  |refine NatX.oS hF rfl (fun hF=>?_) (fun hF=>?_)
  |(cases hF;done)
  |refine z1n.I hF fun a hF=>?_
  |refine zaq.oM (z79 15 hF) [(100000,4),(100001,5)] [(2,16000000),(100000,4),(100001,5)] _ _ zdu zg2 [] (fun a h=>ConG.up (zo2 h)) (z0x Tryz.func291 rfl rfl) rfl rfl rfl ⟨⟨rfl,rfl⟩,⟨⟨rfl,rfl⟩,trivial⟩⟩ (fun a=>⟨rfl,rfl,rfl,rfl,rfl,rfl,rfl,rfl⟩) (fun a hF=>?_)
  |refine zaq.oM (z79 15 hF) [(100000,4),(100001,5)] [(2,16000000),(100000,4),(100001,5)] _ _ zdt zg1 [] (fun a h=>ConG.up (zo1 h)) (z0x Tryz.func292 rfl rfl) rfl rfl rfl ⟨⟨rfl,rfl⟩,⟨⟨rfl,rfl⟩,trivial⟩⟩ (fun a=>⟨rfl,rfl,rfl,rfl,rfl,rfl,rfl,rfl⟩) (fun a hF=>?_)
  |refine zaq.oM (z79 15 hF) [(100000,4),(100001,5)] [(2,16000000),(100000,4),(100001,5)] _ _ zds zg0 [] (fun a h=>ConG.up (zo0 h)) (z0x Tryz.func293 rfl rfl) rfl rfl rfl ⟨⟨rfl,rfl⟩,⟨⟨rfl,rfl⟩,trivial⟩⟩ (fun a=>⟨rfl,rfl,rfl,rfl,rfl,rfl,rfl,rfl⟩) (fun a hF=>?_)
  |refine zaq.oM (z79 15 hF) [(100000,4)] [(1,16000000),(100000,4)] _ _ zdr zfz [] (fun a h=>ConG.up (znz h)) (z0x Tryz.func294 rfl rfl) rfl rfl rfl ⟨⟨rfl,rfl⟩,trivial⟩ (fun a=>⟨rfl,rfl,rfl,rfl,rfl,rfl,rfl,rfl⟩) (fun a hF=>?_)
  |refine zaq.oM (z79 15 hF) [(100000,5)] [(1,16000000),(100000,5)] _ _ zdq zfy [] (fun a h=>ConG.up (zny h)) (z0x Tryz.func295 rfl rfl) rfl rfl rfl ⟨⟨rfl,rfl⟩,trivial⟩ (fun a=>⟨rfl,rfl,rfl,rfl,rfl,rfl,rfl,rfl⟩) (fun a hF=>?_)
  |exact RetX.oB hF⟩
instance y88 {n a0 a1}:CI E0 (zfu n a0 a1) true 284 [z37 a0,z37 a1] z37:=by unfold zfu;exact CI.w [] Tryz.func284
instance ycq {n a0 a1 a2}:CI E0 (zgx n a0 a1 a2) true 283 [z37 a0,z08 a1,.ref [aI a2]] z37:=by unfold zgx;exact CI.w [] Tryz.func283
instance y89 {n a0 a1 b}:CI E0 (ze8 n a0 a1 b) true 282 [z37 a0,.sl 3 (a1.map z08),.fn 283 [.ref [aI b]]] z37:=by unfold ze8;exact CI.w [] Tryz.func282
instance ya4 {n a0}:CI E0 (zf6 n a0) true 289 [z37 a0] aI:=by unfold zf6;exact CI.w [3,7,9,11,6] Tryz.func289
instance y8a {n a0 a1}:CI E0 (zbu n a0 a1) true 286 [z37 a0,z08 a1] (fun r=>.tup [z08 r.1,aI r.2]):=by unfold zbu;exact CI.w [9] Tryz.func286
instance yed {n a0 a1 a2}:CI E0 (zfp n a0 a1 a2) true 276 [aI a0,.sl 3 (a1.map z08),z08 a2] (fun r=>.tup [z08 r.1,aI r.2]):=⟨fun {r} hF=>by
 unfold zfp at hF
 refine cw Tryz.func276 ?_
 repeat' first
  |refine AW.step ?_;conv=>whnf
  |refine z17.o hF (fun hF=>?_) fun hF=>?_
  |refine z1n.I hF fun a hF=>?_
  |refine zaq.I hF (fun a hF=>?_) rfl rfl fun _=>Or.inr rfl
  |refine IdxX.A hF fun x hF=>?_
  |exact ⟨_,hF,LeX.a []⟩
  |refine z8k.I hF (LeX.a []) fun m v hF=>?_
  |exact RetX.oB hF⟩
instance yk4 {n a0}:CI E0 (zjk n a0) true 176 [aI a0] (fun r=>.bool (r)):=by unfold zjk;exact CI.w [] Tryz.func176
instance yh7 {n a0 a1}:CI E0 (z3e n a0 a1) true 135 [aI a0,aI a1] aI:=by unfold z3e;exact CI.w [] Tryz.func135
end
end Go.Proofs.YtidhlpjgifoneaaGreat
