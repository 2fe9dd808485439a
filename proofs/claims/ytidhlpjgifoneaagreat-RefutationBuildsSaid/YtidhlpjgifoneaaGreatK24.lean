/- What some functions compute, over plain values. -/
import Derived.Test.YtidhlpjgifoneaaGreatK23
set_option linter.unusedVariables false
set_option linter.unusedSimpArgs false
set_option maxRecDepth 100000
set_option maxHeartbeats 8000000
namespace Go.Proofs.YtidhlpjgifoneaaGreat
open Go.RowKit List
noncomputable section
abbrev zv2 {n a d b}:=li (zbl n a d b) (fun c=>⟨[(3,.ptr 3 0),(4,.ptr 4 0),(63,.sl 8 (a.fChecks.map idA)),(64,aI (((a.fChecks.map idA).length:Int))),(65,aI c)],[(3,.box 25 (z0d d)),(4,.box 115 (z1z a))]⟩) fun _ _=>zbl.eq_2 ..
abbrev zv3 {n a c d}:=jf (z20 n a c d) (fun b=>⟨[(2,aI a),(3,.ptr 3 0),(4,.ptr 4 0),(12,.bool (b))],[(3,.box 25 (z0d d)),(4,.box 115 (z1z c))]⟩) fun _=>z20.eq_1 ..
abbrev ztw {n a b}:=li (zay n a b) (fun c=>⟨[(1,.ptr 1 0),(6,aI c.1),(62,.sl 17 (a.fEdges.map z0v)),(63,aI (((a.fEdges.map z0v).length:Int))),(64,aI c.2)],[(1,.box 25 (z0d a))]⟩) fun _ _=>zay.eq_2 ..
abbrev ztx {n a b}:=li (zaz n a b) (fun c=>⟨[(1,.ptr 1 0),(47,.sl 1 (a.fStates.map z0s)),(48,aI (((a.fStates.map z0s).length:Int))),(49,aI c)],[(1,.box 25 (z0d a))]⟩) fun _ _=>zaz.eq_2 ..
abbrev zty {n a}:=jf (z3f n a) (fun b=>⟨[(1,.ptr 1 0),(29,.bool (b))],[(1,.box 25 (z0d a))]⟩) fun _=>z3f.eq_1 ..
abbrev ztz {n a}:=jf (z2k n a) (fun b=>⟨[(1,.ptr 1 0),(10,.bool (b))],[(1,.box 25 (z0d a))]⟩) fun _=>z2k.eq_1 ..
abbrev zp2 {n}:=jf (z3q n) (fun b=>⟨[(2,.bool (b))],[]⟩) fun _=>z3q.eq_1 ..
abbrev zni {n}:=jf (z2c n) (fun b=>⟨[(58,.bool (b))],[]⟩) fun _=>z2c.eq_1 ..
abbrev znh {n}:=jf (z4v n) (fun b=>⟨[(70,.bool (b))],[]⟩) fun _=>z4v.eq_1 ..
abbrev znj {n a}:=jf (z4w n a) (fun b=>⟨[(1,.ptr 1 0),(23,.bool (b))],[(1,.box 313 (zfc a))]⟩) fun _=>z4w.eq_1 ..
abbrev znk {n a}:=jf (z4x n a) (fun b=>⟨[(1,.ptr 1 0),(15,.bool (b))],[(1,.box 313 (zfc a))]⟩) fun _=>z4x.eq_1 ..
abbrev zqp {n a}:=jt (z4j n a) (fun b=>⟨[(4,.ptr 4 0),(8,.ptr 8 0)],[(4,.box 313 [aI 0,aI 0,aI 0,aI 0,.str (ByteArray.empty)]),(8,.box 313 [aI a.fKind,aI ((IntKind.wrap .i64 (a.fCount+1))),aI b.1,aI b.2.1,.str (b.2.2)])]⟩) fun _=>z4j.eq_1 ..
abbrev zmb {n a c}:=jf (z42 n a c) (fun b=>⟨[(2,.ptr 2 0),(3,.ptr 3 0),(4,.ptr 4 0),(35,.bool (b))],[(2,.box 313 (zfc c)),(3,.box 109 (z24 a)),(4,.box 109 [aI 0,aI 0,.str (ByteArray.empty)])]⟩) fun _=>z42.eq_1 ..
abbrev zrg {n a d c}:=li (za1 n a d c) (fun b=>⟨[(1,.sl 3 (d.map z09)),(5,.ptr 5 0),(6,.ptr 6 0),(8,.ptr 8 0),(9,aI b.1)],[(5,.box 109 (z24 a)),(6,.box 109 [aI 0,aI 0,.str (ByteArray.empty)]),(8,.box 313 [aI b.2.1,aI b.2.2.1,aI b.2.2.2.1,aI b.2.2.2.2.1,.str (b.2.2.2.2.2)])]⟩) fun _ _=>za1.eq_2 ..
attribute [instance] zv2 zv3 ztw ztx zty ztz zp2 zni znh znj znk zqp zmb zrg
instance yf4 {n e d c}:CI E0 (zg3 n e d c) true 105 [z0m e,z0v d,aI c] aI:=⟨fun {r} b=>by
 unfold zg3 at b;refine cw Tryz.func105 ?_;repeat' first
  |refine AW.jI b (fun v b=>?_) fun b=>?_
  |refine AW.regO b fun b=>?_
  |refine AW.stepU [1] ?_;conv=>whnf
  |refine z10.o b (fun b=>?_) fun b=>?_
  |refine z10.t ?_
  |refine z1h.I b fun a b=>?_
  |refine IdxX.oD b z2q (fun x b=>?_)
  |exact ⟨_,b,LeX.a []⟩
  |refine z63.I b (LeX.a []) fun m v b=>?_
  |refine AndA ?_
  |exact RetX.oB b⟩
instance ycn {n a}:CI E0 (zbm n a) true 69 [z0m a] aI:=by unfold zbm;exact CI.w [1,3] Tryz.func69
instance y6v {n a}:CI E0 (zar n a) true 273 [aI a] (fun r=>.bool (r)):=by unfold zar;exact CI.w [1] Tryz.func273
instance y5h {n a}:CI E0 (za2 n a) true 277 [z33 a] aI:=by unfold za2;exact CI.w [3,5,11,14] Tryz.func277
instance y5f {n b a}:CI E0 (za0 n b a) true 278 [aI b,z09 a] aI:=by unfold za0;exact CI.w [] Tryz.func278
instance y1w {n c b a}:CI E0 (zah n c b a) true 279 [aI c,z09 b,z09 a] z09:=by unfold zah;exact CI.w [] Tryz.func279
instance y9c {n b a}:CI E0 (zdg n b a) true 274 [z33 b,z09 a] (fun r=>.tup [z33 r.1,aI r.2]):=by unfold zdg;exact CI.w [10,12] Tryz.func274
instance y3k {n b a}:CI E0 (z9a n b a) true 275 [z33 b,z09 a] (fun r=>.tup [z09 r.1,aI r.2]):=by unfold z9a;exact CI.w [9] Tryz.func275
end
noncomputable section
abbrev zma {n a c}:=jf (z41 n a c) (fun b=>⟨[(1,aI a),(2,.ptr 2 0),(13,.bool (b))],[(2,.box 220 (zd7 c))]⟩) fun _=>z41.eq_1 ..
abbrev zou {n d a b}:=li (z8m n d a b) (fun c=>⟨[(4,.ptr 4 0),(8,.ptr 8 0),(10,.row 7063),(11,.sl 5 (a.map z02)),(12,aI c.1)],[(4,.box 111 (z5a d)),(8,.box 109 [aI 0,aI 0,.str (ByteArray.empty)]),(7063,.row 109 3 (c.2.map z09))]⟩) fun _ _=>z8m.eq_2 ..
abbrev zk5 {n}:=jt (z26 n) (fun b=>⟨[(9,.bool (b))],[]⟩) fun _=>z26.eq_1 ..
abbrev zk6 {n a}:=jt (z1r n a) (fun b=>⟨[(3,aI a),(4,.bool (b))],[]⟩) fun _=>z1r.eq_1 ..
abbrev zk4 {n a e b c}:=jf (z1k n a e b c) (fun d=>⟨[(0,aI e),(1,.sl 1 (a.map aI)),(5,aI b),(38,.bool (d))],[]⟩) fun _=>z1k.eq_1 ..
abbrev zk3 {n a d b}:=li (z1d n a d b) (fun c=>⟨[(0,aI d),(1,.sl 1 (a.map aI)),(5,aI c)],[]⟩) fun _ _=>z1d.eq_2 ..
abbrev znb {n}:=jf (z4s n) (fun b=>⟨[(4,.ptr 4 0)],[(4,.box 109 [aI b.1,aI b.2.1,.str (b.2.2)])]⟩) fun _=>z4s.eq_1 ..
abbrev zna {n}:=jf (z4r n) (fun b=>⟨[(4,.ptr 4 0)],[(4,.box 109 [aI b.1,aI b.2.1,.str (b.2.2)])]⟩) fun _=>z4r.eq_1 ..
abbrev zp1 {n b a e f g d}:=li (z8n n b a e f g d) (fun c=>⟨[(2,aI e),(4,.ptr 4 0),(5,.ptr 5 0),(7,.ptr 7 0),(8,.ptr 8 0),(10,.row 7053),(11,.row 7058),(12,aI c.1)],[(4,.box 111 (z5a g)),(5,.box 220 (zd7 f)),(7,.box 71 (z19 a)),(8,.box 109 [aI 0,aI 0,.str (ByteArray.empty)]),(7053,.row 109 3 (c.2.1.map z09)),(7058,.row 3 1 (c.2.2.map aI))]⟩) fun _ _=>z8n.eq_2 ..
abbrev znc {n}:=jf (z4t n) (fun b=>⟨[(8,.bool (b))],[]⟩) fun _=>z4t.eq_1 ..
attribute [instance] zma zou zk5 zk6 zk4 zk3 znb zna zp1 znc
instance yaf {n c b a}:CI E0 (zc3 n c b a) true 266 [aI c,.sl 3 (b.map z09),z09 a] (fun r=>.tup [z09 r.1,aI r.2]):=by unfold zc3;exact CI.w [] Tryz.func266
instance y3j {n c b}:CI E0 (z74 n c b) false 265 [zd6 c,aI b] (fun r=>.sl 5 (r.map z02)):=⟨fun {r} a=>by
 unfold z74 at a;refine cw Tryz.func265 ?_;repeat' first
  |refine AW.jI a (fun v a=>?_) fun a=>?_
  |refine AW.regO a fun a=>?_
  |refine AW.stepU [1] ?_;conv=>whnf
  |refine z10.o a (fun a=>?_) fun a=>?_
  |refine IdxX.o (fun q=>AV.sl 5 (List.map z02 q)) a fun x a=>?_
  |exact ⟨_,a,LeX.a []⟩
  |exact RetX.oB a⟩
instance y6r {n d c b a}:CI E0 (zf6 n d c b a) false 267 [zd6 d,aI c,aI b,z02 a] (fun r=>.tup [z02 r.1,.bool (r.2)]):=by unfold zf6;exact CI.w [] Tryz.func267
instance y6p {n f e d c}:CI E0 (zaq n f e d c) true 248 [z0n f,zd6 e,aI d,z02 c] (fun r=>.tup [z09 r.1,aI r.2]):=⟨fun {r} b=>by
 unfold zaq at b;refine cw Tryz.func248 ?_;repeat' first
  |refine AW.step ?_;conv=>whnf
  |refine z10.o b (fun b=>?_) fun b=>?_
  |refine z1h.I b fun a b=>?_
  |refine zab.I b (fun a b=>?_) rfl rfl fun _=>Or.inr rfl
  |refine IdxX.A b fun x b=>?_
  |refine AppX.oA b fun l b=>?_
  |exact ⟨_,b,LeX.a [(7063,63)]⟩
  |refine z63.I b ?_ fun m v b=>?_
  |exact LeX.trans (LeX.adopt 10 7063 109 3 rfl rfl) (LeX.a [])
  |refine AndA ?_
  |exact RetX.oB b⟩
instance y14 {n a}:CI E0 (z9z n a) true 268 [aI a] aI:=by unfold z9z;exact CI.w [2,3,4,7,8] Tryz.func268
instance y13 {n b a}:CI E0 (zc2 n b a) true 249 [aI b,.sl 1 (a.map aI)] aI:=by unfold zc2;exact CI.w [5] Tryz.func249
instance y6t {n a}:CI E0 (z1m n a) true 68 [.bool (a)] z09:=by unfold z1m;exact CI.w [] Tryz.func68
instance y5a {n b a}:CI E0 (z88 n b a) true 250 [aI b,.sl 3 (a.map z09)] z09:=by unfold z88;exact CI.w [13,15] Tryz.func250
def zu5 (r:z04×Int):AV:=.tup [.agg [aI (r.1.fKind),aI (r.1.fNum),.str (r.1.fText)],aI (r.2)]
theorem zo6 {n f e d c r}(b:z4m n f e d c=some r):Con E0 true 228 [z0n f,zd6 e,aI d,z02 c] (.tup [z09 r.1,aI r.2]):=by
 induction n generalizing f e d c r
 case zero=>cases b
 case succ n g =>
 unfold z4m at b;refine cw Tryz.func228 ?_;repeat' first
  |refine AW.step ?_;conv=>whnf
  |refine z10.o b (fun b=>?_) fun b=>?_
  |refine z1h.I b fun a b=>?_
  |refine zab.I b (fun a b=>?_) rfl rfl fun _=>Or.inr rfl
  |refine IdxX.oD b z2q (fun x b=>?_)
  |refine z1h.o b zu5 (fun a h=>g h) (fun a b=>?_)
  |refine AppX.oA b fun l b=>?_
  |exact ⟨_,b,LeX.a [(7053,53),(7058,58)]⟩
  |refine z63.I b ?_ fun m v b=>?_
  |exact LeX.trans (LeX.adopt 10 7053 109 3 rfl rfl) (LeX.trans (LeX.adopt 11 7058 3 1 rfl rfl) (LeX.a []))
  |refine AndA ?_
  |exact RetX.oB b
instance y6s {n d c b a}:CI E0 (z4m n d c b a) true 228 [z0n d,zd6 c,aI b,z02 a] (fun r=>.tup [z09 r.1,aI r.2]):=⟨zo6⟩
instance y6u {n d c b a}:CI E0 (zf7 n d c b a) true 197 [z0n d,zd6 c,aI b,z02 a] (fun r=>.tup [z09 r.1,aI r.2]):=by unfold zf7;exact CI.w [] Tryz.func197
end
noncomputable section
abbrev zl2 {n a f b c d}:=jf (z3j n a f b c d) (fun e=>⟨[(2,.ptr 2 0),(3,.ptr 3 0),(5,aI b),(18,.bool (e))],[(2,.box 44 (zew f)),(3,.box 44 (zew a))]⟩) fun _=>z3j.eq_1 ..
abbrev zl1 {n a d b}:=li (z2j n a d b) (fun c=>⟨[(2,.ptr 2 0),(3,.ptr 3 0),(5,aI c)],[(2,.box 44 (zew d)),(3,.box 44 (zew a))]⟩) fun _ _=>z2j.eq_2 ..
abbrev zkz {n a g b c d e}:=jf (z2i n a g b c d e) (fun f=>⟨[(2,.ptr 2 0),(3,.ptr 3 0),(6,aI b),(7,.ptr 7 0),(8,.ptr 8 0),(71,.bool (f))],[(2,.box 60 (z0x g)),(3,.box 60 (z0x a)),(7,.box 102 (zuy d)),(8,.box 102 (zuy e))]⟩) fun _=>z2i.eq_1 ..
abbrev zl0 {n a f b c d}:=jf (z3i n a f b c d) (fun e=>⟨[(2,.ptr 2 0),(3,.ptr 3 0),(6,aI b),(40,.bool (e))],[(2,.box 60 (z0x f)),(3,.box 60 (z0x a))]⟩) fun _=>z3i.eq_1 ..
abbrev zky {n a d b}:=li (z2h n a d b) (fun c=>⟨[(2,.ptr 2 0),(3,.ptr 3 0),(6,aI c)],[(2,.box 60 (z0x d)),(3,.box 60 (z0x a))]⟩) fun _ _=>z2h.eq_2 ..
abbrev zq9 {n a d b}:=jf (z6w n a d b) (fun c=>⟨[(0,.sl 3 (d.map z01)),(3,.ptr 3 0),(5,aI b),(34,.bool (c))],[(3,.box 60 (z0x a))]⟩) fun _=>z6w.eq_1 ..
abbrev zq8 {n a f b c d}:=jf (z6v n a f b c d) (fun e=>⟨[(0,.sl 3 (f.map z01)),(3,.ptr 3 0),(5,aI b),(19,.bool (e))],[(3,.box 60 (z0x a))]⟩) fun _=>z6v.eq_1 ..
abbrev zq7 {n a d b}:=li (z4e n a d b) (fun c=>⟨[(0,.sl 3 (d.map z01)),(3,.ptr 3 0),(5,aI c)],[(3,.box 60 (z0x a))]⟩) fun _ _=>z4e.eq_2 ..
abbrev zu2 {n}:=jf (z6r n) (fun b=>⟨[(2,.bool (b))],[]⟩) fun _=>z6r.eq_1 ..
abbrev zu1 {n}:=jf (z4n n) (fun b=>⟨[(4,.bool (b))],[]⟩) fun _=>z4n.eq_1 ..
attribute [instance] zl2 zl1 zkz zl0 zky zq9 zq8 zq7 zu2 zu1
instance y5b {n d c b a}:CI E0 (z2w n d c b a) true 170 [z0n d,zd6 c,aI b,z02 a] (fun r=>.bool (r)):=by unfold z2w;exact CI.w [2] Tryz.func170
instance y5i {n b a}:CI E0 (za3 n b a) true 90 [z14 b,z14 a] aI:=by unfold za3;exact CI.w [] Tryz.func90
instance y55 {n b a}:CI E0 (zbu n b a) true 55 [z0b b,z0b a] aI:=by unfold zbu;exact CI.w [] Tryz.func55
instance y1v {n b a}:CI E0 (z5s n b a) true 21 [z0c b,z0c a] aI:=by unfold z5s;exact CI.w [2] Tryz.func21
instance y1u {n b a}:CI E0 (z5o n b a) true 29 [z01 b,z01 a] aI:=by unfold z5o;exact CI.w [9,12] Tryz.func29
instance y94 {n d c}:CI E0 (z9n n d c) false 103 [.sl 3 (d.map z01),z01 c] (fun r=>.sl 3 (r.map z01)):=⟨fun {r} b=>by
 unfold z9n at b;refine cw Tryz.func103 ?_;repeat' first
  |refine AW.jI b (fun v b=>?_) fun b=>?_
  |refine AW.regO b fun b=>?_
  |refine AW.stepU [2,4] ?_;conv=>whnf
  |refine z10.o b (fun b=>?_) fun b=>?_
  |refine SlsX.o z01 b (fun l b=>?_)
  |refine AppX.oA0 b fun l b=>?_
  |refine AppX.oA b fun l b=>?_
  |refine IdxX.A b fun x b=>?_
  |refine z1h.I b fun a b=>?_
  |exact ⟨_,b,LeX.a []⟩
  |refine z63.I b (LeX.a []) fun m v b=>?_
  |refine AndA ?_
  |exact RetX.oB b⟩
instance ycq {n a}:CI E0 (zd3 n a) true 280 [aI a] (fun r=>.bool (r)):=by unfold zd3;exact CI.w [1] Tryz.func280
instance ycp {n b a}:CI E0 (zd2 n b a) true 287 [aI b,z09 a] (fun r=>.bool (r)):=by unfold zd2;exact CI.w [1] Tryz.func287
instance yco {n b a}:CI E0 (zbn n b a) true 281 [aI b,z09 a] aI:=by unfold zbn;exact CI.w [] Tryz.func281
instance yap {n b a}:CI E0 (zgj n b a) true 285 [aI b,z09 a] z09:=by unfold zgj;exact CI.w [] Tryz.func285
instance y5t {n}:CI E0 (zet n) true 290 [] z09:=by unfold zet;exact CI.w [] Tryz.func290
def zt2 (b:z04)(a:z04):List (Nat×Ent):=[(100000,.box 109 (z24 b)),(100001,.box 109 (z24 a))]
def zec (r:z04×z04×z04):List (Nat×Ent):=[(2,.box 109 (z24 r.1)),(100000,.box 109 (z24 r.2.1)),(100001,.box 109 (z24 r.2.2))]
def zgu (r:z04×z04×z04):AV:=.agg [aI (r.1.fKind),aI (r.1.fNum),.str (r.1.fText)]
def zsm (r:z04×z04×z04):AS:=⟨[(2,.ptr 2 0),(0,.ptr 100000 0),(1,.ptr 100001 0)],zec r⟩
end
noncomputable section
abbrev zsd {n c a d}:=li (zaa n c a d) (fun b=>⟨[(2,.fn 283 [.ref [aI c]]),(3,.ptr 3 0),(6,.ptr 6 0),(9,.sl 3 (a.map z09)),(10,aI (((a.map z09).length:Int))),(11,aI b.1)],[(3,.box 313 [aI b.2.1,aI b.2.2.1,aI b.2.2.2.1,aI b.2.2.2.2.1,.str (b.2.2.2.2.2)]),(6,.box 313 [aI 0,aI 0,aI 0,aI 0,.str (ByteArray.empty)])]⟩) fun _ _=>zaa.eq_2 ..
abbrev zu3 {n a}:=jf (z8y n a) (fun b=>⟨[(1,.ptr 1 0),(10,.bool (b))],[(1,.box 313 (zfc a))]⟩) fun _=>z8y.eq_1 ..
abbrev zse {n a c}:=jf (z8f n a c) (fun b=>⟨[(2,.ptr 2 0),(3,.ptr 3 0),(4,.ptr 4 0),(29,.bool (b))],[(2,.box 313 (zfc c)),(3,.box 109 (z24 a)),(4,.box 109 [aI 0,aI 0,.str (ByteArray.empty)])]⟩) fun _=>z8f.eq_1 ..
abbrev zx3 {n d a e b}:=li (zd4 n d a e b) (fun c=>⟨[(1,.sl 3 (a.map z09)),(3,.ptr 3 0),(5,.ptr 5 0),(6,.ptr 6 0),(22,.sl 3 (a.map z09)),(23,aI (((a.map z09).length:Int))),(24,aI c)],[(3,.box 3 [aI e]),(5,.box 109 (z24 d)),(6,.box 109 [aI 0,aI 0,.str (ByteArray.empty)])]⟩) fun _ _=>zd4.eq_2 ..
attribute [instance] zsd zu3 zse zx3
theorem zpo {n b a r}(c:zes n b a=some r):ConG E0.P none (CalF E0.P 291 0) [.ptr 100000 0,.ptr 100001 0] [] (zt2 b a) (zgu r) (zec r):=by
 unfold zes at c;refine ConG.walk (E:=(E0p 2)) (caps:=[]) _ Tryz.func291 rfl rfl rfl rfl rfl ?_;repeat' first
  |refine AW.step ?_;conv=>whnf
  |exact GX.A (res:=zgu) (meF:=zec) c zsm
def zt1 (b:z04)(a:z04):List (Nat×Ent):=[(100000,.box 109 (z24 b)),(100001,.box 109 (z24 a))]
def zeb (r:z04×z04×z04):List (Nat×Ent):=[(2,.box 109 (z24 r.1)),(100000,.box 109 (z24 r.2.1)),(100001,.box 109 (z24 r.2.2))]
def zgt (r:z04×z04×z04):AV:=.agg [aI (r.1.fKind),aI (r.1.fNum),.str (r.1.fText)]
def zsl (r:z04×z04×z04):AS:=⟨[(2,.ptr 2 0),(0,.ptr 100000 0),(1,.ptr 100001 0)],zeb r⟩
theorem zpn {n b a r}(c:zer n b a=some r):ConG E0.P none (CalF E0.P 292 0) [.ptr 100000 0,.ptr 100001 0] [] (zt1 b a) (zgt r) (zeb r):=by
 unfold zer at c;refine ConG.walk (E:=(E0p 2)) (caps:=[]) _ Tryz.func292 rfl rfl rfl rfl rfl ?_;repeat' first
  |refine AW.step ?_;conv=>whnf
  |exact GX.A (res:=zgt) (meF:=zeb) c zsl
def zt0 (b:z04)(a:z04):List (Nat×Ent):=[(100000,.box 109 (z24 b)),(100001,.box 109 (z24 a))]
def zea (r:z04×z04×z04):List (Nat×Ent):=[(2,.box 109 (z24 r.1)),(100000,.box 109 (z24 r.2.1)),(100001,.box 109 (z24 r.2.2))]
def zgs (r:z04×z04×z04):AV:=.agg [aI (r.1.fKind),aI (r.1.fNum),.str (r.1.fText)]
def zsk (r:z04×z04×z04):AS:=⟨[(2,.ptr 2 0),(0,.ptr 100000 0),(1,.ptr 100001 0)],zea r⟩
theorem zpm {n b a r}(c:zeq n b a=some r):ConG E0.P none (CalF E0.P 293 0) [.ptr 100000 0,.ptr 100001 0] [] (zt0 b a) (zgs r) (zea r):=by
 unfold zeq at c;refine ConG.walk (E:=(E0p 2)) (caps:=[]) _ Tryz.func293 rfl rfl rfl rfl rfl ?_;repeat' first
  |refine AW.step ?_;conv=>whnf
  |exact GX.A (res:=zgs) (meF:=zea) c zsk
def zsx (a:z04):List (Nat×Ent):=[(100000,.box 109 (z24 a))]
def ze9 (r:z04×z04):List (Nat×Ent):=[(1,.box 109 (z24 r.1)),(100000,.box 109 (z24 r.2))]
def zgr (r:z04×z04):AV:=.agg [aI (r.1.fKind),aI (r.1.fNum),.str (r.1.fText)]
def zsi (r:z04×z04):AS:=⟨[(1,.ptr 1 0),(0,.ptr 100000 0)],ze9 r⟩
theorem zpl {n a r}(b:zep n a=some r):ConG E0.P none (CalF E0.P 294 0) [.ptr 100000 0] [] (zsx a) (zgr r) (ze9 r):=by
 unfold zep at b;refine ConG.walk (E:=(E0p 1)) (caps:=[]) _ Tryz.func294 rfl rfl rfl rfl rfl ?_;repeat' first
  |refine AW.step ?_;conv=>whnf
  |exact GX.A (res:=zgr) (meF:=ze9) b zsi
def zsw (a:z04):List (Nat×Ent):=[(100000,.box 109 (z24 a))]
def ze8 (r:z04×z04):List (Nat×Ent):=[(1,.box 109 (z24 r.1)),(100000,.box 109 (z24 r.2))]
def zgq (r:z04×z04):AV:=.agg [aI (r.1.fKind),aI (r.1.fNum),.str (r.1.fText)]
def zsh (r:z04×z04):AS:=⟨[(1,.ptr 1 0),(0,.ptr 100000 0)],ze8 r⟩
theorem zpk {n a r}(b:zeo n a=some r):ConG E0.P none (CalF E0.P 295 0) [.ptr 100000 0] [] (zsw a) (zgq r) (ze8 r):=by
 unfold zeo at b;refine ConG.walk (E:=(E0p 1)) (caps:=[]) _ Tryz.func295 rfl rfl rfl rfl rfl ?_;repeat' first
  |refine AW.step ?_;conv=>whnf
  |exact GX.A (res:=zgq) (meF:=ze8) b zsh
instance y9t {n e d c}:CI E0 (zdw n e d c) true 288 [aI e,z09 d,z09 c] z09:=⟨fun {r} b=>by
 unfold zdw at b;refine cw Tryz.func288 ?_;repeat' first
  |refine AW.step ?_;conv=>whnf
  |refine NatX.oS b rfl (fun b=>?_) (fun b=>?_)
  |(cases b;done)
  |refine z1h.I b fun a b=>?_
  |refine zab.oM (z3d 15 b) [(100000,4),(100001,5)] [(2,16000000),(100000,4),(100001,5)] _ _ zec zgu [] (fun a h=>ConG.up (zpo h)) (z0q Tryz.func291 rfl rfl) rfl rfl rfl ⟨⟨rfl,rfl⟩,⟨⟨rfl,rfl⟩,trivial⟩⟩ (fun a=>⟨rfl,rfl,rfl,rfl,rfl,rfl,rfl,rfl⟩) (fun a b=>?_)
  |refine zab.oM (z3d 15 b) [(100000,4),(100001,5)] [(2,16000000),(100000,4),(100001,5)] _ _ zeb zgt [] (fun a h=>ConG.up (zpn h)) (z0q Tryz.func292 rfl rfl) rfl rfl rfl ⟨⟨rfl,rfl⟩,⟨⟨rfl,rfl⟩,trivial⟩⟩ (fun a=>⟨rfl,rfl,rfl,rfl,rfl,rfl,rfl,rfl⟩) (fun a b=>?_)
  |refine zab.oM (z3d 15 b) [(100000,4),(100001,5)] [(2,16000000),(100000,4),(100001,5)] _ _ zea zgs [] (fun a h=>ConG.up (zpm h)) (z0q Tryz.func293 rfl rfl) rfl rfl rfl ⟨⟨rfl,rfl⟩,⟨⟨rfl,rfl⟩,trivial⟩⟩ (fun a=>⟨rfl,rfl,rfl,rfl,rfl,rfl,rfl,rfl⟩) (fun a b=>?_)
  |refine zab.oM (z3d 15 b) [(100000,4)] [(1,16000000),(100000,4)] _ _ ze9 zgr [] (fun a h=>ConG.up (zpl h)) (z0q Tryz.func294 rfl rfl) rfl rfl rfl ⟨⟨rfl,rfl⟩,trivial⟩ (fun a=>⟨rfl,rfl,rfl,rfl,rfl,rfl,rfl,rfl⟩) (fun a b=>?_)
  |refine zab.oM (z3d 15 b) [(100000,5)] [(1,16000000),(100000,5)] _ _ ze8 zgq [] (fun a h=>ConG.up (zpk h)) (z0q Tryz.func295 rfl rfl) rfl rfl rfl ⟨⟨rfl,rfl⟩,trivial⟩ (fun a=>⟨rfl,rfl,rfl,rfl,rfl,rfl,rfl,rfl⟩) (fun a b=>?_)
  |exact RetX.oB b⟩
instance yaq {n b a}:CI E0 (zgk n b a) true 284 [z33 b,z33 a] z33:=by unfold zgk;exact CI.w [] Tryz.func284
instance yf5 {n c b a}:CI E0 (zhy n c b a) true 283 [z33 c,z09 b,.ref [aI a]] z33:=by unfold zhy;exact CI.w [] Tryz.func283
instance yar {n c a b}:CI E0 (zen n c a b) true 282 [z33 c,.sl 3 (a.map z09),.fn 283 [.ref [aI b]]] z33:=by unfold zen;exact CI.w [] Tryz.func282
instance ycr {n a}:CI E0 (zfm n a) true 289 [z33 a] aI:=by unfold zfm;exact CI.w [3,7,9,11,6] Tryz.func289
instance yat {n b a}:CI E0 (zc9 n b a) true 286 [z33 b,z09 a] (fun r=>.tup [z09 r.1,aI r.2]):=by unfold zc9;exact CI.w [9] Tryz.func286
instance ygx {n e d c}:CI E0 (zg9 n e d c) true 276 [aI e,.sl 3 (d.map z09),z09 c] (fun r=>.tup [z09 r.1,aI r.2]):=⟨fun {r} b=>by
 unfold zg9 at b;refine cw Tryz.func276 ?_;repeat' first
  |refine AW.step ?_;conv=>whnf
  |refine z10.o b (fun b=>?_) fun b=>?_
  |refine z1h.I b fun a b=>?_
  |refine zab.I b (fun a b=>?_) rfl rfl fun _=>Or.inr rfl
  |refine IdxX.A b fun x b=>?_
  |exact ⟨_,b,LeX.a []⟩
  |refine z63.I b (LeX.a []) fun m v b=>?_
  |exact RetX.oB b⟩
instance ym5 {n a}:CI E0 (zkq n a) true 176 [aI a] (fun r=>.bool (r)):=by unfold zkq;exact CI.w [] Tryz.func176
instance yjf {n b a}:CI E0 (z3a n b a) true 135 [aI b,aI a] aI:=by unfold z3a;exact CI.w [] Tryz.func135
end
noncomputable section
abbrev ycs {n a b}:=li (zj3 n a b) (fun c=>⟨[(3,aI 0),(6,.sl 1 (a.map aI)),(7,aI (((a.map aI).length:Int))),(8,aI c)],[]⟩) fun _ _=>zj3.eq_2 ..
abbrev zp3 {n d a b}:=li (z8p n d a b) (fun c=>⟨[(0,.sl 4 (a.map z0b)),(1,.sl 4 (d.map z0b)),(2,.fn 132 []),(11,.sl 4 (a.map z0b)),(12,aI (((a.map z0b).length:Int))),(13,aI c)],[]⟩) fun _ _=>z8p.eq_2 ..
abbrev zk7 {n d a b}:=li (z4z n d a b) (fun c=>⟨[(0,.sl 2 (a.map z08)),(1,.sl 2 (d.map z08)),(2,.fn 165 []),(11,.sl 2 (a.map z08)),(12,aI (((a.map z08).length:Int))),(13,aI c)],[]⟩) fun _ _=>z4z.eq_2 ..
abbrev zyy {n}:=jf (z8b n) (fun b=>⟨[(2,.bool (b))],[]⟩) fun _=>z8b.eq_1 ..
abbrev zmc {n b a c}:=li (z6h n b a c) (fun d=>⟨[(0,.sl 4 (a.map z0b)),(1,.fn 155 [.ref (z19 b)]),(7,aI (((a.map z0b).length:Int))),(8,aI d)],[]⟩) fun _ _=>z6h.eq_2 ..
abbrev zmd {n b a c}:=li (z6i n b a c) (fun d=>⟨[(0,.sl 3 (a.map z01)),(1,.fn 118 [.ref (z19 b)]),(7,aI (((a.map z01).length:Int))),(8,aI d)],[]⟩) fun _ _=>z6i.eq_2 ..
attribute [instance] ycs zp3 zk7 zyy zmc zmd
instance ypn {n a}:CI E0 (zhx n a) true 133 [.sl 1 (a.map aI)] aI:=by unfold zhx;exact CI.w [] Tryz.func133
instance yk9 {n b a}:CI E0 (zji n b a) true 134 [z14 b,z14 a] aI:=by unfold zji;exact CI.w [] Tryz.func134
instance yci {n b a}:CI E0 (zfj n b a) true 132 [z0b b,z0b a] aI:=by unfold zfj;exact CI.w [] Tryz.func132
instance y6y {n b a}:CI E0 (zci n b a) true 131 [.sl 4 (b.map z0b),.sl 4 (a.map z0b),.fn 132 []] aI:=by unfold zci;exact CI.w [] Tryz.func131
instance ygg {n b a}:CI E0 (zfk n b a) true 92 [z0c b,z0c a] aI:=by unfold zfk;exact CI.w [] Tryz.func92
instance ygf {n b a}:CI E0 (zh0 n b a) true 165 [z08 b,z08 a] aI:=by unfold zh0;exact CI.w [] Tryz.func165
instance y16 {n b a}:CI E0 (za7 n b a) true 164 [.sl 2 (b.map z08),.sl 2 (a.map z08),.fn 165 []] aI:=by unfold za7;exact CI.w [] Tryz.func164
instance yjc {n b a}:CI E0 (zif n b a) true 122 [z01 b,z01 a] aI:=by unfold zif;exact CI.w [] Tryz.func122
instance yk5 {n a}:CI E0 (zjf n a) true 117 [z02 a] (fun r=>.bool (r)):=by unfold zjf;exact CI.w [1] Tryz.func117
instance ypb {n a}:CI E0 (zje n a) true 115 [z02 a] z14:=by unfold zje;exact CI.w [] Tryz.func115
instance yn5 {n b a}:CI E0 (ziy n b a) true 116 [z14 b,z14 a] aI:=by unfold ziy;exact CI.w [] Tryz.func116
instance yk6 {n b a}:CI E0 (zgy n b a) true 155 [z0b b,.ref (z19 a)] (fun r=>.bool (r)):=by unfold zgy;exact CI.w [] Tryz.func155
instance y3m {n a b}:CI E0 (zbb n a b) true 186 [.sl 4 (a.map z0b),.fn 155 [.ref (z19 b)]] aI:=by unfold zbb;exact CI.w [] Tryz.func186
instance y0g {n a b}:CI E0 (z9i n a b) true 154 [.sl 4 (a.map z0b),.fn 155 [.ref (z19 b)]] (fun r=>.bool (r)):=by unfold z9i;exact CI.w [] Tryz.func154
instance yn6 {n d c}:CI E0 (zth n d c) true 119 [z01 d,z02 c] (fun r=>.bool (r)):=⟨fun {r} b=>by
 unfold zth at b;refine cw Tryz.func119 ?_;repeat' first
  |refine AW.step ?_;conv=>whnf
  |refine zab.I b (fun a b=>?_) rfl rfl fun _=>Or.inr rfl
  |exact RetX.oB b⟩
instance yk8 {n b a}:CI E0 (zgz n b a) true 118 [z01 b,.ref (z19 a)] (fun r=>.bool (r)):=by unfold zgz;exact CI.w [] Tryz.func118
instance y3n {n a b}:CI E0 (zbc n a b) true 59 [.sl 3 (a.map z01),.fn 118 [.ref (z19 b)]] aI:=by unfold zbc;exact CI.w [] Tryz.func59
instance y0h {n a b}:CI E0 (z9j n a b) true 27 [.sl 3 (a.map z01),.fn 118 [.ref (z19 b)]] (fun r=>.bool (r)):=by unfold z9j;exact CI.w [] Tryz.func27
instance yn7 {n d c}:CI E0 (ziz n d c) true 84 [.sl 3 (d.map z01),z02 c] aI:=⟨fun {r} b=>by
 unfold ziz at b;refine cw Tryz.func84 ?_;repeat' first
  |refine AW.step ?_;conv=>whnf
  |refine z10.o b (fun b=>?_) fun b=>?_
  |refine z1h.I b fun a b=>?_
  |refine zab.I b (fun a b=>?_) rfl rfl fun _=>Or.inr rfl
  |exact RetX.oB b⟩
end
noncomputable section
abbrev zp4 {n d c}:=li (z5w n d c) (fun b=>⟨[(0,.row 200000),(1,.fn 163 [.ref [.fn 122 []]]),(5,aI b.1),(6,.der (.sub 3 (d)) 200000),(7,aI b.2.1)],[(200000,.row 60 3 (b.2.2.map z01))]⟩) fun _ _=>z5w.eq_2 ..
abbrev zp5 {n a b}:=li (z8q n a b) (fun c=>⟨[(0,.row 200000),(1,.fn 163 [.ref [.fn 122 []]]),(5,aI c)],[(200000,.row 60 3 (a.map z01))]⟩) fun _ _=>z8q.eq_2 ..
abbrev zqo {n}:=jf (z73 n) (fun b=>⟨[(2,.bool (b))],[]⟩) fun _=>z73.eq_1 ..
abbrev zqg {n a b}:=li (z98 n a b) (fun c=>⟨[(0,.sl 11 (a.map z0u)),(3,aI c)],[]⟩) fun _ _=>z98.eq_2 ..
abbrev zqk {n}:=jf (z6z n) (fun b=>⟨[(2,.bool (b))],[]⟩) fun _=>z6z.eq_1 ..
abbrev zqh {n a b d c}:=li (z99 n a b d c) (fun e=>⟨[(1,.ptr 1 0),(4,aI b),(5,.ptr 5 0),(6,aI e)],[(1,.box 25 (z0d a)),(5,.box 115 (z1z d))]⟩) fun _ _=>z99.eq_2 ..
abbrev zoq {n a b c e}:=jf (z1q n a b c e) (fun d=>⟨[(1,.ptr 1 0),(4,aI b),(5,.ptr 5 0),(105,.bool (d))],[(1,.box 25 (z0d a)),(5,.box 115 (z1z e))]⟩) fun _=>z1q.eq_1 ..
abbrev zor {n a b c d}:=jf (z5r n a b c d) (fun e=>⟨[(1,.ptr 1 0),(4,aI b),(64,.bool (e))],[(1,.box 25 (z0d a))]⟩) fun _=>z5r.eq_1 ..
abbrev zqi {n a b}:=li (z4g n a b) (fun c=>⟨[(1,.ptr 1 0),(4,aI c)],[(1,.box 25 (z0d a))]⟩) fun _ _=>z4g.eq_2 ..
abbrev zoo {n a b c}:=jf (z21 n a b c) (fun d=>⟨[(1,.ptr 1 0),(3,aI b),(55,.bool (d))],[(1,.box 25 (z0d a))]⟩) fun _=>z21.eq_1 ..
abbrev zop {n a b c d}:=jf (z5q n a b c d) (fun e=>⟨[(1,.ptr 1 0),(3,aI b),(15,.bool (e))],[(1,.box 25 (z0d a))]⟩) fun _=>z5q.eq_1 ..
abbrev zqj {n a b}:=li (z4h n a b) (fun c=>⟨[(1,.ptr 1 0),(3,aI c)],[(1,.box 25 (z0d a))]⟩) fun _ _=>z4h.eq_2 ..
abbrev zqr {n a b}:=li (z9c n a b) (fun c=>⟨[(0,.sl 3 (a.map z09)),(3,aI c)],[]⟩) fun _ _=>z9c.eq_2 ..
abbrev zqq {n a b}:=li (z9b n a b) (fun c=>⟨[(0,.sl 5 (a.map z02)),(3,aI c)],[]⟩) fun _ _=>z9b.eq_2 ..
abbrev znm {n a b c}:=li (z7t n a b c) (fun d=>⟨[(0,.sl 5 (a.map z02)),(3,aI b),(4,aI d)],[]⟩) fun _ _=>z7t.eq_2 ..
abbrev znl {n a b c}:=li (z7s n a b c) (fun d=>⟨[(0,.sl 5 (a.map z02)),(3,aI b),(4,aI d)],[]⟩) fun _ _=>z7s.eq_2 ..
attribute [instance] zp4 zp5 zqo zqg zqk zqh zoq zor zqi zoo zop zqj zqr zqq znm znl
set_option maxHeartbeats 400000 in
theorem y9y (l:List (Cel 3))(S:Nat->Prop)(v:Value)(w:World)(h:Sl w S 3 encC v l)(d:l.length<=1000000000) :
  Calls Tryz.prog 149 #[v] w (zxw 60 3 encC l w):=by
 have eok:EOk Tryz.prog 57 60 3 56 (encC (n:=3)):=eokC (sz:=3) (ztj 57 _ rfl) rfl (ztj 60 _ rfl) (by omega) rfl;obtain ⟨A,c,rfl,f,_⟩:=h.form;have a:=fun (W:World)=>Lib.run_eql_slice_nil W 57 60 A l.length c 0 0 Tryz.underlying57
 have H:=hide h;cases A with
 |none =>
  have g:l=[]:=h.none_nil;subst g;clear h H d f;simp only [length_nil,Option.isNone_none] at a ⊢
  go_enter Tryz.func149,Tryz.ntmps149
  go_wp2
  go_ret
  exact ⟨none,0,rfl,Own.nil_,by go_grown⟩
 |some ad =>
  clear h
  go_enter Tryz.func149,Tryz.ntmps149
  go_wp2_with (at_builtin;refine zb0 rfl _ _ rfl eok rfl Own.made_ rfl (H.out.alloc _) (by simp;omega) (by omega) (by simp) ?_;intro A' i j b e _)
  go_ret
  exact ⟨A',i,rfl,b,(Own.made_ (sz:=3) (enc:=encC (n:=3))).grown ((Below.refl _ _).alloc (Nat.le_refl _) _) (Nat.le_refl _) (by simp) e⟩
theorem y5w {n a r}(b:zct n a=some r):ConT E0 149 [.sl 3 (List.map z01 a)] 60 3 (List.map z01 r) (.row 0):=zki rfl (z0q Tryz.func149 rfl rfl) y9y b
instance ycc {n b a}:CI E0 (zd1 n b a) true 163 [z01 b,z01 a,.ref [.fn 122 []]] (fun r=>.bool (r)):=by unfold zd1;exact CI.w [] Tryz.func163
def zu6 (a:(List z00)):List (Nat×Ent):=[(200000,.row 60 3 (a.map z01))]
def zcc (r:(List z00)):List (Nat×Ent):=[(260000,.row 60 3 (r.map z01))]
def zf5 (r:(List z00)):AV:=.row 260000
def zjm (r:(List z00)):AS:=⟨[(4,.row 260000)],zcc r⟩
theorem zr3 {n c r}(b:zcj n c=some r):ConG E0.P none (CalF E0.P 162 0) [.row 200000,.fn 163 [.ref [.fn 122 []]]] [] (zu6 c) (zf5 r) (zcc r):=by
 unfold zcj at b;refine ConG.walk (E:=(E0p 2)) (caps:=[]) _ Tryz.func162 rfl rfl rfl rfl rfl ?_;repeat' first
  |refine AW.step ?_;conv=>whnf
  |refine z10.o b (fun b=>?_) fun b=>?_
  |exact GX.A (res:=zf5) (meF:=zcc) b zjm (h1:=LeX.a [(260000,200000)])
  |refine NatX.o b (fun m b=>?_)
  |refine EltX.o z01 b (fun x b=>?_)
  |refine z1h.I b fun a b=>?_
  |refine OpX.sub b rfl rfl rfl rfl rfl rfl rfl rfl rfl rfl (fun m b=>?_)
  |refine OpX.clr z01 b rfl rfl rfl rfl rfl rfl rfl rfl rfl rfl rfl (by first|exact SubL.refl _|(repeat' first|exact SubL.nil|refine SubL.cons ?_ ?_|exact Sub.refl _|exact Sub.nil _|refine Sub.agg ?_)) (fun l b=>?_)
  |refine SlsX.o z01 b (fun l b=>?_)
  |exact GX.A (res:=zf5) (meF:=zcc) b zjm (h1:=LeX.a [(260000,64)])
  |refine OpX.lns b rfl rfl rfl rfl rfl rfl rfl (fun b=>?_)
  |refine OpX.ixs b rfl rfl rfl rfl rfl rfl rfl rfl rfl rfl (fun m b=>?_)
  |refine SetX.o z01 b (fun x=>rfl) (fun x=>(by first|exact SubL.refl _|(repeat' first|exact SubL.nil|refine SubL.cons ?_ ?_|exact Sub.refl _|exact Sub.nil _|refine Sub.agg ?_))) (fun l b=>?_)
  |exact ⟨_,b,LeX.a []⟩
  |refine z63.I b (LeX.a []) fun m v b=>?_
  |refine AndA ?_
  |refine EqX.A ?_
def yac (a:(List z00)):List (Nat×Ent):=[(200000,.row 60 3 (a.map z01))]
def zjd (r:(List z00)):List (Nat×Ent):=[(260000,.row 60 3 (r.map z01))]
def zlk (r:(List z00)):AV:=.row 260000
def ya8 (r:(List z00)):AS:=⟨[(4,.row 260000)],zjd r⟩
theorem zud {n c r}(b:zi4 n c=some r):ConG E0.P none (CalF E0.P 121 0) [.row 200000,.fn 122 []] [] (yac c) (zlk r) (zjd r):=by
 unfold zi4 at b;refine ConG.walk (E:=(E0p 2)) (caps:=[]) _ Tryz.func121 rfl rfl rfl rfl rfl ?_;repeat' first
  |refine AW.frbO b 3 rfl rfl (fun b=>?_)
  |refine AW.regO b fun b=>?_
  |refine AW.stepU [2] ?_;conv=>whnf
  |refine zab.oI b 200000 (fun r=>r) z01 (fun _=>AV.tup []) rfl (fun a h=>(ConC.env rfl (yfk h))) rfl rfl rfl (fun a b=>?_)
  |refine zab.oM (z3d 10 b) [(200000,200000)] [(260000,11000000)] _ _ zcc zf5 [200000] (fun a h=>ConG.up (zr3 h)) (z0q Tryz.func162 rfl rfl) rfl rfl rfl ⟨⟨rfl,rfl⟩,trivial⟩ (fun a=>⟨rfl,rfl,rfl,rfl,rfl,rfl,rfl,rfl⟩) (fun a b=>?_)
  |exact GX.A (res:=zlk) (meF:=zjd) b ya8 (h1:=LeX.a [(260000,11000000)])
instance yna {n c}:CI E0 (zxb n c) false 109 [.sl 3 (c.map z01)] (fun r=>.tup [.sl 3 (r.1.map z01),aI r.2]):=⟨fun {r} b=>by
 unfold zxb at b;refine cw Tryz.func109 ?_;repeat' first
  |refine AW.step ?_;conv=>whnf
  |refine z10.o b (fun b=>?_) fun b=>?_
  |refine z1h.oR b (fun r=>r) z01 (fun _=>AV.row 0) rfl (fun a h=>y5w h) (fun a b=>?_)
  |refine zab.oM (z3d 7 b) [(200000,6)] [(260000,8000000)] _ _ zjd zlk [6] (fun a h=>ConG.up (zud h)) (z0q Tryz.func121 rfl rfl) rfl rfl rfl ⟨⟨rfl,rfl⟩,trivial⟩ (fun a=>⟨rfl,rfl,rfl,rfl,rfl,rfl,rfl,rfl⟩) (fun a b=>?_)
  |exact RetX.oB b⟩
instance y9b {n a}:CI E0 (z9r n a) true 61 [z0n a] (fun r=>.bool (r)):=by unfold z9r;exact CI.w [1] Tryz.func61
instance y98 {n a}:CI E0 (zde n a) true 60 [.sl 11 (a.map z0u)] (fun r=>.bool (r)):=by unfold zde;exact CI.w [] Tryz.func60
instance y99 {n c}:CI E0 (zdf n c) true 30 [z0m c] (fun r=>.bool (r)):=⟨fun {r} b=>by
 unfold zdf at b;refine cw Tryz.func30 ?_;repeat' first
  |refine AW.jI b (fun v b=>?_) fun b=>?_
  |refine AW.regO b fun b=>?_
  |refine AW.stepU [2,4,7,10,17] ?_;conv=>whnf
  |refine z10.o b (fun b=>?_) fun b=>?_
  |refine z10.t ?_
  |refine z10.f ?_
  |exact ⟨_,b,LeX.a []⟩
  |refine IdxX.A b fun x b=>?_
  |refine IdxX.oD b z2q (fun x b=>?_)
  |refine z1h.I b fun a b=>?_
  |refine z63.I b (LeX.a []) fun m v b=>?_
  |exact RetX.oB b⟩
instance y9f {n a}:CI E0 (zdi n a) true 62 [.sl 3 (a.map z09)] (fun r=>.bool (r)):=by unfold zdi;exact CI.w [] Tryz.func62
instance y9e {n a}:CI E0 (zdh n a) true 31 [.sl 5 (a.map z02)] (fun r=>.bool (r)):=by unfold zdh;exact CI.w [] Tryz.func31
instance y3l {n a}:CI E0 (zba n a) true 100 [z02 a] (fun r=>.bool (r)):=by unfold zba;exact CI.w [] Tryz.func100
instance y9d {n a}:CI E0 (z9s n a) true 101 [z02 a] z14:=by unfold z9s;exact CI.w [] Tryz.func101
instance y6w {n b a}:CI E0 (zas n b a) true 102 [z02 b,z02 a] (fun r=>.bool (r)):=by unfold zas;exact CI.w [] Tryz.func102
end
noncomputable section
abbrev znn {n a b}:=li (z2d n a b) (fun c=>⟨[(0,.sl 5 (a.map z02)),(3,aI c)],[]⟩) fun _ _=>z2d.eq_2 ..
abbrev zn5 {n a d b}:=li (z7p n a d b) (fun c=>⟨[(0,.sl 5 (d.map z02)),(3,.ptr 3 0),(4,.ptr 4 0),(6,aI c)],[(3,.box 74 (yjr a)),(4,.box 71 [aI 0,aI 0,aI 0,aI 0,.nils])]⟩) fun _ _=>z7p.eq_2 ..
abbrev zn6 {n d e f a b}:=li (z1v n d e f a b) (fun c=>⟨[(0,.sl 5 (f.map z02)),(1,aI e),(2,.sl 4 (d.map z0b)),(6,.ptr 6 0),(7,.ptr 7 0),(8,aI c.1)],[(6,.box 220 [.nils]),(7,.box 220 [.cont (a) 13]),(13,.nest 26 (List.map (enR z02 71 5) (c.2)))]⟩) fun _ _=>z1v.eq_2 ..
abbrev zk2 {n}:=jf (z34 n) (fun b=>⟨[(6,.bool (b))],[]⟩) fun _=>z34.eq_1 ..
abbrev zmx {n e d a b}:=li (z7l n e d a b) (fun c=>⟨[(7,.ptr 7 0),(9,.ptr 9 0),(10,.sl 11 (a.fGuards.map z0u)),(11,aI c)],[(7,.box 71 (z19 e)),(9,.box 220 (zd7 d))]⟩) fun _ _=>z7l.eq_2 ..
abbrev zon {n a d b}:=li (z5p n a d b) (fun c=>⟨[(1,aI a),(2,.ptr 2 0),(5,.row 7029),(6,aI c.1)],[(2,.box 25 (z0d d)),(7029,.row 115 17 (c.2.map z0v))]⟩) fun _ _=>z5p.eq_2 ..
abbrev zq6 {n a d b}:=li (z92 n a d b) (fun c=>⟨[(0,.sl 1 (d.map aI)),(1,aI a),(5,aI c)],[]⟩) fun _ _=>z92.eq_2 ..
abbrev zlx {n a d b}:=li (z3y n a d b) (fun c=>⟨[(0,.sl 2 (d.map z08)),(1,aI a),(5,.row 7026),(6,aI c.1)],[(7026,.row 102 2 (c.2.map z08))]⟩) fun _ _=>z3y.eq_2 ..
abbrev zlw {n f g a b c d}:=jf (z3x n f g a b c d) (fun e=>⟨[(0,.sl 2 (a.map z08)),(1,aI g),(2,aI f),(7,.row 7031),(8,aI b.1),(24,.bool (e))],[(7031,.row 102 2 (b.2.map z08))]⟩) fun _=>z3x.eq_1 ..
abbrev zlv {n d e a b}:=li (z2t n d e a b) (fun c=>⟨[(0,.sl 2 (a.map z08)),(1,aI e),(2,aI d),(7,.row 7031),(8,aI c.1)],[(7031,.row 102 2 (c.2.map z08))]⟩) fun _ _=>z2t.eq_2 ..
abbrev zoj {n a d e b}:=li (z8j n a d e b) (fun c=>⟨[(0,.sl 2 (e.map z08)),(2,aI a),(4,.ptr 4 0),(7,aI c)],[(4,.box 209 (zpp d))]⟩) fun _ _=>z8j.eq_2 ..
abbrev zkr {n a b c}:=li (z5b n a b c) (fun d=>⟨[(8,.ptr 8 0),(10,.ptr 10 0),(15,.ptr 15 0),(20,aI d.1)],[(8,.box 115 (z1z a)),(10,.box 60 [aI 0,.nils,.nils]),(15,.box 60 [aI a.fTo,.sl 4 (b.map z0b),.sl 2 (d.2.map z08)])]⟩) fun _ _=>z5b.eq_2 ..
abbrev zks {n a b c d e}:=li (z5c n a b c d e) (fun f=>⟨[(8,.ptr 8 0),(10,.ptr 10 0),(15,.ptr 15 0),(18,.ptr 18 0),(19,aI f)],[(8,.box 115 (z1z a)),(10,.box 60 [aI 0,.nils,.nils]),(15,.box 60 [aI a.fTo,.sl 4 (c.map z0b),.sl 2 (b.map z08)]),(18,.box 220 (zd7 d))]⟩) fun _ _=>z5c.eq_2 ..
abbrev zkt {n e a f g b c}:=li (z5d n e a f g b c) (fun d=>⟨[(1,.sl 5 (g.map z02)),(7,.ptr 7 0),(8,.ptr 8 0),(9,.ptr 9 0),(10,.ptr 10 0),(15,.ptr 15 0),(17,aI d)],[(7,.box 60 (z0x f)),(8,.box 115 (z1z a)),(9,.box 71 (z19 e)),(10,.box 60 [aI 0,.nils,.nils]),(15,.box 60 [aI a.fTo,.nils,.sl 2 (b.map z08)])]⟩) fun _ _=>z5d.eq_2 ..
attribute [instance] znn zn5 zn6 zk2 zmx zon zq6 zlx zlw zlv zoj zkr zks zkt
instance y5j {n a}:CI E0 (za4 n a) true 64 [.sl 5 (a.map z02)] aI:=by unfold za4;exact CI.w [] Tryz.func64
instance y6j {n b a}:CI E0 (z4l n b a) true 32 [z0m b,.sl 5 (a.map z02)] aI:=by unfold z4l;exact CI.w [] Tryz.func32
instance y52 {n}:CI E0 (z9x n) false 65 [] z01:=by unfold z9x;exact CI.w [] Tryz.func65
instance y56 {n b a}:CI E0 (zbv n b a) false 166 [.sl 5 (b.map z02),z14 a] (fun r=>.tup [z02 r.1,.bool (r.2)]):=by unfold zbv;exact CI.w [] Tryz.func166
instance y57 {n e d c}:CI E0 (zed n e d c) false 196 [.sl 5 (e.map z02),aI d,.sl 4 (c.map z0b)] zd6:=⟨fun {r} b=>by
 unfold zed at b;refine cw Tryz.func196 ?_;repeat' first
  |refine AW.nstO (er:=z02) 71 5 b 13 rfl (fun b=>?_)
  |refine AW.frrO (ety:=71) (sz:=5) z02 b 13 rfl (fun b=>?_)
  |refine AW.regO b fun b=>?_
  |refine AW.stepU [9,7,2] ?_;conv=>whnf
  |refine z10.o b (fun b=>?_) fun b=>?_
  |refine z10.f ?_
  |refine MakX.on b (fun m b=>?_)
  |refine IdxX.A b fun x b=>?_
  |refine z1h.I b fun a b=>?_
  |refine OpX.ixc b rfl rfl rfl rfl rfl rfl rfl rfl (fun b=>?_)
  |refine OpX.ntk z02 b rfl rfl rfl rfl rfl rfl rfl rfl rfl rfl (fun q b=>?_)
  |refine AppX.oA b fun l b=>?_
  |refine OpX.npt z02 b rfl rfl rfl rfl rfl rfl rfl rfl rfl rfl rfl (fun l b=>?_)
  |exact ⟨_,b,LeX.a []⟩
  |refine z63.I b (LeX.a []) fun m v b=>?_
  |refine AndA ?_
  |refine EqX.A ?_
  |exact RetX.oB b⟩
def zv5 (r:z0h):AV:=.agg [.sl 1 (List.map (fun q=>AV.sl 5 (List.map z02 q)) (r.fVars))]
instance zrz {n b a}:CI E0 (z9o n b a) false 167 [.sl 5 (b.map z02),z01 a] zd6:=by unfold z9o;exact CI.w [] Tryz.func167
instance y12 {n c b a}:CI E0 (z7k n c b a) true 168 [z0u c,zd6 b,z02 a] (fun r=>.bool (r)):=by unfold z7k;exact CI.w [1] Tryz.func168
instance y51 {n d c b a}:CI E0 (zbt n d c b a) true 125 [z0m d,.sl 5 (c.map z02),z01 b,z02 a] (fun r=>.bool (r)):=by unfold zbt;exact CI.w [] Tryz.func125
instance y6m {n c b}:CI E0 (z6q n c b) false 126 [z0m c,aI b] (fun r=>.sl 17 (r.map z0v)):=⟨fun {r} a=>by
 unfold z6q at a;refine cw Tryz.func126 ?_;repeat' first
  |refine AW.regO a fun a=>?_
  |refine AW.stepU [5] ?_;conv=>whnf
  |refine z10.o a (fun a=>?_) fun a=>?_
  |refine IdxX.A a fun x a=>?_
  |refine AppX.oA a fun l a=>?_
  |exact ⟨_,a,LeX.a [(7029,29)]⟩
  |exact ⟨_,a,LeX.a []⟩
  |refine z63.I a ?_ fun m v a=>?_
  |exact LeX.trans (LeX.adopt 5 7029 115 17 rfl rfl) (LeX.a [])
  |exact RetX.oB a⟩
instance y93 {n b a}:CI E0 (zdc n b a) true 169 [.sl 1 (b.map aI),aI a] (fun r=>.bool (r)):=by unfold zdc;exact CI.w [] Tryz.func169
instance y3f {n c b}:CI E0 (z93 n c b) false 173 [.sl 2 (c.map z08),aI b] (fun r=>.sl 2 (r.map z08)):=⟨fun {r} a=>by
 unfold z93 at a;refine cw Tryz.func173 ?_;repeat' first
  |refine AW.regO a fun a=>?_
  |refine AW.stepU [5] ?_;conv=>whnf
  |refine z10.o a (fun a=>?_) fun a=>?_
  |refine IdxX.A a fun x a=>?_
  |refine AppX.oA a fun l a=>?_
  |exact ⟨_,a,LeX.a [(7026,26)]⟩
  |exact ⟨_,a,LeX.a []⟩
  |refine z63.I a ?_ fun m v a=>?_
  |exact LeX.trans (LeX.adopt 5 7026 102 2 rfl rfl) (LeX.a [])
  |exact RetX.oB a⟩
instance y3e {n e d c}:CI E0 (zb7 n e d c) false 171 [.sl 2 (e.map z08),aI d,aI c] (fun r=>.sl 2 (r.map z08)):=⟨fun {r} b=>by
 unfold zb7 at b;refine cw Tryz.func171 ?_;repeat' first
  |refine AW.jI b (fun v b=>?_) fun b=>?_
  |refine AW.regO b fun b=>?_
  |refine AW.stepU [4] ?_;conv=>whnf
  |refine z10.o b (fun b=>?_) fun b=>?_
  |refine z1h.I b fun a b=>?_
  |refine AppX.oA b fun l b=>?_
  |refine SlsX.o z08 b (fun l b=>?_)
  |refine IdxX.A b fun x b=>?_
  |exact ⟨_,b,LeX.a [(7031,31)]⟩
  |exact ⟨_,b,LeX.a []⟩
  |refine z63.I b ?_ fun m v b=>?_
  |exact LeX.trans (LeX.adopt 7 7031 102 2 rfl rfl) (LeX.a [])
  |exact RetX.oB b⟩
instance y6i {n c b a}:CI E0 (zce n c b a) true 172 [.sl 2 (c.map z08),z23 b,aI a] (fun r=>.bool (r)):=by unfold zce;exact CI.w [] Tryz.func172
end
end Go.Proofs.YtidhlpjgifoneaaGreat
