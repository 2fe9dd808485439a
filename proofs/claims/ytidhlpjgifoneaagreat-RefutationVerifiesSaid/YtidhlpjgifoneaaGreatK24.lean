/- What some functions compute, over plain values. -/
import Derived.Test.YtidhlpjgifoneaaGreatK23
set_option linter.unusedVariables false
set_option linter.unusedSimpArgs false
set_option maxRecDepth 100000
set_option maxHeartbeats 8000000
namespace Go.Proofs.YtidhlpjgifoneaaGreat
open Go.RowKit List
open CI renaming w->aA
open AW renaming step->aB,stepU->aF,regO->aH,jI->bD
open LeX renaming a->aC,trans->aL,adopt->aM
open RetX renaming oB->aD
open ConG renaming walk->aE,up->aG
open Tryz renaming func149->aJ,ntmps149->aQ,func291->aU,func292->aV,func293->aW,func294->aX,func295->aY,func162->aZ,func121->bA
open IdxX renaming A->aK,oD->bE
open Aa renaming o->aN
noncomputable section
abbrev z8c {n b a c}:=li (R2 n b a c) (fun d=>⟨[(0,.sl 11 (a.map Bc)),(1,.fn 142 [.ref (Wa b)]),(7,aI (((a.map Bc).length:Int))),(8,aI d)],[]⟩) fun _ _=>R2.eq_2 ..
abbrev z8u {n a f b c d}:=jf (Iw n a f b c d) (fun e=>⟨[(1,.sl 11 (a.map Bc)),(2,.ptr 2 0),(5,aI b),(6,.ptr 6 0),(11,.sl 11 (a.map Bc)),(12,aI (((a.map Bc).length:Int))),(13,aI b),(18,.bool (e))],[(2,.box 25 (B3 f)),(6,.box 154 (Wa d))]⟩) fun _=>Iw.eq_1 ..
abbrev z8t {n a d b}:=li (Fx n a d b) (fun c=>⟨[(1,.sl 11 (a.map Bc)),(2,.ptr 2 0),(11,.sl 11 (a.map Bc)),(12,aI (((a.map Bc).length:Int))),(13,aI c)],[(2,.box 25 (B3 d))]⟩) fun _ _=>Fx.eq_2 ..
abbrev z80 {n a b}:=li (Qs n a b) (fun c=>⟨[(3,.row 7016),(6,.sl 2 (a.map Cc)),(7,aI (((a.map Cc).length:Int))),(8,aI c.1)],[(7016,.row 3 1 (c.2.map aI))]⟩) fun _ _=>Qs.eq_2 ..
abbrev zbb {n d a b}:=li (Rq n d a b) (fun c=>⟨[(0,.sl 1 (a.map aI)),(1,aI d),(7,aI (((a.map aI).length:Int))),(8,aI c)],[]⟩) fun _ _=>Rq.eq_2 ..
abbrev z8r {n a f c b d}:=li (H5 n a f c b d) (fun e=>⟨[(2,.ptr 2 0),(6,.sl 1 (b.map aI)),(9,.sl 1 (List.map (fun q=>AV.sl 1 (List.map aI q)) (a))),(10,aI ((((List.map (fun q=>AV.sl 1 (List.map aI q)) (a)).length:Nat):Int))),(11,aI c),(15,.sl 1 (b.map aI)),(16,aI (((b.map aI).length:Int))),(17,aI e)],[(2,.box 25 (B3 f))]⟩) fun _ _=>H5.eq_2 ..
abbrev z8s {n a d b}:=li (Iv n a d b) (fun c=>⟨[(2,.ptr 2 0),(9,.sl 1 (List.map (fun q=>AV.sl 1 (List.map aI q)) (a))),(10,aI ((((List.map (fun q=>AV.sl 1 (List.map aI q)) (a)).length:Nat):Int))),(11,aI c)],[(2,.box 25 (B3 d))]⟩) fun _ _=>Iv.eq_2 ..
abbrev z8w {n}:=jf (M9 n) (fun b=>⟨[(2,.bool (b))],[]⟩) fun _=>M9.eq_1 ..
abbrev z3k {n a b}:=li (P9 n a b) (fun c=>⟨[(0,.sl 2 (a.map Cc)),(1,.fn 147 []),(7,aI (((a.map Cc).length:Int))),(8,aI c)],[]⟩) fun _ _=>P9.eq_2 ..
attribute [instance] z8c z8u z8t z80 zbb z8r z8s z8w z3k
instance zke {n b a}:CI E0 (Rh n b a) true 142 [Bc b,.ref (Wa a)] (fun r=>.bool (r)):=by unfold Rh;exact aA [] Tryz.func142
instance znw {n a b}:CI E0 (V8 n a b) true 181 [.sl 11 (a.map Bc),.fn 142 [.ref (Wa b)]] aI:=by unfold V8;exact aA [] Tryz.func181
instance zj9 {n a b}:CI E0 (R4 n a b) true 141 [.sl 11 (a.map Bc),.fn 142 [.ref (Wa b)]] (fun r=>.bool (r)):=by unfold R4;exact aA [] Tryz.func141
instance zo2 {n d c}:CI E0 (Vd n d c) true 104 [Bl d,.sl 11 (c.map Bc)] aI:=⟨fun {r} b=>by
 unfold Vd at b;refine cw Tryz.func104 ?_;repeat' first
  |refine bD b (fun v b=>?_) fun b=>?_
  |refine aH b fun b=>?_
  |refine aF [6] ?_;conv=>whnf
  |refine aN b (fun b=>?_) fun b=>?_
  |refine Aa.t ?_
  |refine aK b fun x b=>?_
  |refine SlsX.o Bc b (fun l b=>?_)
  |refine B8.I b (fun a b=>?_) rfl rfl fun _=>Or.inr rfl
  |refine Af.I b fun a b=>?_
  |exact ⟨_,b,aC []⟩
  |refine Az.I b (aC []) fun m v b=>?_
  |exact aD b⟩
instance znb {n b}:CI E0 (Rk n b) false 145 [.sl 2 (b.map Cc)] (fun r=>.sl 1 (r.map aI)):=⟨fun {r} a=>by
 unfold Rk at a;refine cw Tryz.func145 ?_;repeat' first
  |refine aB ?_;conv=>whnf
  |refine aN a (fun a=>?_) fun a=>?_
  |refine aK a fun x a=>?_
  |refine AppX.oA a fun l a=>?_
  |exact ⟨_,a,aC [(7016,16)]⟩
  |refine Az.I a ?_ fun m v a=>?_
  |exact aL (aM 3 7016 3 1 rfl rfl) (aC [])
  |exact aD a⟩
instance zub {n b a}:CI E0 (Yq n b a) true 212 [.sl 1 (b.map aI),aI a] aI:=by unfold Yq;exact aA [] Tryz.func212
instance zpm {n b a}:CI E0 (Hb n b a) true 184 [.sl 1 (b.map aI),aI a] (fun r=>.bool (r)):=by unfold Hb;exact aA [] Tryz.func184
instance zo1 {n d c}:CI E0 (Vc n d c) true 144 [Bl d,.sl 1 (List.map (fun q=>AV.sl 1 (List.map aI q)) (c))] aI:=⟨fun {r} b=>by
 unfold Vc at b;refine cw Tryz.func144 ?_;repeat' first
  |refine aB ?_;conv=>whnf
  |refine aN b (fun b=>?_) fun b=>?_
  |refine IdxX.o (fun q=>AV.sl 1 (List.map aI q)) b fun x b=>?_
  |exact ⟨_,b,aC []⟩
  |refine aK b fun x b=>?_
  |refine Af.I b fun a b=>?_
  |refine SlsX.o aI b (fun l b=>?_)
  |refine Az.I b (aC []) fun m v b=>?_
  |exact aD b⟩
instance zo3 {n a}:CI E0 (Mn n a) true 147 [Cc a] (fun r=>.bool (r)):=by unfold Mn;exact aA [1] Tryz.func147
instance zhf {n a}:CI E0 (U4 n a) true 185 [.sl 2 (a.map Cc),.fn 147 []] aI:=by unfold U4;exact aA [] Tryz.func185
instance ze7 {n a}:CI E0 (Pa n a) true 146 [.sl 2 (a.map Cc),.fn 147 []] (fun r=>.bool (r)):=by unfold Pa;exact aA [] Tryz.func146
end
noncomputable section
abbrev zam {n a d b}:=li (Rl n a d b) (fun c=>⟨[(3,.ptr 3 0),(4,.ptr 4 0),(63,.sl 8 (a.fChecks.map idA)),(64,aI (((a.fChecks.map idA).length:Int))),(65,aI c)],[(3,.box 25 (B3 d)),(4,.box 115 (C7 a))]⟩) fun _ _=>Rl.eq_2 ..
abbrev zan {n a c d}:=jf (E5 n a c d) (fun b=>⟨[(2,aI a),(3,.ptr 3 0),(4,.ptr 4 0),(12,.bool (b))],[(3,.box 25 (B3 d)),(4,.box 115 (C7 c))]⟩) fun _=>E5.eq_1 ..
abbrev z9r {n a b}:=li (Ri n a b) (fun c=>⟨[(1,.ptr 1 0),(6,aI c.1),(62,.sl 17 (a.fEdges.map B6)),(63,aI (((a.fEdges.map B6).length:Int))),(64,aI c.2)],[(1,.box 25 (B3 a))]⟩) fun _ _=>Ri.eq_2 ..
abbrev z9s {n a b}:=li (Rj n a b) (fun c=>⟨[(1,.ptr 1 0),(47,.sl 1 (a.fStates.map Ba)),(48,aI (((a.fStates.map Ba).length:Int))),(49,aI c)],[(1,.box 25 (B3 a))]⟩) fun _ _=>Rj.eq_2 ..
abbrev z9t {n a}:=jf (Fz n a) (fun b=>⟨[(1,.ptr 1 0),(29,.bool (b))],[(1,.box 25 (B3 a))]⟩) fun _=>Fz.eq_1 ..
abbrev z9u {n a}:=jf (F0 n a) (fun b=>⟨[(1,.ptr 1 0),(10,.bool (b))],[(1,.box 25 (B3 a))]⟩) fun _=>F0.eq_1 ..
abbrev z63 {n}:=jf (Ia n) (fun b=>⟨[(2,.bool (b))],[]⟩) fun _=>Ia.eq_1 ..
abbrev z4q {n}:=jf (Gl n) (fun b=>⟨[(58,.bool (b))],[]⟩) fun _=>Gl.eq_1 ..
abbrev z4p {n}:=jf (Ky n) (fun b=>⟨[(70,.bool (b))],[]⟩) fun _=>Ky.eq_1 ..
abbrev z4r {n a}:=jf (Kz n a) (fun b=>⟨[(1,.ptr 1 0),(23,.bool (b))],[(1,.box 313 (Vf a))]⟩) fun _=>Kz.eq_1 ..
abbrev z4s {n a}:=jf (L0 n a) (fun b=>⟨[(1,.ptr 1 0),(15,.bool (b))],[(1,.box 313 (Vf a))]⟩) fun _=>L0.eq_1 ..
abbrev z7l {n a}:=jt (Io n a) (fun b=>⟨[(4,.ptr 4 0),(8,.ptr 8 0)],[(4,.box 313 [aI 0,aI 0,aI 0,aI 0,.str (ByteArray.empty)]),(8,.box 313 [aI a.fKind,aI ((IntKind.wrap .i64 (a.fCount+1))),aI b.1,aI b.2.1,.str (b.2.2)])]⟩) fun _=>Io.eq_1 ..
abbrev z3h {n a c}:=jf (Km n a c) (fun b=>⟨[(2,.ptr 2 0),(3,.ptr 3 0),(4,.ptr 4 0),(35,.bool (b))],[(2,.box 313 (Vf c)),(3,.box 109 (Cd a)),(4,.box 109 [aI 0,aI 0,.str (ByteArray.empty)])]⟩) fun _=>Km.eq_1 ..
abbrev z8a {n a d c}:=li (Qy n a d c) (fun b=>⟨[(1,.sl 3 (d.map Ag)),(5,.ptr 5 0),(6,.ptr 6 0),(8,.ptr 8 0),(9,aI b.1)],[(5,.box 109 (Cd a)),(6,.box 109 [aI 0,aI 0,.str (ByteArray.empty)]),(8,.box 313 [aI b.2.1,aI b.2.2.1,aI b.2.2.2.1,aI b.2.2.2.2.1,.str (b.2.2.2.2.2)])]⟩) fun _ _=>Qy.eq_2 ..
attribute [instance] zam zan z9r z9s z9t z9u z63 z4q z4p z4r z4s z7l z3h z8a
instance zsm {n e d c}:CI E0 (Vo n e d c) true 105 [Bl e,B6 d,aI c] aI:=⟨fun {r} b=>by
 unfold Vo at b;refine cw Tryz.func105 ?_;repeat' first
  |refine bD b (fun v b=>?_) fun b=>?_
  |refine aH b fun b=>?_
  |refine aF [1] ?_;conv=>whnf
  |refine aN b (fun b=>?_) fun b=>?_
  |refine Aa.t ?_
  |refine Af.I b fun a b=>?_
  |refine bE b D4 (fun x b=>?_)
  |exact ⟨_,b,aC []⟩
  |refine Az.I b (aC []) fun m v b=>?_
  |refine AndA ?_
  |exact aD b⟩
instance zpz {n a}:CI E0 (Mt n a) true 69 [Bl a] aI:=by unfold Mt;exact aA [1,3] Tryz.func69
instance zk9 {n a}:CI E0 (Rb n a) true 273 [aI a] (fun r=>.bool (r)):=by unfold Rb;exact aA [1] Tryz.func273
instance zj4 {n a}:CI E0 (Qz n a) true 277 [E6 a] aI:=by unfold Qz;exact aA [3,5,11,14] Tryz.func277
instance zj2 {n b a}:CI E0 (Qx n b a) true 278 [aI b,Ag a] aI:=by unfold Qx;exact aA [] Tryz.func278
instance zfk {n c b a}:CI E0 (Tq n c b a) true 279 [aI c,Ag b,Ag a] Ag:=by unfold Tq;exact aA [] Tryz.func279
instance zmv {n b a}:CI E0 (Ut n b a) true 274 [E6 b,Ag a] (fun r=>.tup [E6 r.1,aI r.2]):=by unfold Ut;exact aA [10,12] Tryz.func274
instance zhb {n b a}:CI E0 (Qn n b a) true 275 [E6 b,Ag a] (fun r=>.tup [Ag r.1,aI r.2]):=by unfold Qn;exact aA [9] Tryz.func275
end
noncomputable section
abbrev z3g {n a c}:=jf (Kl n a c) (fun b=>⟨[(1,aI a),(2,.ptr 2 0),(13,.bool (b))],[(2,.box 220 (Dj c))]⟩) fun _=>Kl.eq_1 ..
abbrev z5v {n d a b}:=li (Q8 n d a b) (fun c=>⟨[(4,.ptr 4 0),(8,.ptr 8 0),(10,.row 7063),(11,.sl 5 (a.map A7)),(12,aI c.1)],[(4,.box 111 (Cm d)),(8,.box 109 [aI 0,aI 0,.str (ByteArray.empty)]),(7063,.row 109 3 (c.2.map Ag))]⟩) fun _ _=>Q8.eq_2 ..
abbrev z1j {n}:=jt (Hr n) (fun b=>⟨[(9,.bool (b))],[]⟩) fun _=>Hr.eq_1 ..
abbrev z1k {n a}:=jt (Ge n a) (fun b=>⟨[(3,aI a),(4,.bool (b))],[]⟩) fun _=>Ge.eq_1 ..
abbrev z1i {n a e b c}:=jf (Fj n a e b c) (fun d=>⟨[(0,aI e),(1,.sl 1 (a.map aI)),(5,aI b),(38,.bool (d))],[]⟩) fun _=>Fj.eq_1 ..
abbrev z1h {n a d b}:=li (Ex n a d b) (fun c=>⟨[(0,aI d),(1,.sl 1 (a.map aI)),(5,aI c)],[]⟩) fun _ _=>Ex.eq_2 ..
abbrev z4j {n}:=jf (Kv n) (fun b=>⟨[(4,.ptr 4 0)],[(4,.box 109 [aI b.1,aI b.2.1,.str (b.2.2)])]⟩) fun _=>Kv.eq_1 ..
abbrev z4i {n}:=jf (Ku n) (fun b=>⟨[(4,.ptr 4 0)],[(4,.box 109 [aI b.1,aI b.2.1,.str (b.2.2)])]⟩) fun _=>Ku.eq_1 ..
abbrev z62 {n b a e f g d}:=li (Q9 n b a e f g d) (fun c=>⟨[(2,aI e),(4,.ptr 4 0),(5,.ptr 5 0),(7,.ptr 7 0),(8,.ptr 8 0),(10,.row 7053),(11,.row 7058),(12,aI c.1)],[(4,.box 111 (Cm g)),(5,.box 220 (Dj f)),(7,.box 71 (Bw a)),(8,.box 109 [aI 0,aI 0,.str (ByteArray.empty)]),(7053,.row 109 3 (c.2.1.map Ag)),(7058,.row 3 1 (c.2.2.map aI))]⟩) fun _ _=>Q9.eq_2 ..
abbrev z4k {n}:=jf (Kw n) (fun b=>⟨[(8,.bool (b))],[]⟩) fun _=>Kw.eq_1 ..
attribute [instance] z3g z5v z1j z1k z1i z1h z4j z4i z62 z4k
instance znv {n c b a}:CI E0 (Rn n c b a) true 266 [aI c,.sl 3 (b.map Ag),Ag a] (fun r=>.tup [Ag r.1,aI r.2]):=by unfold Rn;exact aA [] Tryz.func266
instance zha {n c b}:CI E0 (Lx n c b) false 265 [Di c,aI b] (fun r=>.sl 5 (r.map A7)):=⟨fun {r} a=>by
 unfold Lx at a;refine cw Tryz.func265 ?_;repeat' first
  |refine bD a (fun v a=>?_) fun a=>?_
  |refine aH a fun a=>?_
  |refine aF [1] ?_;conv=>whnf
  |refine aN a (fun a=>?_) fun a=>?_
  |refine IdxX.o (fun q=>AV.sl 5 (List.map A7 q)) a fun x a=>?_
  |exact ⟨_,a,aC []⟩
  |exact aD a⟩
instance zk5 {n d c b a}:CI E0 (Y9 n d c b a) false 267 [Di d,aI c,aI b,A7 a] (fun r=>.tup [A7 r.1,.bool (r.2)]):=by unfold Y9;exact aA [] Tryz.func267
instance zk3 {n f e d c}:CI E0 (Ra n f e d c) true 248 [Av f,Di e,aI d,A7 c] (fun r=>.tup [Ag r.1,aI r.2]):=⟨fun {r} b=>by
 unfold Ra at b;refine cw Tryz.func248 ?_;repeat' first
  |refine aB ?_;conv=>whnf
  |refine aN b (fun b=>?_) fun b=>?_
  |refine Af.I b fun a b=>?_
  |refine B8.I b (fun a b=>?_) rfl rfl fun _=>Or.inr rfl
  |refine aK b fun x b=>?_
  |refine AppX.oA b fun l b=>?_
  |exact ⟨_,b,aC [(7063,63)]⟩
  |refine Az.I b ?_ fun m v b=>?_
  |exact aL (aM 10 7063 109 3 rfl rfl) (aC [])
  |refine AndA ?_
  |exact aD b⟩
instance zer {n a}:CI E0 (Tm n a) true 268 [aI a] aI:=by unfold Tm;exact aA [2,3,4,7,8] Tryz.func268
instance zeq {n b a}:CI E0 (Xj n b a) true 249 [aI b,.sl 1 (a.map aI)] aI:=by unfold Xj;exact aA [5] Tryz.func249
instance zk7 {n a}:CI E0 (Dq n a) true 68 [.bool (a)] Ag:=by unfold Dq;exact aA [] Tryz.func68
instance zix {n b a}:CI E0 (M5 n b a) true 250 [aI b,.sl 3 (a.map Ag)] Ag:=by unfold M5;exact aA [13,15] Tryz.func250
def z9z (r:Ab×Int):AV:=.tup [.agg [aI (r.1.fKind),aI (r.1.fNum),.str (r.1.fText)],aI (r.2)]
theorem z5d {n f e d c r}(b:H7 n f e d c=some r):Con E0 true 228 [Av f,Di e,aI d,A7 c] (.tup [Ag r.1,aI r.2]):=by
 induction n generalizing f e d c r
 case zero=>cases b
 case succ n g =>
 unfold H7 at b;refine cw Tryz.func228 ?_;repeat' first
  |refine aB ?_;conv=>whnf
  |refine aN b (fun b=>?_) fun b=>?_
  |refine Af.I b fun a b=>?_
  |refine B8.I b (fun a b=>?_) rfl rfl fun _=>Or.inr rfl
  |refine bE b D4 (fun x b=>?_)
  |refine Af.o b z9z (fun a h=>g h) (fun a b=>?_)
  |refine AppX.oA b fun l b=>?_
  |exact ⟨_,b,aC [(7053,53),(7058,58)]⟩
  |refine Az.I b ?_ fun m v b=>?_
  |exact aL (aM 10 7053 109 3 rfl rfl) (aL (aM 11 7058 3 1 rfl rfl) (aC []))
  |refine AndA ?_
  |exact aD b
instance zk6 {n d c b a}:CI E0 (H7 n d c b a) true 228 [Av d,Di c,aI b,A7 a] (fun r=>.tup [Ag r.1,aI r.2]):=⟨z5d⟩
instance zk8 {n d c b a}:CI E0 (Ya n d c b a) true 197 [Av d,Di c,aI b,A7 a] (fun r=>.tup [Ag r.1,aI r.2]):=by unfold Ya;exact aA [] Tryz.func197
end
noncomputable section
abbrev z28 {n a f b c d}:=jf (K7 n a f b c d) (fun e=>⟨[(2,.ptr 2 0),(3,.ptr 3 0),(5,aI b),(18,.bool (e))],[(2,.box 44 (G3 f)),(3,.box 44 (G3 a))]⟩) fun _=>K7.eq_1 ..
abbrev z27 {n a d b}:=li (Hv n a d b) (fun c=>⟨[(2,.ptr 2 0),(3,.ptr 3 0),(5,aI c)],[(2,.box 44 (G3 d)),(3,.box 44 (G3 a))]⟩) fun _ _=>Hv.eq_2 ..
abbrev z24 {n a g b c d e}:=jf (Hu n a g b c d e) (fun f=>⟨[(2,.ptr 2 0),(3,.ptr 3 0),(6,aI b),(7,.ptr 7 0),(8,.ptr 8 0),(71,.bool (f))],[(2,.box 60 (Bi g)),(3,.box 60 (Bi a)),(7,.box 102 (zal d)),(8,.box 102 (zal e))]⟩) fun _=>Hu.eq_1 ..
abbrev z26 {n a f b c d}:=jf (K6 n a f b c d) (fun e=>⟨[(2,.ptr 2 0),(3,.ptr 3 0),(6,aI b),(40,.bool (e))],[(2,.box 60 (Bi f)),(3,.box 60 (Bi a))]⟩) fun _=>K6.eq_1 ..
abbrev z23 {n a d b}:=li (Ht n a d b) (fun c=>⟨[(2,.ptr 2 0),(3,.ptr 3 0),(6,aI c)],[(2,.box 60 (Bi d)),(3,.box 60 (Bi a))]⟩) fun _ _=>Ht.eq_2 ..
abbrev z6z {n a d b}:=jf (Lo n a d b) (fun c=>⟨[(0,.sl 3 (d.map A4)),(3,.ptr 3 0),(5,aI b),(34,.bool (c))],[(3,.box 60 (Bi a))]⟩) fun _=>Lo.eq_1 ..
abbrev z6y {n a f b c d}:=jf (Ln n a f b c d) (fun e=>⟨[(0,.sl 3 (f.map A4)),(3,.ptr 3 0),(5,aI b),(19,.bool (e))],[(3,.box 60 (Bi a))]⟩) fun _=>Ln.eq_1 ..
abbrev z6x {n a d b}:=li (Ih n a d b) (fun c=>⟨[(0,.sl 3 (d.map A4)),(3,.ptr 3 0),(5,aI c)],[(3,.box 60 (Bi a))]⟩) fun _ _=>Ih.eq_2 ..
abbrev z9w {n}:=jf (J1 n) (fun b=>⟨[(2,.bool (b))],[]⟩) fun _=>J1.eq_1 ..
abbrev z9v {n}:=jf (H8 n) (fun b=>⟨[(4,.bool (b))],[]⟩) fun _=>H8.eq_1 ..
attribute [instance] z28 z27 z24 z26 z23 z6z z6y z6x z9w z9v
instance ziy {n d c b a}:CI E0 (Ft n d c b a) true 170 [Av d,Di c,aI b,A7 a] (fun r=>.bool (r)):=by unfold Ft;exact aA [2] Tryz.func170
instance zj5 {n b a}:CI E0 (M7 n b a) true 90 [Be b,Be a] aI:=by unfold M7;exact aA [] Tryz.func90
instance zis {n b a}:CI E0 (U8 n b a) true 55 [Ar b,Ar a] aI:=by unfold U8;exact aA [] Tryz.func55
instance zfj {n b a}:CI E0 (La n b a) true 21 [Au b,Au a] aI:=by unfold La;exact aA [2] Tryz.func21
instance zfi {n b a}:CI E0 (L6 n b a) true 29 [A4 b,A4 a] aI:=by unfold L6;exact aA [9,12] Tryz.func29
instance zmm {n d c}:CI E0 (Mf n d c) false 103 [.sl 3 (d.map A4),A4 c] (fun r=>.sl 3 (r.map A4)):=⟨fun {r} b=>by
 unfold Mf at b;refine cw Tryz.func103 ?_;repeat' first
  |refine bD b (fun v b=>?_) fun b=>?_
  |refine aH b fun b=>?_
  |refine aF [2,4] ?_;conv=>whnf
  |refine aN b (fun b=>?_) fun b=>?_
  |refine SlsX.o A4 b (fun l b=>?_)
  |refine AppX.oA0 b fun l b=>?_
  |refine AppX.oA b fun l b=>?_
  |refine aK b fun x b=>?_
  |refine Af.I b fun a b=>?_
  |exact ⟨_,b,aC []⟩
  |refine Az.I b (aC []) fun m v b=>?_
  |refine AndA ?_
  |exact aD b⟩
instance zq2 {n a}:CI E0 (Rx n a) true 280 [aI a] (fun r=>.bool (r)):=by unfold Rx;exact aA [1] Tryz.func280
instance zq1 {n b a}:CI E0 (Rw n b a) true 287 [aI b,Ag a] (fun r=>.bool (r)):=by unfold Rw;exact aA [1] Tryz.func287
instance zq0 {n b a}:CI E0 (Mu n b a) true 281 [aI b,Ag a] aI:=by unfold Mu;exact aA [] Tryz.func281
instance zo4 {n b a}:CI E0 (Yg n b a) true 285 [aI b,Ag a] Ag:=by unfold Yg;exact aA [] Tryz.func285
instance zjg {n}:CI E0 (Y7 n) true 290 [] Ag:=by unfold Y7;exact aA [] Tryz.func290
def z9g (b:Ab)(a:Ab):List (Nat×Ent):=[(100000,.box 109 (Cd b)),(100001,.box 109 (Cd a))]
def Xy (r:Ab×Ab×Ab):List (Nat×Ent):=[(2,.box 109 (Cd r.1)),(100000,.box 109 (Cd r.2.1)),(100001,.box 109 (Cd r.2.2))]
def z0b (r:Ab×Ab×Ab):AV:=.agg [aI (r.1.fKind),aI (r.1.fNum),.str (r.1.fText)]
def z95 (r:Ab×Ab×Ab):AS:=⟨[(2,.ptr 2 0),(0,.ptr 100000 0),(1,.ptr 100001 0)],Xy r⟩
end
noncomputable section
abbrev z8x {n c a d}:=li (R8 n c a d) (fun b=>⟨[(2,.fn 283 [.ref [aI c]]),(3,.ptr 3 0),(6,.ptr 6 0),(9,.sl 3 (a.map Ag)),(10,aI (((a.map Ag).length:Int))),(11,aI b.1)],[(3,.box 313 [aI b.2.1,aI b.2.2.1,aI b.2.2.2.1,aI b.2.2.2.2.1,.str (b.2.2.2.2.2)]),(6,.box 313 [aI 0,aI 0,aI 0,aI 0,.str (ByteArray.empty)])]⟩) fun _ _=>R8.eq_2 ..
abbrev z9y {n a}:=jf (Me n a) (fun b=>⟨[(1,.ptr 1 0),(10,.bool (b))],[(1,.box 313 (Vf a))]⟩) fun _=>Me.eq_1 ..
abbrev z8y {n a c}:=jf (Mb n a c) (fun b=>⟨[(2,.ptr 2 0),(3,.ptr 3 0),(4,.ptr 4 0),(29,.bool (b))],[(2,.box 313 (Vf c)),(3,.box 109 (Cd a)),(4,.box 109 [aI 0,aI 0,.str (ByteArray.empty)])]⟩) fun _=>Mb.eq_1 ..
abbrev zbo {n d a e b}:=li (Ry n d a e b) (fun c=>⟨[(1,.sl 3 (a.map Ag)),(3,.ptr 3 0),(5,.ptr 5 0),(6,.ptr 6 0),(22,.sl 3 (a.map Ag)),(23,aI (((a.map Ag).length:Int))),(24,aI c)],[(3,.box 3 [aI e]),(5,.box 109 (Cd d)),(6,.box 109 [aI 0,aI 0,.str (ByteArray.empty)])]⟩) fun _ _=>Ry.eq_2 ..
attribute [instance] z8x z9y z8y zbo
theorem z6j {n b a r}(c:Y6 n b a=some r):ConG E0.P none (CalF E0.P 291 0) [.ptr 100000 0,.ptr 100001 0] [] (z9g b a) (z0b r) (Xy r):=by
 unfold Y6 at c;refine aE (E:=(E0p 2)) (caps:=[]) _ aU rfl rfl rfl rfl rfl ?_;repeat' first
  |refine aB ?_;conv=>whnf
  |exact GX.A (res:=z0b) (meF:=Xy) c z95
def z9f (b:Ab)(a:Ab):List (Nat×Ent):=[(100000,.box 109 (Cd b)),(100001,.box 109 (Cd a))]
def Xx (r:Ab×Ab×Ab):List (Nat×Ent):=[(2,.box 109 (Cd r.1)),(100000,.box 109 (Cd r.2.1)),(100001,.box 109 (Cd r.2.2))]
def z0a (r:Ab×Ab×Ab):AV:=.agg [aI (r.1.fKind),aI (r.1.fNum),.str (r.1.fText)]
def z94 (r:Ab×Ab×Ab):AS:=⟨[(2,.ptr 2 0),(0,.ptr 100000 0),(1,.ptr 100001 0)],Xx r⟩
theorem z6i {n b a r}(c:Y5 n b a=some r):ConG E0.P none (CalF E0.P 292 0) [.ptr 100000 0,.ptr 100001 0] [] (z9f b a) (z0a r) (Xx r):=by
 unfold Y5 at c;refine aE (E:=(E0p 2)) (caps:=[]) _ aV rfl rfl rfl rfl rfl ?_;repeat' first
  |refine aB ?_;conv=>whnf
  |exact GX.A (res:=z0a) (meF:=Xx) c z94
def z9e (b:Ab)(a:Ab):List (Nat×Ent):=[(100000,.box 109 (Cd b)),(100001,.box 109 (Cd a))]
def Xw (r:Ab×Ab×Ab):List (Nat×Ent):=[(2,.box 109 (Cd r.1)),(100000,.box 109 (Cd r.2.1)),(100001,.box 109 (Cd r.2.2))]
def z09 (r:Ab×Ab×Ab):AV:=.agg [aI (r.1.fKind),aI (r.1.fNum),.str (r.1.fText)]
def z93 (r:Ab×Ab×Ab):AS:=⟨[(2,.ptr 2 0),(0,.ptr 100000 0),(1,.ptr 100001 0)],Xw r⟩
theorem z6h {n b a r}(c:Y4 n b a=some r):ConG E0.P none (CalF E0.P 293 0) [.ptr 100000 0,.ptr 100001 0] [] (z9e b a) (z09 r) (Xw r):=by
 unfold Y4 at c;refine aE (E:=(E0p 2)) (caps:=[]) _ aW rfl rfl rfl rfl rfl ?_;repeat' first
  |refine aB ?_;conv=>whnf
  |exact GX.A (res:=z09) (meF:=Xw) c z93
def z9d (a:Ab):List (Nat×Ent):=[(100000,.box 109 (Cd a))]
def Xv (r:Ab×Ab):List (Nat×Ent):=[(1,.box 109 (Cd r.1)),(100000,.box 109 (Cd r.2))]
def z08 (r:Ab×Ab):AV:=.agg [aI (r.1.fKind),aI (r.1.fNum),.str (r.1.fText)]
def z92 (r:Ab×Ab):AS:=⟨[(1,.ptr 1 0),(0,.ptr 100000 0)],Xv r⟩
theorem z6g {n a r}(b:Y3 n a=some r):ConG E0.P none (CalF E0.P 294 0) [.ptr 100000 0] [] (z9d a) (z08 r) (Xv r):=by
 unfold Y3 at b;refine aE (E:=(E0p 1)) (caps:=[]) _ aX rfl rfl rfl rfl rfl ?_;repeat' first
  |refine aB ?_;conv=>whnf
  |exact GX.A (res:=z08) (meF:=Xv) b z92
def z9c (a:Ab):List (Nat×Ent):=[(100000,.box 109 (Cd a))]
def Xu (r:Ab×Ab):List (Nat×Ent):=[(1,.box 109 (Cd r.1)),(100000,.box 109 (Cd r.2))]
def z07 (r:Ab×Ab):AV:=.agg [aI (r.1.fKind),aI (r.1.fNum),.str (r.1.fText)]
def z91 (r:Ab×Ab):AS:=⟨[(1,.ptr 1 0),(0,.ptr 100000 0)],Xu r⟩
theorem z6f {n a r}(b:Y2 n a=some r):ConG E0.P none (CalF E0.P 295 0) [.ptr 100000 0] [] (z9c a) (z07 r) (Xu r):=by
 unfold Y2 at b;refine aE (E:=(E0p 1)) (caps:=[]) _ aY rfl rfl rfl rfl rfl ?_;repeat' first
  |refine aB ?_;conv=>whnf
  |exact GX.A (res:=z07) (meF:=Xu) b z91
instance znc {n e d c}:CI E0 (V6 n e d c) true 288 [aI e,Ag d,Ag c] Ag:=⟨fun {r} b=>by
 unfold V6 at b;refine cw Tryz.func288 ?_;repeat' first
  |refine aB ?_;conv=>whnf
  |refine NatX.oS b rfl (fun b=>?_) (fun b=>?_)
  |(cases b;done)
  |refine Af.I b fun a b=>?_
  |refine B8.oM (Bo 15 b) [(100000,4),(100001,5)] [(2,16000000),(100000,4),(100001,5)] _ _ Xy z0b [] (fun a h=>aG (z6j h)) (Ay aU rfl rfl) rfl rfl rfl ⟨⟨rfl,rfl⟩,⟨⟨rfl,rfl⟩,trivial⟩⟩ (fun a=>⟨rfl,rfl,rfl,rfl,rfl,rfl,rfl,rfl⟩) (fun a b=>?_)
  |refine B8.oM (Bo 15 b) [(100000,4),(100001,5)] [(2,16000000),(100000,4),(100001,5)] _ _ Xx z0a [] (fun a h=>aG (z6i h)) (Ay aV rfl rfl) rfl rfl rfl ⟨⟨rfl,rfl⟩,⟨⟨rfl,rfl⟩,trivial⟩⟩ (fun a=>⟨rfl,rfl,rfl,rfl,rfl,rfl,rfl,rfl⟩) (fun a b=>?_)
  |refine B8.oM (Bo 15 b) [(100000,4),(100001,5)] [(2,16000000),(100000,4),(100001,5)] _ _ Xw z09 [] (fun a h=>aG (z6h h)) (Ay aW rfl rfl) rfl rfl rfl ⟨⟨rfl,rfl⟩,⟨⟨rfl,rfl⟩,trivial⟩⟩ (fun a=>⟨rfl,rfl,rfl,rfl,rfl,rfl,rfl,rfl⟩) (fun a b=>?_)
  |refine B8.oM (Bo 15 b) [(100000,4)] [(1,16000000),(100000,4)] _ _ Xv z08 [] (fun a h=>aG (z6g h)) (Ay aX rfl rfl) rfl rfl rfl ⟨⟨rfl,rfl⟩,trivial⟩ (fun a=>⟨rfl,rfl,rfl,rfl,rfl,rfl,rfl,rfl⟩) (fun a b=>?_)
  |refine B8.oM (Bo 15 b) [(100000,5)] [(1,16000000),(100000,5)] _ _ Xu z07 [] (fun a h=>aG (z6f h)) (Ay aY rfl rfl) rfl rfl rfl ⟨⟨rfl,rfl⟩,trivial⟩ (fun a=>⟨rfl,rfl,rfl,rfl,rfl,rfl,rfl,rfl⟩) (fun a b=>?_)
  |exact aD b⟩
instance zo5 {n b a}:CI E0 (Yh n b a) true 284 [E6 b,E6 a] E6:=by unfold Yh;exact aA [] Tryz.func284
instance zsn {n c b a}:CI E0 (Ym n c b a) true 283 [E6 c,Ag b,.ref [aI a]] E6:=by unfold Ym;exact aA [] Tryz.func283
instance zo6 {n c a b}:CI E0 (Ve n c a b) true 282 [E6 c,.sl 3 (a.map Ag),.fn 283 [.ref [aI b]]] E6:=by unfold Ve;exact aA [] Tryz.func282
instance zq3 {n a}:CI E0 (Vm n a) true 289 [E6 a] aI:=by unfold Vm;exact aA [3,7,9,11,6] Tryz.func289
instance zo7 {n b a}:CI E0 (Ro n b a) true 286 [E6 b,Ag a] (fun r=>.tup [Ag r.1,aI r.2]):=by unfold Ro;exact aA [9] Tryz.func286
instance zug {n e d c}:CI E0 (S9 n e d c) true 276 [aI e,.sl 3 (d.map Ag),Ag c] (fun r=>.tup [Ag r.1,aI r.2]):=⟨fun {r} b=>by
 unfold S9 at b;refine cw Tryz.func276 ?_;repeat' first
  |refine aB ?_;conv=>whnf
  |refine aN b (fun b=>?_) fun b=>?_
  |refine Af.I b fun a b=>?_
  |refine B8.I b (fun a b=>?_) rfl rfl fun _=>Or.inr rfl
  |refine aK b fun x b=>?_
  |exact ⟨_,b,aC []⟩
  |refine Az.I b (aC []) fun m v b=>?_
  |exact aD b⟩
instance y13 {n a}:CI E0 (Wd n a) true 176 [aI a] (fun r=>.bool (r)):=by unfold Wd;exact aA [] Tryz.func176
instance zxx {n b a}:CI E0 (Cy n b a) true 135 [aI b,aI a] aI:=by unfold Cy;exact aA [] Tryz.func135
end
noncomputable section
abbrev zq4 {n a b}:=li (Se n a b) (fun c=>⟨[(3,aI 0),(6,.sl 1 (a.map aI)),(7,aI (((a.map aI).length:Int))),(8,aI c)],[]⟩) fun _ _=>Se.eq_2 ..
abbrev z64 {n d a b}:=li (Qa n d a b) (fun c=>⟨[(0,.sl 4 (a.map Ar)),(1,.sl 4 (d.map Ar)),(2,.fn 132 []),(11,.sl 4 (a.map Ar)),(12,aI (((a.map Ar).length:Int))),(13,aI c)],[]⟩) fun _ _=>Qa.eq_2 ..
abbrev z1l {n d a b}:=li (Og n d a b) (fun c=>⟨[(0,.sl 2 (a.map Ad)),(1,.sl 2 (d.map Ad)),(2,.fn 165 []),(11,.sl 2 (a.map Ad)),(12,aI (((a.map Ad).length:Int))),(13,aI c)],[]⟩) fun _ _=>Og.eq_2 ..
abbrev zcq {n}:=jf (F6 n) (fun b=>⟨[(2,.bool (b))],[]⟩) fun _=>F6.eq_1 ..
abbrev z3i {n b a c}:=li (P7 n b a c) (fun d=>⟨[(0,.sl 4 (a.map Ar)),(1,.fn 155 [.ref (Bw b)]),(7,aI (((a.map Ar).length:Int))),(8,aI d)],[]⟩) fun _ _=>P7.eq_2 ..
abbrev z3j {n b a c}:=li (P8 n b a c) (fun d=>⟨[(0,.sl 3 (a.map A4)),(1,.fn 118 [.ref (Bw b)]),(7,aI (((a.map A4).length:Int))),(8,aI d)],[]⟩) fun _ _=>P8.eq_2 ..
attribute [instance] zq4 z64 z1l zcq z3i z3j
instance y4l {n a}:CI E0 (Em n a) true 133 [.sl 1 (a.map aI)] aI:=by unfold Em;exact aA [] Tryz.func133
instance zyt {n b a}:CI E0 (W6 n b a) true 134 [Be b,Be a] aI:=by unfold W6;exact aA [] Tryz.func134
instance zpu {n b a}:CI E0 (Vl n b a) true 132 [Ar b,Ar a] aI:=by unfold Vl;exact aA [] Tryz.func132
instance zkc {n b a}:CI E0 (Ug n b a) true 131 [.sl 4 (b.map Ar),.sl 4 (a.map Ar),.fn 132 []] aI:=by unfold Ug;exact aA [] Tryz.func131
instance zty {n b a}:CI E0 (S2 n b a) true 92 [Au b,Au a] aI:=by unfold S2;exact aA [] Tryz.func92
instance ztx {n b a}:CI E0 (Vs n b a) true 165 [Ad b,Ad a] aI:=by unfold Vs;exact aA [] Tryz.func165
instance zes {n b a}:CI E0 (Tn n b a) true 164 [.sl 2 (b.map Ad),.sl 2 (a.map Ad),.fn 165 []] aI:=by unfold Tn;exact aA [] Tryz.func164
instance zxu {n b a}:CI E0 (Vw n b a) true 122 [A4 b,A4 a] aI:=by unfold Vw;exact aA [] Tryz.func122
instance zyp {n a}:CI E0 (W3 n a) true 117 [A7 a] (fun r=>.bool (r)):=by unfold W3;exact aA [1] Tryz.func117
instance y49 {n a}:CI E0 (Jf n a) true 115 [A7 a] Be:=by unfold Jf;exact aA [] Tryz.func115
instance y1z {n b a}:CI E0 (Nh n b a) true 116 [Be b,Be a] aI:=by unfold Nh;exact aA [] Tryz.func116
instance zyq {n b a}:CI E0 (N8 n b a) true 155 [Ar b,.ref (Bw a)] (fun r=>.bool (r)):=by unfold N8;exact aA [] Tryz.func155
instance zhd {n a b}:CI E0 (U2 n a b) true 186 [.sl 4 (a.map Ar),.fn 155 [.ref (Bw b)]] aI:=by unfold U2;exact aA [] Tryz.func186
instance ze5 {n a b}:CI E0 (Tf n a b) true 154 [.sl 4 (a.map Ar),.fn 155 [.ref (Bw b)]] (fun r=>.bool (r)):=by unfold Tf;exact aA [] Tryz.func154
instance y20 {n d c}:CI E0 (Z9 n d c) true 119 [A4 d,A7 c] (fun r=>.bool (r)):=⟨fun {r} b=>by
 unfold Z9 at b;refine cw Tryz.func119 ?_;repeat' first
  |refine aB ?_;conv=>whnf
  |refine B8.I b (fun a b=>?_) rfl rfl fun _=>Or.inr rfl
  |exact aD b⟩
instance zys {n b a}:CI E0 (N9 n b a) true 118 [A4 b,.ref (Bw a)] (fun r=>.bool (r)):=by unfold N9;exact aA [] Tryz.func118
instance zhe {n a b}:CI E0 (U3 n a b) true 59 [.sl 3 (a.map A4),.fn 118 [.ref (Bw b)]] aI:=by unfold U3;exact aA [] Tryz.func59
instance ze6 {n a b}:CI E0 (Tg n a b) true 27 [.sl 3 (a.map A4),.fn 118 [.ref (Bw b)]] (fun r=>.bool (r)):=by unfold Tg;exact aA [] Tryz.func27
instance y21 {n d c}:CI E0 (Ni n d c) true 84 [.sl 3 (d.map A4),A7 c] aI:=⟨fun {r} b=>by
 unfold Ni at b;refine cw Tryz.func84 ?_;repeat' first
  |refine aB ?_;conv=>whnf
  |refine aN b (fun b=>?_) fun b=>?_
  |refine Af.I b fun a b=>?_
  |refine B8.I b (fun a b=>?_) rfl rfl fun _=>Or.inr rfl
  |exact aD b⟩
end
noncomputable section
abbrev z65 {n d c}:=li (Lf n d c) (fun b=>⟨[(0,.row 200000),(1,.fn 163 [.ref [.fn 122 []]]),(5,aI b.1),(6,.der (.sub 3 (d)) 200000),(7,aI b.2.1)],[(200000,.row 60 3 (b.2.2.map A4))]⟩) fun _ _=>Lf.eq_2 ..
abbrev z67 {n a b}:=li (Qb n a b) (fun c=>⟨[(0,.row 200000),(1,.fn 163 [.ref [.fn 122 []]]),(5,aI c)],[(200000,.row 60 3 (a.map A4))]⟩) fun _ _=>Qb.eq_2 ..
abbrev z7k {n}:=jf (Lw n) (fun b=>⟨[(2,.bool (b))],[]⟩) fun _=>Lw.eq_1 ..
abbrev z7c {n a b}:=li (Ql n a b) (fun c=>⟨[(0,.sl 11 (a.map Bc)),(3,aI c)],[]⟩) fun _ _=>Ql.eq_2 ..
abbrev z7g {n}:=jf (Lt n) (fun b=>⟨[(2,.bool (b))],[]⟩) fun _=>Lt.eq_1 ..
abbrev z7d {n a b d c}:=li (Qm n a b d c) (fun e=>⟨[(1,.ptr 1 0),(4,aI b),(5,.ptr 5 0),(6,aI e)],[(1,.box 25 (B3 a)),(5,.box 115 (C7 d))]⟩) fun _ _=>Qm.eq_2 ..
abbrev z5r {n a b c e}:=jf (Ey n a b c e) (fun d=>⟨[(1,.ptr 1 0),(4,aI b),(5,.ptr 5 0),(105,.bool (d))],[(1,.box 25 (B3 a)),(5,.box 115 (C7 e))]⟩) fun _=>Ey.eq_1 ..
abbrev z5s {n a b c d}:=jf (L9 n a b c d) (fun e=>⟨[(1,.ptr 1 0),(4,aI b),(64,.bool (e))],[(1,.box 25 (B3 a))]⟩) fun _=>L9.eq_1 ..
abbrev z7e {n a b}:=li (Ik n a b) (fun c=>⟨[(1,.ptr 1 0),(4,aI c)],[(1,.box 25 (B3 a))]⟩) fun _ _=>Ik.eq_2 ..
abbrev z5p {n a b c}:=jf (Fq n a b c) (fun d=>⟨[(1,.ptr 1 0),(3,aI b),(55,.bool (d))],[(1,.box 25 (B3 a))]⟩) fun _=>Fq.eq_1 ..
abbrev z5q {n a b c d}:=jf (L8 n a b c d) (fun e=>⟨[(1,.ptr 1 0),(3,aI b),(15,.bool (e))],[(1,.box 25 (B3 a))]⟩) fun _=>L8.eq_1 ..
abbrev z7f {n a b}:=li (Il n a b) (fun c=>⟨[(1,.ptr 1 0),(3,aI c)],[(1,.box 25 (B3 a))]⟩) fun _ _=>Il.eq_2 ..
abbrev z7n {n a b}:=li (Qp n a b) (fun c=>⟨[(0,.sl 3 (a.map Ag)),(3,aI c)],[]⟩) fun _ _=>Qp.eq_2 ..
abbrev z7m {n a b}:=li (Qo n a b) (fun c=>⟨[(0,.sl 5 (a.map A7)),(3,aI c)],[]⟩) fun _ _=>Qo.eq_2 ..
abbrev z4u {n a b c}:=li (Pr n a b c) (fun d=>⟨[(0,.sl 5 (a.map A7)),(3,aI b),(4,aI d)],[]⟩) fun _ _=>Pr.eq_2 ..
abbrev z4t {n a b c}:=li (Pq n a b c) (fun d=>⟨[(0,.sl 5 (a.map A7)),(3,aI b),(4,aI d)],[]⟩) fun _ _=>Pq.eq_2 ..
attribute [instance] z65 z67 z7k z7c z7g z7d z5r z5s z7e z5p z5q z7f z7n z7m z4u z4t
set_option maxHeartbeats 400000 in
theorem znh (l:List (Cel 3))(S:Nat->Prop)(v:Value)(w:World)(h:Sl w S 3 encC v l)(d:l.length<=1000000000) :
  Calls Tryz.prog 149 #[v] w (Js 60 3 encC l w):=by
 have eok:EOk Tryz.prog 57 60 3 56 (encC (n:=3)):=eokC (sz:=3) (Dc 57 _ rfl) rfl (Dc 60 _ rfl) (by omega) rfl;obtain ⟨A,c,rfl,f,_⟩:=h.form;have a:=fun (W:World)=>Lib.run_eql_slice_nil W 57 60 A l.length c 0 0 Tryz.underlying57
 have H:=hide h;cases A with
 |none =>
  have g:l=[]:=h.none_nil;subst g;clear h H d f;simp only [length_nil,Option.isNone_none] at a ⊢
  go_enter aJ,aQ
  go_wp2
  go_ret
  exact ⟨none,0,rfl,Own.nil_,by go_grown⟩
 |some ad =>
  clear h
  go_enter aJ,aQ
  go_wp2_with (at_builtin;refine J6 rfl _ _ rfl eok rfl Own.made_ rfl (H.out.alloc _) (by simp;omega) (by omega) (by simp) ?_;intro A' i w1 b e _)
  go_ret
  exact ⟨A',i,rfl,b,(Own.made_ (sz:=3) (enc:=encC (n:=3))).grown ((Below.refl _ _).alloc (Nat.le_refl _) _) (Nat.le_refl _) (by simp) e⟩
theorem zjj {n a r}(b:Cg n a=some r):ConT E0 149 [.sl 3 (List.map A4 a)] 60 3 (List.map A4 r) (.row 0):=Nk rfl (Ay aJ rfl rfl) znh b
instance zpo {n b a}:CI E0 (Ru n b a) true 163 [A4 b,A4 a,.ref [.fn 122 []]] (fun r=>.bool (r)):=by unfold Ru;exact aA [] Tryz.func163
def za0 (a:(List A0)):List (Nat×Ent):=[(200000,.row 60 3 (a.map A4))]
def Ub (r:(List A0)):List (Nat×Ent):=[(260000,.row 60 3 (r.map A4))]
def Y8 (r:(List A0)):AV:=.row 260000
def z11 (r:(List A0)):AS:=⟨[(4,.row 260000)],Ub r⟩
theorem z7z {n c r}(b:Uh n c=some r):ConG E0.P none (CalF E0.P 162 0) [.row 200000,.fn 163 [.ref [.fn 122 []]]] [] (za0 c) (Y8 r) (Ub r):=by
 unfold Uh at b;refine aE (E:=(E0p 2)) (caps:=[]) _ aZ rfl rfl rfl rfl rfl ?_;repeat' first
  |refine aB ?_;conv=>whnf
  |refine aN b (fun b=>?_) fun b=>?_
  |exact GX.A (res:=Y8) (meF:=Ub) b z11 (h1:=aC [(260000,200000)])
  |refine NatX.o b (fun m b=>?_)
  |refine EltX.o A4 b (fun x b=>?_)
  |refine Af.I b fun a b=>?_
  |refine OpX.sub b rfl rfl rfl rfl rfl rfl rfl rfl rfl rfl (fun m b=>?_)
  |refine OpX.clr A4 b rfl rfl rfl rfl rfl rfl rfl rfl rfl rfl rfl (by first|exact SubL.refl _|(repeat' first|exact SubL.nil|refine SubL.cons ?_ ?_|exact Sub.refl _|exact Sub.nil _|refine Sub.agg ?_)) (fun l b=>?_)
  |refine SlsX.o A4 b (fun l b=>?_)
  |exact GX.A (res:=Y8) (meF:=Ub) b z11 (h1:=aC [(260000,64)])
  |refine OpX.lns b rfl rfl rfl rfl rfl rfl rfl (fun b=>?_)
  |refine OpX.ixs b rfl rfl rfl rfl rfl rfl rfl rfl rfl rfl (fun m b=>?_)
  |refine SetX.o A4 b (fun x=>rfl) (fun x=>(by first|exact SubL.refl _|(repeat' first|exact SubL.nil|refine SubL.cons ?_ ?_|exact Sub.refl _|exact Sub.nil _|refine Sub.agg ?_))) (fun l b=>?_)
  |exact ⟨_,b,aC []⟩
  |refine Az.I b (aC []) fun m v b=>?_
  |refine AndA ?_
  |refine EqX.A ?_
def znt (a:(List A0)):List (Nat×Ent):=[(200000,.row 60 3 (a.map A4))]
def W0 (r:(List A0)):List (Nat×Ent):=[(260000,.row 60 3 (r.map A4))]
def Yv (r:(List A0)):AV:=.row 260000
def znq (r:(List A0)):AS:=⟨[(4,.row 260000)],W0 r⟩
theorem za5 {n c r}(b:Sc n c=some r):ConG E0.P none (CalF E0.P 121 0) [.row 200000,.fn 122 []] [] (znt c) (Yv r) (W0 r):=by
 unfold Sc at b;refine aE (E:=(E0p 2)) (caps:=[]) _ bA rfl rfl rfl rfl rfl ?_;repeat' first
  |refine AW.frbO b 3 rfl rfl (fun b=>?_)
  |refine aH b fun b=>?_
  |refine aF [2] ?_;conv=>whnf
  |refine B8.oI b 200000 (fun r=>r) A4 (fun _=>AV.tup []) rfl (fun a h=>(ConC.env rfl (zt2 h))) rfl rfl rfl (fun a b=>?_)
  |refine B8.oM (Bo 10 b) [(200000,200000)] [(260000,11000000)] _ _ Ub Y8 [200000] (fun a h=>aG (z7z h)) (Ay aZ rfl rfl) rfl rfl rfl ⟨⟨rfl,rfl⟩,trivial⟩ (fun a=>⟨rfl,rfl,rfl,rfl,rfl,rfl,rfl,rfl⟩) (fun a b=>?_)
  |exact GX.A (res:=Yv) (meF:=W0) b znq (h1:=aC [(260000,11000000)])
instance y23 {n c}:CI E0 (Wl n c) false 109 [.sl 3 (c.map A4)] (fun r=>.tup [.sl 3 (r.1.map A4),aI r.2]):=⟨fun {r} b=>by
 unfold Wl at b;refine cw Tryz.func109 ?_;repeat' first
  |refine aB ?_;conv=>whnf
  |refine aN b (fun b=>?_) fun b=>?_
  |refine Af.oR b (fun r=>r) A4 (fun _=>AV.row 0) rfl (fun a h=>zjj h) (fun a b=>?_)
  |refine B8.oM (Bo 7 b) [(200000,6)] [(260000,8000000)] _ _ W0 Yv [6] (fun a h=>aG (za5 h)) (Ay bA rfl rfl) rfl rfl rfl ⟨⟨rfl,rfl⟩,trivial⟩ (fun a=>⟨rfl,rfl,rfl,rfl,rfl,rfl,rfl,rfl⟩) (fun a b=>?_)
  |exact aD b⟩
instance zmu {n a}:CI E0 (Mj n a) true 61 [Av a] (fun r=>.bool (r)):=by unfold Mj;exact aA [1] Tryz.func61
instance zmr {n a}:CI E0 (Uq n a) true 60 [.sl 11 (a.map Bc)] (fun r=>.bool (r)):=by unfold Uq;exact aA [] Tryz.func60
instance zms {n c}:CI E0 (Ur n c) true 30 [Bl c] (fun r=>.bool (r)):=⟨fun {r} b=>by
 unfold Ur at b;refine cw Tryz.func30 ?_;repeat' first
  |refine bD b (fun v b=>?_) fun b=>?_
  |refine aH b fun b=>?_
  |refine aF [2,4,7,10,17] ?_;conv=>whnf
  |refine aN b (fun b=>?_) fun b=>?_
  |refine Aa.t ?_
  |refine Aa.f ?_
  |exact ⟨_,b,aC []⟩
  |refine aK b fun x b=>?_
  |refine bE b D4 (fun x b=>?_)
  |refine Af.I b fun a b=>?_
  |refine Az.I b (aC []) fun m v b=>?_
  |exact aD b⟩
instance zmy {n a}:CI E0 (Uv n a) true 62 [.sl 3 (a.map Ag)] (fun r=>.bool (r)):=by unfold Uv;exact aA [] Tryz.func62
instance zmx {n a}:CI E0 (Uu n a) true 31 [.sl 5 (a.map A7)] (fun r=>.bool (r)):=by unfold Uu;exact aA [] Tryz.func31
instance zhc {n a}:CI E0 (U1 n a) true 100 [A7 a] (fun r=>.bool (r)):=by unfold U1;exact aA [] Tryz.func100
instance zmw {n a}:CI E0 (Ml n a) true 101 [A7 a] Be:=by unfold Ml;exact aA [] Tryz.func101
instance zka {n b a}:CI E0 (Rc n b a) true 102 [A7 b,A7 a] (fun r=>.bool (r)):=by unfold Rc;exact aA [] Tryz.func102
end
end Go.Proofs.YtidhlpjgifoneaaGreat
