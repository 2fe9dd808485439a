/- What some functions compute, over plain values. -/
import Derived.Test.YtidhlpjgifoneaaGreatK23
set_option linter.unusedVariables false
set_option linter.unusedSimpArgs false
set_option maxRecDepth 100000
set_option maxHeartbeats 8000000
namespace Go.Proofs.YtidhlpjgifoneaaGreat
open Go.RowKit List
open CI renaming w->aA
open AW renaming step->aB,stepU->aF,regO->aH,jI->bD
open LeX renaming a->aC,trans->aL,adopt->aM
open RetX renaming oB->aD
open ConG renaming walk->aE,up->aG
open Tryz renaming func149->aJ,ntmps149->aQ,func291->aU,func292->aV,func293->aW,func294->aX,func295->aY,func162->aZ,func121->bA
open IdxX renaming A->aK,oD->bE
open Aa renaming o->aN
noncomputable section
abbrev z8j {n b a c}:=li (Rl n b a c) (fun d=>⟨[(0,.sl 11 (a.map Be)),(1,.fn 142 [.ref (Wr b)]),(7,aI (((a.map Be).length:Int))),(8,aI d)],[]⟩) fun _ _=>Rl.eq_2 ..
abbrev z91 {n a f b c d}:=jf (J6 n a f b c d) (fun e=>⟨[(1,.sl 11 (a.map Be)),(2,.ptr 2 0),(5,aI b),(6,.ptr 6 0),(11,.sl 11 (a.map Be)),(12,aI (((a.map Be).length:Int))),(13,aI b),(18,.bool (e))],[(2,.box 25 (B4 f)),(6,.box 154 (Wr d))]⟩) fun _=>J6.eq_1 ..
abbrev z90 {n a d b}:=li (G2 n a d b) (fun c=>⟨[(1,.sl 11 (a.map Be)),(2,.ptr 2 0),(11,.sl 11 (a.map Be)),(12,aI (((a.map Be).length:Int))),(13,aI c)],[(2,.box 25 (B4 d))]⟩) fun _ _=>G2.eq_2 ..
abbrev z87 {n a b}:=li (Rb n a b) (fun c=>⟨[(3,.row 7016),(6,.sl 2 (a.map Ce)),(7,aI (((a.map Ce).length:Int))),(8,aI c.1)],[(7016,.row 3 1 (c.2.map aI))]⟩) fun _ _=>Rb.eq_2 ..
abbrev zbi {n d a b}:=li (S9 n d a b) (fun c=>⟨[(0,.sl 1 (a.map aI)),(1,aI d),(7,aI (((a.map aI).length:Int))),(8,aI c)],[]⟩) fun _ _=>S9.eq_2 ..
abbrev z8y {n a f c b d}:=li (Hc n a f c b d) (fun e=>⟨[(2,.ptr 2 0),(6,.sl 1 (b.map aI)),(9,.sl 1 (List.map (fun q=>AV.sl 1 (List.map aI q)) (a))),(10,aI ((((List.map (fun q=>AV.sl 1 (List.map aI q)) (a)).length:Nat):Int))),(11,aI c),(15,.sl 1 (b.map aI)),(16,aI (((b.map aI).length:Int))),(17,aI e)],[(2,.box 25 (B4 f))]⟩) fun _ _=>Hc.eq_2 ..
abbrev z8z {n a d b}:=li (J5 n a d b) (fun c=>⟨[(2,.ptr 2 0),(9,.sl 1 (List.map (fun q=>AV.sl 1 (List.map aI q)) (a))),(10,aI ((((List.map (fun q=>AV.sl 1 (List.map aI q)) (a)).length:Nat):Int))),(11,aI c)],[(2,.box 25 (B4 d))]⟩) fun _ _=>J5.eq_2 ..
abbrev z92 {n}:=jf (Ml n) (fun b=>⟨[(2,.bool (b))],[]⟩) fun _=>Ml.eq_1 ..
abbrev z3n {n a b}:=li (Pn n a b) (fun c=>⟨[(0,.sl 2 (a.map Ce)),(1,.fn 147 []),(7,aI (((a.map Ce).length:Int))),(8,aI c)],[]⟩) fun _ _=>Pn.eq_2 ..
attribute [instance] z8j z91 z90 z87 zbi z8y z8z z92 z3n
instance zlc {n b a}:CI E0 (Rx n b a) true 142 [Be b,.ref (Wr a)] (fun r=>.bool (r)):=by unfold Rx;exact aA [] Tryz.func142
instance zoz {n a b}:CI E0 (Vq n a b) true 181 [.sl 11 (a.map Be),.fn 142 [.ref (Wr b)]] aI:=by unfold Vq;exact aA [] Tryz.func181
instance zk4 {n a b}:CI E0 (Rn n a b) true 141 [.sl 11 (a.map Be),.fn 142 [.ref (Wr b)]] (fun r=>.bool (r)):=by unfold Rn;exact aA [] Tryz.func141
instance zp5 {n d c}:CI E0 (Vu n d c) true 104 [Bj d,.sl 11 (c.map Be)] aI:=⟨fun {r} b=>by
 unfold Vu at b;refine cw Tryz.func104 ?_;repeat' first
  |refine bD b (fun v b=>?_) fun b=>?_
  |refine aH b fun b=>?_
  |refine aF [6] ?_;conv=>whnf
  |refine aN b (fun b=>?_) fun b=>?_
  |refine Aa.t ?_
  |refine aK b fun x b=>?_
  |refine SlsX.o Be b (fun l b=>?_)
  |refine B9.I b (fun a b=>?_) rfl rfl fun _=>Or.inr rfl
  |refine Af.I b fun a b=>?_
  |exact ⟨_,b,aC []⟩
  |refine Ax.I b (aC []) fun m v b=>?_
  |exact aD b⟩
instance zod {n b}:CI E0 (S3 n b) false 145 [.sl 2 (b.map Ce)] (fun r=>.sl 1 (r.map aI)):=⟨fun {r} a=>by
 unfold S3 at a;refine cw Tryz.func145 ?_;repeat' first
  |refine aB ?_;conv=>whnf
  |refine aN a (fun a=>?_) fun a=>?_
  |refine aK a fun x a=>?_
  |refine AppX.oA a fun l a=>?_
  |exact ⟨_,a,aC [(7016,16)]⟩
  |refine Ax.I a ?_ fun m v a=>?_
  |exact aL (aM 3 7016 3 1 rfl rfl) (aC [])
  |exact aD a⟩
instance zvm {n b a}:CI E0 (Z6 n b a) true 212 [.sl 1 (b.map aI),aI a] aI:=by unfold Z6;exact aA [] Tryz.func212
instance zqp {n b a}:CI E0 (Hi n b a) true 184 [.sl 1 (b.map aI),aI a] (fun r=>.bool (r)):=by unfold Hi;exact aA [] Tryz.func184
instance zp4 {n d c}:CI E0 (Vt n d c) true 144 [Bj d,.sl 1 (List.map (fun q=>AV.sl 1 (List.map aI q)) (c))] aI:=⟨fun {r} b=>by
 unfold Vt at b;refine cw Tryz.func144 ?_;repeat' first
  |refine aB ?_;conv=>whnf
  |refine aN b (fun b=>?_) fun b=>?_
  |refine IdxX.o (fun q=>AV.sl 1 (List.map aI q)) b fun x b=>?_
  |exact ⟨_,b,aC []⟩
  |refine aK b fun x b=>?_
  |refine Af.I b fun a b=>?_
  |refine SlsX.o aI b (fun l b=>?_)
  |refine Ax.I b (aC []) fun m v b=>?_
  |exact aD b⟩
instance zp6 {n a}:CI E0 (Mz n a) true 147 [Ce a] (fun r=>.bool (r)):=by unfold Mz;exact aA [1] Tryz.func147
instance zi5 {n a}:CI E0 (Ul n a) true 185 [.sl 2 (a.map Ce),.fn 147 []] aI:=by unfold Ul;exact aA [] Tryz.func185
instance zev {n a}:CI E0 (Po n a) true 146 [.sl 2 (a.map Ce),.fn 147 []] (fun r=>.bool (r)):=by unfold Po;exact aA [] Tryz.func146
end
noncomputable section
abbrev zav {n a d b}:=li (S4 n a d b) (fun c=>⟨[(3,.ptr 3 0),(4,.ptr 4 0),(63,.sl 8 (a.fChecks.map idA)),(64,aI (((a.fChecks.map idA).length:Int))),(65,aI c)],[(3,.box 25 (B4 d)),(4,.box 115 (C7 a))]⟩) fun _ _=>S4.eq_2 ..
abbrev zaw {n a c d}:=jf (E7 n a c d) (fun b=>⟨[(2,aI a),(3,.ptr 3 0),(4,.ptr 4 0),(12,.bool (b))],[(3,.box 25 (B4 d)),(4,.box 115 (C7 c))]⟩) fun _=>E7.eq_1 ..
abbrev z9y {n a b}:=li (Ry n a b) (fun c=>⟨[(1,.ptr 1 0),(6,aI c.1),(62,.sl 17 (a.fEdges.map B7)),(63,aI (((a.fEdges.map B7).length:Int))),(64,aI c.2)],[(1,.box 25 (B4 a))]⟩) fun _ _=>Ry.eq_2 ..
abbrev z9z {n a b}:=li (Rz n a b) (fun c=>⟨[(1,.ptr 1 0),(47,.sl 1 (a.fStates.map Bb)),(48,aI (((a.fStates.map Bb).length:Int))),(49,aI c)],[(1,.box 25 (B4 a))]⟩) fun _ _=>Rz.eq_2 ..
abbrev za0 {n a}:=jf (G3 n a) (fun b=>⟨[(1,.ptr 1 0),(29,.bool (b))],[(1,.box 25 (B4 a))]⟩) fun _=>G3.eq_1 ..
abbrev za1 {n a}:=jf (F6 n a) (fun b=>⟨[(1,.ptr 1 0),(10,.bool (b))],[(1,.box 25 (B4 a))]⟩) fun _=>F6.eq_1 ..
abbrev z6a {n}:=jf (Ik n) (fun b=>⟨[(2,.bool (b))],[]⟩) fun _=>Ik.eq_1 ..
abbrev z4t {n}:=jf (Gr n) (fun b=>⟨[(58,.bool (b))],[]⟩) fun _=>Gr.eq_1 ..
abbrev z4s {n}:=jf (L8 n) (fun b=>⟨[(70,.bool (b))],[]⟩) fun _=>L8.eq_1 ..
abbrev z4u {n a}:=jf (L9 n a) (fun b=>⟨[(1,.ptr 1 0),(23,.bool (b))],[(1,.box 313 (Vw a))]⟩) fun _=>L9.eq_1 ..
abbrev z4v {n a}:=jf (La n a) (fun b=>⟨[(1,.ptr 1 0),(15,.bool (b))],[(1,.box 313 (Vw a))]⟩) fun _=>La.eq_1 ..
abbrev z7s {n a}:=jt (Iz n a) (fun b=>⟨[(4,.ptr 4 0),(8,.ptr 8 0)],[(4,.box 313 [aI 0,aI 0,aI 0,aI 0,.str (ByteArray.empty)]),(8,.box 313 [aI a.fKind,aI ((IntKind.wrap .i64 (a.fCount+1))),aI b.1,aI b.2.1,.str (b.2.2)])]⟩) fun _=>Iz.eq_1 ..
abbrev z3k {n a c}:=jf (Kw n a c) (fun b=>⟨[(2,.ptr 2 0),(3,.ptr 3 0),(4,.ptr 4 0),(35,.bool (b))],[(2,.box 313 (Vw c)),(3,.box 109 (Cg a)),(4,.box 109 [aI 0,aI 0,.str (ByteArray.empty)])]⟩) fun _=>Kw.eq_1 ..
abbrev z8h {n a d c}:=li (Rh n a d c) (fun b=>⟨[(1,.sl 3 (d.map Ag)),(5,.ptr 5 0),(6,.ptr 6 0),(8,.ptr 8 0),(9,aI b.1)],[(5,.box 109 (Cg a)),(6,.box 109 [aI 0,aI 0,.str (ByteArray.empty)]),(8,.box 313 [aI b.2.1,aI b.2.2.1,aI b.2.2.2.1,aI b.2.2.2.2.1,.str (b.2.2.2.2.2)])]⟩) fun _ _=>Rh.eq_2 ..
attribute [instance] zav zaw z9y z9z za0 za1 z6a z4t z4s z4u z4v z7s z3k z8h
instance ztw {n e d c}:CI E0 (W7 n e d c) true 105 [Bj e,B7 d,aI c] aI:=⟨fun {r} b=>by
 unfold W7 at b;refine cw Tryz.func105 ?_;repeat' first
  |refine bD b (fun v b=>?_) fun b=>?_
  |refine aH b fun b=>?_
  |refine aF [1] ?_;conv=>whnf
  |refine aN b (fun b=>?_) fun b=>?_
  |refine Aa.t ?_
  |refine Af.I b fun a b=>?_
  |refine bE b D4 (fun x b=>?_)
  |exact ⟨_,b,aC []⟩
  |refine Ax.I b (aC []) fun m v b=>?_
  |refine AndA ?_
  |exact aD b⟩
instance zr2 {n a}:CI E0 (N5 n a) true 69 [Bj a] aI:=by unfold N5;exact aA [1,3] Tryz.func69
instance zl7 {n a}:CI E0 (Rt n a) true 273 [aI a] (fun r=>.bool (r)):=by unfold Rt;exact aA [1] Tryz.func273
instance zjz {n a}:CI E0 (Ri n a) true 277 [E8 a] aI:=by unfold Ri;exact aA [3,5,11,14] Tryz.func277
instance zjx {n b a}:CI E0 (Rg n b a) true 278 [aI b,Ag a] aI:=by unfold Rg;exact aA [] Tryz.func278
instance zg8 {n c b a}:CI E0 (U9 n c b a) true 279 [aI c,Ag b,Ag a] Ag:=by unfold U9;exact aA [] Tryz.func279
instance znx {n b a}:CI E0 (Vb n b a) true 274 [E8 b,Ag a] (fun r=>.tup [E8 r.1,aI r.2]):=by unfold Vb;exact aA [10,12] Tryz.func274
instance zi1 {n b a}:CI E0 (R5 n b a) true 275 [E8 b,Ag a] (fun r=>.tup [Ag r.1,aI r.2]):=by unfold R5;exact aA [9] Tryz.func275
end
noncomputable section
abbrev z3j {n a c}:=jf (Kv n a c) (fun b=>⟨[(1,aI a),(2,.ptr 2 0),(13,.bool (b))],[(2,.box 220 (Dl c))]⟩) fun _=>Kv.eq_1 ..
abbrev z61 {n d a b}:=li (Qp n d a b) (fun c=>⟨[(4,.ptr 4 0),(8,.ptr 8 0),(10,.row 7063),(11,.sl 5 (a.map A6)),(12,aI c.1)],[(4,.box 111 (Cm d)),(8,.box 109 [aI 0,aI 0,.str (ByteArray.empty)]),(7063,.row 109 3 (c.2.map Ag))]⟩) fun _ _=>Qp.eq_2 ..
abbrev z1k {n}:=jt (I0 n) (fun b=>⟨[(9,.bool (b))],[]⟩) fun _=>I0.eq_1 ..
abbrev z1l {n a}:=jt (Gg n a) (fun b=>⟨[(3,aI a),(4,.bool (b))],[]⟩) fun _=>Gg.eq_1 ..
abbrev z1j {n a e b c}:=jf (Fl n a e b c) (fun d=>⟨[(0,aI e),(1,.sl 1 (a.map aI)),(5,aI b),(38,.bool (d))],[]⟩) fun _=>Fl.eq_1 ..
abbrev z1i {n a d b}:=li (Ez n a d b) (fun c=>⟨[(0,aI d),(1,.sl 1 (a.map aI)),(5,aI c)],[]⟩) fun _ _=>Ez.eq_2 ..
abbrev z4m {n}:=jf (L5 n) (fun b=>⟨[(4,.ptr 4 0)],[(4,.box 109 [aI b.1,aI b.2.1,.str (b.2.2)])]⟩) fun _=>L5.eq_1 ..
abbrev z4l {n}:=jf (L4 n) (fun b=>⟨[(4,.ptr 4 0)],[(4,.box 109 [aI b.1,aI b.2.1,.str (b.2.2)])]⟩) fun _=>L4.eq_1 ..
abbrev z69 {n b a e f g d}:=li (Qq n b a e f g d) (fun c=>⟨[(2,aI e),(4,.ptr 4 0),(5,.ptr 5 0),(7,.ptr 7 0),(8,.ptr 8 0),(10,.row 7053),(11,.row 7058),(12,aI c.1)],[(4,.box 111 (Cm g)),(5,.box 220 (Dl f)),(7,.box 71 (Bx a)),(8,.box 109 [aI 0,aI 0,.str (ByteArray.empty)]),(7053,.row 109 3 (c.2.1.map Ag)),(7058,.row 3 1 (c.2.2.map aI))]⟩) fun _ _=>Qq.eq_2 ..
abbrev z4n {n}:=jf (L6 n) (fun b=>⟨[(8,.bool (b))],[]⟩) fun _=>L6.eq_1 ..
attribute [instance] z3j z61 z1k z1l z1j z1i z4m z4l z69 z4n
instance zoy {n c b a}:CI E0 (S6 n c b a) true 266 [aI c,.sl 3 (b.map Ag),Ag a] (fun r=>.tup [Ag r.1,aI r.2]):=by unfold S6;exact aA [] Tryz.func266
instance zi0 {n c b}:CI E0 (M6 n c b) false 265 [Dk c,aI b] (fun r=>.sl 5 (r.map A6)):=⟨fun {r} a=>by
 unfold M6 at a;refine cw Tryz.func265 ?_;repeat' first
  |refine bD a (fun v a=>?_) fun a=>?_
  |refine aH a fun a=>?_
  |refine aF [1] ?_;conv=>whnf
  |refine aN a (fun a=>?_) fun a=>?_
  |refine IdxX.o (fun q=>AV.sl 5 (List.map A6 q)) a fun x a=>?_
  |exact ⟨_,a,aC []⟩
  |exact aD a⟩
instance zl3 {n d c b a}:CI E0 (Yr n d c b a) false 267 [Dk d,aI c,aI b,A6 a] (fun r=>.tup [A6 r.1,.bool (r.2)]):=by unfold Yr;exact aA [] Tryz.func267
instance zl1 {n f e d c}:CI E0 (Rs n f e d c) true 248 [Av f,Dk e,aI d,A6 c] (fun r=>.tup [Ag r.1,aI r.2]):=⟨fun {r} b=>by
 unfold Rs at b;refine cw Tryz.func248 ?_;repeat' first
  |refine aB ?_;conv=>whnf
  |refine aN b (fun b=>?_) fun b=>?_
  |refine Af.I b fun a b=>?_
  |refine B9.I b (fun a b=>?_) rfl rfl fun _=>Or.inr rfl
  |refine aK b fun x b=>?_
  |refine AppX.oA b fun l b=>?_
  |exact ⟨_,b,aC [(7063,63)]⟩
  |refine Ax.I b ?_ fun m v b=>?_
  |exact aL (aM 10 7063 109 3 rfl rfl) (aC [])
  |refine AndA ?_
  |exact aD b⟩
instance zfg {n a}:CI E0 (U6 n a) true 268 [aI a] aI:=by unfold U6;exact aA [2,3,4,7,8] Tryz.func268
instance zff {n b a}:CI E0 (Y1 n b a) true 249 [aI b,.sl 1 (a.map aI)] aI:=by unfold Y1;exact aA [5] Tryz.func249
instance zl5 {n a}:CI E0 (Dt n a) true 68 [.bool (a)] Ag:=by unfold Dt;exact aA [] Tryz.func68
instance zjs {n b a}:CI E0 (Mf n b a) true 250 [aI b,.sl 3 (a.map Ag)] Ag:=by unfold Mf;exact aA [13,15] Tryz.func250
def za5 (r:Ab×Int):AV:=.tup [.agg [aI (r.1.fKind),aI (r.1.fNum),.str (r.1.fText)],aI (r.2)]
theorem z5h {n f e d c r}(b:He n f e d c=some r):Con E0 true 228 [Av f,Dk e,aI d,A6 c] (.tup [Ag r.1,aI r.2]):=by
 induction n generalizing f e d c r
 case zero=>cases b
 case succ n g =>
 unfold He at b;refine cw Tryz.func228 ?_;repeat' first
  |refine aB ?_;conv=>whnf
  |refine aN b (fun b=>?_) fun b=>?_
  |refine Af.I b fun a b=>?_
  |refine B9.I b (fun a b=>?_) rfl rfl fun _=>Or.inr rfl
  |refine bE b D4 (fun x b=>?_)
  |refine Af.o b za5 (fun a h=>g h) (fun a b=>?_)
  |refine AppX.oA b fun l b=>?_
  |exact ⟨_,b,aC [(7053,53),(7058,58)]⟩
  |refine Ax.I b ?_ fun m v b=>?_
  |exact aL (aM 10 7053 109 3 rfl rfl) (aL (aM 11 7058 3 1 rfl rfl) (aC []))
  |refine AndA ?_
  |exact aD b
instance zl4 {n d c b a}:CI E0 (He n d c b a) true 228 [Av d,Dk c,aI b,A6 a] (fun r=>.tup [Ag r.1,aI r.2]):=⟨z5h⟩
instance zl6 {n d c b a}:CI E0 (Ys n d c b a) true 197 [Av d,Dk c,aI b,A6 a] (fun r=>.tup [Ag r.1,aI r.2]):=by unfold Ys;exact aA [] Tryz.func197
end
noncomputable section
abbrev z29 {n a f b c d}:=jf (Kg n a f b c d) (fun e=>⟨[(2,.ptr 2 0),(3,.ptr 3 0),(5,aI b),(18,.bool (e))],[(2,.box 44 (G6 f)),(3,.box 44 (G6 a))]⟩) fun _=>Kg.eq_1 ..
abbrev z28 {n a d b}:=li (I4 n a d b) (fun c=>⟨[(2,.ptr 2 0),(3,.ptr 3 0),(5,aI c)],[(2,.box 44 (G6 d)),(3,.box 44 (G6 a))]⟩) fun _ _=>I4.eq_2 ..
abbrev z26 {n a g b c d e}:=jf (I3 n a g b c d e) (fun f=>⟨[(2,.ptr 2 0),(3,.ptr 3 0),(6,aI b),(7,.ptr 7 0),(8,.ptr 8 0),(71,.bool (f))],[(2,.box 60 (Bl g)),(3,.box 60 (Bl a)),(7,.box 102 (zau d)),(8,.box 102 (zau e))]⟩) fun _=>I3.eq_1 ..
abbrev z27 {n a f b c d}:=jf (Kf n a f b c d) (fun e=>⟨[(2,.ptr 2 0),(3,.ptr 3 0),(6,aI b),(40,.bool (e))],[(2,.box 60 (Bl f)),(3,.box 60 (Bl a))]⟩) fun _=>Kf.eq_1 ..
abbrev z24 {n a d b}:=li (I2 n a d b) (fun c=>⟨[(2,.ptr 2 0),(3,.ptr 3 0),(6,aI c)],[(2,.box 60 (Bl d)),(3,.box 60 (Bl a))]⟩) fun _ _=>I2.eq_2 ..
abbrev z78 {n a d b}:=jf (Lx n a d b) (fun c=>⟨[(0,.sl 3 (d.map A4)),(3,.ptr 3 0),(5,aI b),(34,.bool (c))],[(3,.box 60 (Bl a))]⟩) fun _=>Lx.eq_1 ..
abbrev z75 {n a f b c d}:=jf (Lw n a f b c d) (fun e=>⟨[(0,.sl 3 (f.map A4)),(3,.ptr 3 0),(5,aI b),(19,.bool (e))],[(3,.box 60 (Bl a))]⟩) fun _=>Lw.eq_1 ..
abbrev z74 {n a d b}:=li (Ir n a d b) (fun c=>⟨[(0,.sl 3 (d.map A4)),(3,.ptr 3 0),(5,aI c)],[(3,.box 60 (Bl a))]⟩) fun _ _=>Ir.eq_2 ..
abbrev za3 {n}:=jf (Jb n) (fun b=>⟨[(2,.bool (b))],[]⟩) fun _=>Jb.eq_1 ..
abbrev za2 {n}:=jf (Hf n) (fun b=>⟨[(4,.bool (b))],[]⟩) fun _=>Hf.eq_1 ..
attribute [instance] z29 z28 z26 z27 z24 z78 z75 z74 za3 za2
instance zjt {n d c b a}:CI E0 (Fx n d c b a) true 170 [Av d,Dk c,aI b,A6 a] (fun r=>.bool (r)):=by unfold Fx;exact aA [2] Tryz.func170
instance zk0 {n b a}:CI E0 (Mh n b a) true 90 [Bf b,Bf a] aI:=by unfold Mh;exact aA [] Tryz.func90
instance zjn {n b a}:CI E0 (Up n b a) true 55 [Ar b,Ar a] aI:=by unfold Up;exact aA [] Tryz.func55
instance zg7 {n b a}:CI E0 (Lk n b a) true 21 [Au b,Au a] aI:=by unfold Lk;exact aA [2] Tryz.func21
instance zg6 {n b a}:CI E0 (Ih n b a) true 29 [A4 b,A4 a] aI:=by unfold Ih;exact aA [9,12] Tryz.func29
instance zno {n d c}:CI E0 (Ms n d c) false 103 [.sl 3 (d.map A4),A4 c] (fun r=>.sl 3 (r.map A4)):=⟨fun {r} b=>by
 unfold Ms at b;refine cw Tryz.func103 ?_;repeat' first
  |refine bD b (fun v b=>?_) fun b=>?_
  |refine aH b fun b=>?_
  |refine aF [2,4] ?_;conv=>whnf
  |refine aN b (fun b=>?_) fun b=>?_
  |refine SlsX.o A4 b (fun l b=>?_)
  |refine AppX.oA0 b fun l b=>?_
  |refine AppX.oA b fun l b=>?_
  |refine aK b fun x b=>?_
  |refine Af.I b fun a b=>?_
  |exact ⟨_,b,aC []⟩
  |refine Ax.I b (aC []) fun m v b=>?_
  |refine AndA ?_
  |exact aD b⟩
instance zr5 {n a}:CI E0 (Si n a) true 280 [aI a] (fun r=>.bool (r)):=by unfold Si;exact aA [1] Tryz.func280
instance zr4 {n b a}:CI E0 (Sh n b a) true 287 [aI b,Ag a] (fun r=>.bool (r)):=by unfold Sh;exact aA [1] Tryz.func287
instance zr3 {n b a}:CI E0 (N6 n b a) true 281 [aI b,Ag a] aI:=by unfold N6;exact aA [] Tryz.func281
instance zp7 {n b a}:CI E0 (Yx n b a) true 285 [aI b,Ag a] Ag:=by unfold Yx;exact aA [] Tryz.func285
instance zkc {n}:CI E0 (Yp n) true 290 [] Ag:=by unfold Yp;exact aA [] Tryz.func290
def z9o (b:Ab)(a:Ab):List (Nat×Ent):=[(100000,.box 109 (Cg b)),(100001,.box 109 (Cg a))]
def Yg (r:Ab×Ab×Ab):List (Nat×Ent):=[(2,.box 109 (Cg r.1)),(100000,.box 109 (Cg r.2.1)),(100001,.box 109 (Cg r.2.2))]
def z0d (r:Ab×Ab×Ab):AV:=.agg [aI (r.1.fKind),aI (r.1.fNum),.str (r.1.fText)]
def z9b (r:Ab×Ab×Ab):AS:=⟨[(2,.ptr 2 0),(0,.ptr 100000 0),(1,.ptr 100001 0)],Yg r⟩
end
noncomputable section
abbrev z93 {n c a d}:=li (Rq n c a d) (fun b=>⟨[(2,.fn 283 [.ref [aI c]]),(3,.ptr 3 0),(6,.ptr 6 0),(9,.sl 3 (a.map Ag)),(10,aI (((a.map Ag).length:Int))),(11,aI b.1)],[(3,.box 313 [aI b.2.1,aI b.2.2.1,aI b.2.2.2.1,aI b.2.2.2.2.1,.str (b.2.2.2.2.2)]),(6,.box 313 [aI 0,aI 0,aI 0,aI 0,.str (ByteArray.empty)])]⟩) fun _ _=>Rq.eq_2 ..
abbrev za4 {n a}:=jf (Mr n a) (fun b=>⟨[(1,.ptr 1 0),(10,.bool (b))],[(1,.box 313 (Vw a))]⟩) fun _=>Mr.eq_1 ..
abbrev z94 {n a c}:=jf (Mm n a c) (fun b=>⟨[(2,.ptr 2 0),(3,.ptr 3 0),(4,.ptr 4 0),(29,.bool (b))],[(2,.box 313 (Vw c)),(3,.box 109 (Cg a)),(4,.box 109 [aI 0,aI 0,.str (ByteArray.empty)])]⟩) fun _=>Mm.eq_1 ..
abbrev zbv {n d a e b}:=li (Sj n d a e b) (fun c=>⟨[(1,.sl 3 (a.map Ag)),(3,.ptr 3 0),(5,.ptr 5 0),(6,.ptr 6 0),(22,.sl 3 (a.map Ag)),(23,aI (((a.map Ag).length:Int))),(24,aI c)],[(3,.box 3 [aI e]),(5,.box 109 (Cg d)),(6,.box 109 [aI 0,aI 0,.str (ByteArray.empty)])]⟩) fun _ _=>Sj.eq_2 ..
attribute [instance] z93 za4 z94 zbv
theorem z6p {n b a r}(c:Yo n b a=some r):ConG E0.P none (CalF E0.P 291 0) [.ptr 100000 0,.ptr 100001 0] [] (z9o b a) (z0d r) (Yg r):=by
 unfold Yo at c;refine aE (E:=(E0p 2)) (caps:=[]) _ aU rfl rfl rfl rfl rfl ?_;repeat' first
  |refine aB ?_;conv=>whnf
  |exact GX.A (res:=z0d) (meF:=Yg) c z9b
def z9n (b:Ab)(a:Ab):List (Nat×Ent):=[(100000,.box 109 (Cg b)),(100001,.box 109 (Cg a))]
def Yf (r:Ab×Ab×Ab):List (Nat×Ent):=[(2,.box 109 (Cg r.1)),(100000,.box 109 (Cg r.2.1)),(100001,.box 109 (Cg r.2.2))]
def z0c (r:Ab×Ab×Ab):AV:=.agg [aI (r.1.fKind),aI (r.1.fNum),.str (r.1.fText)]
def z9a (r:Ab×Ab×Ab):AS:=⟨[(2,.ptr 2 0),(0,.ptr 100000 0),(1,.ptr 100001 0)],Yf r⟩
theorem z6o {n b a r}(c:Yn n b a=some r):ConG E0.P none (CalF E0.P 292 0) [.ptr 100000 0,.ptr 100001 0] [] (z9n b a) (z0c r) (Yf r):=by
 unfold Yn at c;refine aE (E:=(E0p 2)) (caps:=[]) _ aV rfl rfl rfl rfl rfl ?_;repeat' first
  |refine aB ?_;conv=>whnf
  |exact GX.A (res:=z0c) (meF:=Yf) c z9a
def z9m (b:Ab)(a:Ab):List (Nat×Ent):=[(100000,.box 109 (Cg b)),(100001,.box 109 (Cg a))]
def Ye (r:Ab×Ab×Ab):List (Nat×Ent):=[(2,.box 109 (Cg r.1)),(100000,.box 109 (Cg r.2.1)),(100001,.box 109 (Cg r.2.2))]
def z0b (r:Ab×Ab×Ab):AV:=.agg [aI (r.1.fKind),aI (r.1.fNum),.str (r.1.fText)]
def z99 (r:Ab×Ab×Ab):AS:=⟨[(2,.ptr 2 0),(0,.ptr 100000 0),(1,.ptr 100001 0)],Ye r⟩
theorem z6n {n b a r}(c:Ym n b a=some r):ConG E0.P none (CalF E0.P 293 0) [.ptr 100000 0,.ptr 100001 0] [] (z9m b a) (z0b r) (Ye r):=by
 unfold Ym at c;refine aE (E:=(E0p 2)) (caps:=[]) _ aW rfl rfl rfl rfl rfl ?_;repeat' first
  |refine aB ?_;conv=>whnf
  |exact GX.A (res:=z0b) (meF:=Ye) c z99
def z9l (a:Ab):List (Nat×Ent):=[(100000,.box 109 (Cg a))]
def Yd (r:Ab×Ab):List (Nat×Ent):=[(1,.box 109 (Cg r.1)),(100000,.box 109 (Cg r.2))]
def z0a (r:Ab×Ab):AV:=.agg [aI (r.1.fKind),aI (r.1.fNum),.str (r.1.fText)]
def z98 (r:Ab×Ab):AS:=⟨[(1,.ptr 1 0),(0,.ptr 100000 0)],Yd r⟩
theorem z6m {n a r}(b:Yl n a=some r):ConG E0.P none (CalF E0.P 294 0) [.ptr 100000 0] [] (z9l a) (z0a r) (Yd r):=by
 unfold Yl at b;refine aE (E:=(E0p 1)) (caps:=[]) _ aX rfl rfl rfl rfl rfl ?_;repeat' first
  |refine aB ?_;conv=>whnf
  |exact GX.A (res:=z0a) (meF:=Yd) b z98
def z9k (a:Ab):List (Nat×Ent):=[(100000,.box 109 (Cg a))]
def Yc (r:Ab×Ab):List (Nat×Ent):=[(1,.box 109 (Cg r.1)),(100000,.box 109 (Cg r.2))]
def z09 (r:Ab×Ab):AV:=.agg [aI (r.1.fKind),aI (r.1.fNum),.str (r.1.fText)]
def z97 (r:Ab×Ab):AS:=⟨[(1,.ptr 1 0),(0,.ptr 100000 0)],Yc r⟩
theorem z6l {n a r}(b:Yk n a=some r):ConG E0.P none (CalF E0.P 295 0) [.ptr 100000 0] [] (z9k a) (z09 r) (Yc r):=by
 unfold Yk at b;refine aE (E:=(E0p 1)) (caps:=[]) _ aY rfl rfl rfl rfl rfl ?_;repeat' first
  |refine aB ?_;conv=>whnf
  |exact GX.A (res:=z09) (meF:=Yc) b z97
instance zoe {n e d c}:CI E0 (Vo n e d c) true 288 [aI e,Ag d,Ag c] Ag:=⟨fun {r} b=>by
 unfold Vo at b;refine cw Tryz.func288 ?_;repeat' first
  |refine aB ?_;conv=>whnf
  |refine NatX.oS b rfl (fun b=>?_) (fun b=>?_)
  |(cases b;done)
  |refine Af.I b fun a b=>?_
  |refine B9.oM (Bm 15 b) [(100000,4),(100001,5)] [(2,16000000),(100000,4),(100001,5)] _ _ Yg z0d [] (fun a h=>aG (z6p h)) (B0 aU rfl rfl) rfl rfl rfl ⟨⟨rfl,rfl⟩,⟨⟨rfl,rfl⟩,trivial⟩⟩ (fun a=>⟨rfl,rfl,rfl,rfl,rfl,rfl,rfl,rfl⟩) (fun a b=>?_)
  |refine B9.oM (Bm 15 b) [(100000,4),(100001,5)] [(2,16000000),(100000,4),(100001,5)] _ _ Yf z0c [] (fun a h=>aG (z6o h)) (B0 aV rfl rfl) rfl rfl rfl ⟨⟨rfl,rfl⟩,⟨⟨rfl,rfl⟩,trivial⟩⟩ (fun a=>⟨rfl,rfl,rfl,rfl,rfl,rfl,rfl,rfl⟩) (fun a b=>?_)
  |refine B9.oM (Bm 15 b) [(100000,4),(100001,5)] [(2,16000000),(100000,4),(100001,5)] _ _ Ye z0b [] (fun a h=>aG (z6n h)) (B0 aW rfl rfl) rfl rfl rfl ⟨⟨rfl,rfl⟩,⟨⟨rfl,rfl⟩,trivial⟩⟩ (fun a=>⟨rfl,rfl,rfl,rfl,rfl,rfl,rfl,rfl⟩) (fun a b=>?_)
  |refine B9.oM (Bm 15 b) [(100000,4)] [(1,16000000),(100000,4)] _ _ Yd z0a [] (fun a h=>aG (z6m h)) (B0 aX rfl rfl) rfl rfl rfl ⟨⟨rfl,rfl⟩,trivial⟩ (fun a=>⟨rfl,rfl,rfl,rfl,rfl,rfl,rfl,rfl⟩) (fun a b=>?_)
  |refine B9.oM (Bm 15 b) [(100000,5)] [(1,16000000),(100000,5)] _ _ Yc z09 [] (fun a h=>aG (z6l h)) (B0 aY rfl rfl) rfl rfl rfl ⟨⟨rfl,rfl⟩,trivial⟩ (fun a=>⟨rfl,rfl,rfl,rfl,rfl,rfl,rfl,rfl⟩) (fun a b=>?_)
  |exact aD b⟩
instance zp8 {n b a}:CI E0 (Yy n b a) true 284 [E8 b,E8 a] E8:=by unfold Yy;exact aA [] Tryz.func284
instance ztx {n c b a}:CI E0 (Z2 n c b a) true 283 [E8 c,Ag b,.ref [aI a]] E8:=by unfold Z2;exact aA [] Tryz.func283
instance zp9 {n c a b}:CI E0 (Vv n c a b) true 282 [E8 c,.sl 3 (a.map Ag),.fn 283 [.ref [aI b]]] E8:=by unfold Vv;exact aA [] Tryz.func282
instance zr6 {n a}:CI E0 (W5 n a) true 289 [E8 a] aI:=by unfold W5;exact aA [3,7,9,11,6] Tryz.func289
instance zpa {n b a}:CI E0 (S7 n b a) true 286 [E8 b,Ag a] (fun r=>.tup [Ag r.1,aI r.2]):=by unfold S7;exact aA [9] Tryz.func286
instance zvr {n e d c}:CI E0 (Sw n e d c) true 276 [aI e,.sl 3 (d.map Ag),Ag c] (fun r=>.tup [Ag r.1,aI r.2]):=⟨fun {r} b=>by
 unfold Sw at b;refine cw Tryz.func276 ?_;repeat' first
  |refine aB ?_;conv=>whnf
  |refine aN b (fun b=>?_) fun b=>?_
  |refine Af.I b fun a b=>?_
  |refine B9.I b (fun a b=>?_) rfl rfl fun _=>Or.inr rfl
  |refine aK b fun x b=>?_
  |exact ⟨_,b,aC []⟩
  |refine Ax.I b (aC []) fun m v b=>?_
  |exact aD b⟩
instance y2a {n a}:CI E0 (Wu n a) true 176 [aI a] (fun r=>.bool (r)):=by unfold Wu;exact aA [] Tryz.func176
instance zz5 {n b a}:CI E0 (Cy n b a) true 135 [aI b,aI a] aI:=by unfold Cy;exact aA [] Tryz.func135
end
noncomputable section
abbrev zr7 {n a b}:=li (T1 n a b) (fun c=>⟨[(3,aI 0),(6,.sl 1 (a.map aI)),(7,aI (((a.map aI).length:Int))),(8,aI c)],[]⟩) fun _ _=>T1.eq_2 ..
abbrev z6b {n d a b}:=li (Qr n d a b) (fun c=>⟨[(0,.sl 4 (a.map Ar)),(1,.sl 4 (d.map Ar)),(2,.fn 132 []),(11,.sl 4 (a.map Ar)),(12,aI (((a.map Ar).length:Int))),(13,aI c)],[]⟩) fun _ _=>Qr.eq_2 ..
abbrev z1m {n d a b}:=li (Ox n d a b) (fun c=>⟨[(0,.sl 2 (a.map Ae)),(1,.sl 2 (d.map Ae)),(2,.fn 165 []),(11,.sl 2 (a.map Ae)),(12,aI (((a.map Ae).length:Int))),(13,aI c)],[]⟩) fun _ _=>Ox.eq_2 ..
abbrev zdb {n}:=jf (F9 n) (fun b=>⟨[(2,.bool (b))],[]⟩) fun _=>F9.eq_1 ..
abbrev z3l {n b a c}:=li (Pk n b a c) (fun d=>⟨[(0,.sl 4 (a.map Ar)),(1,.fn 155 [.ref (Bx b)]),(7,aI (((a.map Ar).length:Int))),(8,aI d)],[]⟩) fun _ _=>Pk.eq_2 ..
abbrev z3m {n b a c}:=li (Pm n b a c) (fun d=>⟨[(0,.sl 3 (a.map A4)),(1,.fn 118 [.ref (Bx b)]),(7,aI (((a.map A4).length:Int))),(8,aI d)],[]⟩) fun _ _=>Pm.eq_2 ..
attribute [instance] zr7 z6b z1m zdb z3l z3m
instance y5u {n a}:CI E0 (En n a) true 133 [.sl 1 (a.map aI)] aI:=by unfold En;exact aA [] Tryz.func133
instance y01 {n b a}:CI E0 (Wn n b a) true 134 [Bf b,Bf a] aI:=by unfold Wn;exact aA [] Tryz.func134
instance zqx {n b a}:CI E0 (W4 n b a) true 132 [Ar b,Ar a] aI:=by unfold W4;exact aA [] Tryz.func132
instance zla {n b a}:CI E0 (Uz n b a) true 131 [.sl 4 (b.map Ar),.sl 4 (a.map Ar),.fn 132 []] aI:=by unfold Uz;exact aA [] Tryz.func131
instance zv9 {n b a}:CI E0 (Sn n b a) true 92 [Au b,Au a] aI:=by unfold Sn;exact aA [] Tryz.func92
instance zv8 {n b a}:CI E0 (Wb n b a) true 165 [Ae b,Ae a] aI:=by unfold Wb;exact aA [] Tryz.func165
instance zfh {n b a}:CI E0 (U7 n b a) true 164 [.sl 2 (b.map Ae),.sl 2 (a.map Ae),.fn 165 []] aI:=by unfold U7;exact aA [] Tryz.func164
instance zz1 {n b a}:CI E0 (Wf n b a) true 122 [A4 b,A4 a] aI:=by unfold Wf;exact aA [] Tryz.func122
instance zzx {n a}:CI E0 (Wk n a) true 117 [A6 a] (fun r=>.bool (r)):=by unfold Wk;exact aA [1] Tryz.func117
instance y5i {n a}:CI E0 (Jp n a) true 115 [A6 a] Bf:=by unfold Jp;exact aA [] Tryz.func115
instance y3a {n b a}:CI E0 (Nu n b a) true 116 [Bf b,Bf a] aI:=by unfold Nu;exact aA [] Tryz.func116
instance zzy {n b a}:CI E0 (Nl n b a) true 155 [Ar b,.ref (Bx a)] (fun r=>.bool (r)):=by unfold Nl;exact aA [] Tryz.func155
instance zi3 {n a b}:CI E0 (Uj n a b) true 186 [.sl 4 (a.map Ar),.fn 155 [.ref (Bx b)]] aI:=by unfold Uj;exact aA [] Tryz.func186
instance zes {n a b}:CI E0 (U1 n a b) true 154 [.sl 4 (a.map Ar),.fn 155 [.ref (Bx b)]] (fun r=>.bool (r)):=by unfold U1;exact aA [] Tryz.func154
instance y3b {n d c}:CI E0 (Zp n d c) true 119 [A4 d,A6 c] (fun r=>.bool (r)):=⟨fun {r} b=>by
 unfold Zp at b;refine cw Tryz.func119 ?_;repeat' first
  |refine aB ?_;conv=>whnf
  |refine B9.I b (fun a b=>?_) rfl rfl fun _=>Or.inr rfl
  |exact aD b⟩
instance y00 {n b a}:CI E0 (Nm n b a) true 118 [A4 b,.ref (Bx a)] (fun r=>.bool (r)):=by unfold Nm;exact aA [] Tryz.func118
instance zi4 {n a b}:CI E0 (Uk n a b) true 59 [.sl 3 (a.map A4),.fn 118 [.ref (Bx b)]] aI:=by unfold Uk;exact aA [] Tryz.func59
instance zet {n a b}:CI E0 (U2 n a b) true 27 [.sl 3 (a.map A4),.fn 118 [.ref (Bx b)]] (fun r=>.bool (r)):=by unfold U2;exact aA [] Tryz.func27
instance y3c {n d c}:CI E0 (Nv n d c) true 84 [.sl 3 (d.map A4),A6 c] aI:=⟨fun {r} b=>by
 unfold Nv at b;refine cw Tryz.func84 ?_;repeat' first
  |refine aB ?_;conv=>whnf
  |refine aN b (fun b=>?_) fun b=>?_
  |refine Af.I b fun a b=>?_
  |refine B9.I b (fun a b=>?_) rfl rfl fun _=>Or.inr rfl
  |exact aD b⟩
end
noncomputable section
abbrev z6c {n d c}:=li (Lo n d c) (fun b=>⟨[(0,.row 200000),(1,.fn 163 [.ref [.fn 122 []]]),(5,aI b.1),(6,.der (.sub 3 (d)) 200000),(7,aI b.2.1)],[(200000,.row 60 3 (b.2.2.map A4))]⟩) fun _ _=>Lo.eq_2 ..
abbrev z6d {n a b}:=li (Qs n a b) (fun c=>⟨[(0,.row 200000),(1,.fn 163 [.ref [.fn 122 []]]),(5,aI c)],[(200000,.row 60 3 (a.map A4))]⟩) fun _ _=>Qs.eq_2 ..
abbrev z7r {n}:=jf (M5 n) (fun b=>⟨[(2,.bool (b))],[]⟩) fun _=>M5.eq_1 ..
abbrev z7i {n a b}:=li (R3 n a b) (fun c=>⟨[(0,.sl 11 (a.map Be)),(3,aI c)],[]⟩) fun _ _=>R3.eq_2 ..
abbrev z7m {n}:=jf (M2 n) (fun b=>⟨[(2,.bool (b))],[]⟩) fun _=>M2.eq_1 ..
abbrev z7j {n a b d c}:=li (R4 n a b d c) (fun e=>⟨[(1,.ptr 1 0),(4,aI b),(5,.ptr 5 0),(6,aI e)],[(1,.box 25 (B4 a)),(5,.box 115 (C7 d))]⟩) fun _ _=>R4.eq_2 ..
abbrev z5x {n a b c e}:=jf (F0 n a b c e) (fun d=>⟨[(1,.ptr 1 0),(4,aI b),(5,.ptr 5 0),(105,.bool (d))],[(1,.box 25 (B4 a)),(5,.box 115 (C7 e))]⟩) fun _=>F0.eq_1 ..
abbrev z5y {n a b c d}:=jf (Lj n a b c d) (fun e=>⟨[(1,.ptr 1 0),(4,aI b),(64,.bool (e))],[(1,.box 25 (B4 a))]⟩) fun _=>Lj.eq_1 ..
abbrev z7k {n a b}:=li (Iw n a b) (fun c=>⟨[(1,.ptr 1 0),(4,aI c)],[(1,.box 25 (B4 a))]⟩) fun _ _=>Iw.eq_2 ..
abbrev z5v {n a b c}:=jf (Fw n a b c) (fun d=>⟨[(1,.ptr 1 0),(3,aI b),(55,.bool (d))],[(1,.box 25 (B4 a))]⟩) fun _=>Fw.eq_1 ..
abbrev z5w {n a b c d}:=jf (Li n a b c d) (fun e=>⟨[(1,.ptr 1 0),(3,aI b),(15,.bool (e))],[(1,.box 25 (B4 a))]⟩) fun _=>Li.eq_1 ..
abbrev z7l {n a b}:=li (Ix n a b) (fun c=>⟨[(1,.ptr 1 0),(3,aI c)],[(1,.box 25 (B4 a))]⟩) fun _ _=>Ix.eq_2 ..
abbrev z7u {n a b}:=li (R7 n a b) (fun c=>⟨[(0,.sl 3 (a.map Ag)),(3,aI c)],[]⟩) fun _ _=>R7.eq_2 ..
abbrev z7t {n a b}:=li (R6 n a b) (fun c=>⟨[(0,.sl 5 (a.map A6)),(3,aI c)],[]⟩) fun _ _=>R6.eq_2 ..
abbrev z4x {n a b c}:=li (Q6 n a b c) (fun d=>⟨[(0,.sl 5 (a.map A6)),(3,aI b),(4,aI d)],[]⟩) fun _ _=>Q6.eq_2 ..
abbrev z4w {n a b c}:=li (Q5 n a b c) (fun d=>⟨[(0,.sl 5 (a.map A6)),(3,aI b),(4,aI d)],[]⟩) fun _ _=>Q5.eq_2 ..
attribute [instance] z6c z6d z7r z7i z7m z7j z5x z5y z7k z5v z5w z7l z7u z7t z4x z4w
set_option maxHeartbeats 400000 in
theorem zok (l:List (Cel 3))(S:Nat->Prop)(v:Value)(w:World)(h:Sl w S 3 encC v l)(d:l.length<=1000000000) :
  Calls Tryz.prog 149 #[v] w (K2 60 3 encC l w):=by
 have eok:EOk Tryz.prog 57 60 3 56 (encC (n:=3)):=eokC (sz:=3) (Dd 57 _ rfl) rfl (Dd 60 _ rfl) (by omega) rfl;obtain ⟨A,c,rfl,f,_⟩:=h.form;have a:=fun (W:World)=>Lib.run_eql_slice_nil W 57 60 A l.length c 0 0 Tryz.underlying57
 have H:=hide h;cases A with
 |none =>
  have g:l=[]:=h.none_nil;subst g;clear h H d f;simp only [length_nil,Option.isNone_none] at a ⊢
  go_enter aJ,aQ
  go_wp2
  go_ret
  exact ⟨none,0,rfl,Own.nil_,by go_grown⟩
 |some ad =>
  clear h
  go_enter aJ,aQ
  go_wp2_with (at_builtin;refine Jg rfl _ _ rfl eok rfl Own.made_ rfl (H.out.alloc _) (by simp;omega) (by omega) (by simp) ?_;intro A' i w1 b e _)
  go_ret
  exact ⟨A',i,rfl,b,(Own.made_ (sz:=3) (enc:=encC (n:=3))).grown ((Below.refl _ _).alloc (Nat.le_refl _) _) (Nat.le_refl _) (by simp) e⟩
theorem zkf {n a r}(b:Cc n a=some r):ConT E0 149 [.sl 3 (List.map A4 a)] 60 3 (List.map A4 r) (.row 0):=Ny rfl (B0 aJ rfl rfl) zok b
instance zqr {n b a}:CI E0 (Se n b a) true 163 [A4 b,A4 a,.ref [.fn 122 []]] (fun r=>.bool (r)):=by unfold Se;exact aA [] Tryz.func163
def za7 (a:(List A0)):List (Nat×Ent):=[(200000,.row 60 3 (a.map A4))]
def Ut (r:(List A0)):List (Nat×Ent):=[(260000,.row 60 3 (r.map A4))]
def Yq (r:(List A0)):AV:=.row 260000
def z11 (r:(List A0)):AS:=⟨[(4,.row 260000)],Ut r⟩
theorem z85 {n c r}(b:V0 n c=some r):ConG E0.P none (CalF E0.P 162 0) [.row 200000,.fn 163 [.ref [.fn 122 []]]] [] (za7 c) (Yq r) (Ut r):=by
 unfold V0 at b;refine aE (E:=(E0p 2)) (caps:=[]) _ aZ rfl rfl rfl rfl rfl ?_;repeat' first
  |refine aB ?_;conv=>whnf
  |refine aN b (fun b=>?_) fun b=>?_
  |exact GX.A (res:=Yq) (meF:=Ut) b z11 (h1:=aC [(260000,200000)])
  |refine NatX.o b (fun m b=>?_)
  |refine EltX.o A4 b (fun x b=>?_)
  |refine Af.I b fun a b=>?_
  |refine OpX.sub b rfl rfl rfl rfl rfl rfl rfl rfl rfl rfl (fun m b=>?_)
  |refine OpX.clr A4 b rfl rfl rfl rfl rfl rfl rfl rfl rfl rfl rfl (by first|exact SubL.refl _|(repeat' first|exact SubL.nil|refine SubL.cons ?_ ?_|exact Sub.refl _|exact Sub.nil _|refine Sub.agg ?_)) (fun l b=>?_)
  |refine SlsX.o A4 b (fun l b=>?_)
  |exact GX.A (res:=Yq) (meF:=Ut) b z11 (h1:=aC [(260000,64)])
  |refine OpX.lns b rfl rfl rfl rfl rfl rfl rfl (fun b=>?_)
  |refine OpX.ixs b rfl rfl rfl rfl rfl rfl rfl rfl rfl rfl (fun m b=>?_)
  |refine SetX.o A4 b (fun x=>rfl) (fun x=>(by first|exact SubL.refl _|(repeat' first|exact SubL.nil|refine SubL.cons ?_ ?_|exact Sub.refl _|exact Sub.nil _|refine Sub.agg ?_))) (fun l b=>?_)
  |exact ⟨_,b,aC []⟩
  |refine Ax.I b (aC []) fun m v b=>?_
  |refine AndA ?_
  |refine EqX.A ?_
def zow (a:(List A0)):List (Nat×Ent):=[(200000,.row 60 3 (a.map A4))]
def Wj (r:(List A0)):List (Nat×Ent):=[(260000,.row 60 3 (r.map A4))]
def Zb (r:(List A0)):AV:=.row 260000
def zot (r:(List A0)):AS:=⟨[(4,.row 260000)],Wj r⟩
theorem zad {n c r}(b:Sy n c=some r):ConG E0.P none (CalF E0.P 121 0) [.row 200000,.fn 122 []] [] (zow c) (Zb r) (Wj r):=by
 unfold Sy at b;refine aE (E:=(E0p 2)) (caps:=[]) _ bA rfl rfl rfl rfl rfl ?_;repeat' first
  |refine AW.frbO b 3 rfl rfl (fun b=>?_)
  |refine aH b fun b=>?_
  |refine aF [2] ?_;conv=>whnf
  |refine B9.oI b 200000 (fun r=>r) A4 (fun _=>AV.tup []) rfl (fun a h=>(ConC.env rfl (zuc h))) rfl rfl rfl (fun a b=>?_)
  |refine B9.oM (Bm 10 b) [(200000,200000)] [(260000,11000000)] _ _ Ut Yq [200000] (fun a h=>aG (z85 h)) (B0 aZ rfl rfl) rfl rfl rfl ⟨⟨rfl,rfl⟩,trivial⟩ (fun a=>⟨rfl,rfl,rfl,rfl,rfl,rfl,rfl,rfl⟩) (fun a b=>?_)
  |exact GX.A (res:=Zb) (meF:=Wj) b zot (h1:=aC [(260000,11000000)])
instance y3e {n c}:CI E0 (X2 n c) false 109 [.sl 3 (c.map A4)] (fun r=>.tup [.sl 3 (r.1.map A4),aI r.2]):=⟨fun {r} b=>by
 unfold X2 at b;refine cw Tryz.func109 ?_;repeat' first
  |refine aB ?_;conv=>whnf
  |refine aN b (fun b=>?_) fun b=>?_
  |refine Af.oR b (fun r=>r) A4 (fun _=>AV.row 0) rfl (fun a h=>zkf h) (fun a b=>?_)
  |refine B9.oM (Bm 7 b) [(200000,6)] [(260000,8000000)] _ _ Wj Zb [6] (fun a h=>aG (zad h)) (B0 bA rfl rfl) rfl rfl rfl ⟨⟨rfl,rfl⟩,trivial⟩ (fun a=>⟨rfl,rfl,rfl,rfl,rfl,rfl,rfl,rfl⟩) (fun a b=>?_)
  |exact aD b⟩
instance znw {n a}:CI E0 (Mw n a) true 61 [Av a] (fun r=>.bool (r)):=by unfold Mw;exact aA [1] Tryz.func61
instance znt {n a}:CI E0 (V8 n a) true 60 [.sl 11 (a.map Be)] (fun r=>.bool (r)):=by unfold V8;exact aA [] Tryz.func60
instance znu {n c}:CI E0 (V9 n c) true 30 [Bj c] (fun r=>.bool (r)):=⟨fun {r} b=>by
 unfold V9 at b;refine cw Tryz.func30 ?_;repeat' first
  |refine bD b (fun v b=>?_) fun b=>?_
  |refine aH b fun b=>?_
  |refine aF [2,4,7,10,17] ?_;conv=>whnf
  |refine aN b (fun b=>?_) fun b=>?_
  |refine Aa.t ?_
  |refine Aa.f ?_
  |exact ⟨_,b,aC []⟩
  |refine aK b fun x b=>?_
  |refine bE b D4 (fun x b=>?_)
  |refine Af.I b fun a b=>?_
  |refine Ax.I b (aC []) fun m v b=>?_
  |exact aD b⟩
instance zo0 {n a}:CI E0 (Vd n a) true 62 [.sl 3 (a.map Ag)] (fun r=>.bool (r)):=by unfold Vd;exact aA [] Tryz.func62
instance znz {n a}:CI E0 (Vc n a) true 31 [.sl 5 (a.map A6)] (fun r=>.bool (r)):=by unfold Vc;exact aA [] Tryz.func31
instance zi2 {n a}:CI E0 (Ui n a) true 100 [A6 a] (fun r=>.bool (r)):=by unfold Ui;exact aA [] Tryz.func100
instance zny {n a}:CI E0 (Mx n a) true 101 [A6 a] Bf:=by unfold Mx;exact aA [] Tryz.func101
instance zl8 {n b a}:CI E0 (Ru n b a) true 102 [A6 b,A6 a] (fun r=>.bool (r)):=by unfold Ru;exact aA [] Tryz.func102
end
end Go.Proofs.YtidhlpjgifoneaaGreat
