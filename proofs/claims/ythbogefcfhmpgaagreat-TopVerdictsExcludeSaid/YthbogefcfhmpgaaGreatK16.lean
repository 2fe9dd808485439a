/- What some functions compute, over plain values. -/
import Derived.Test.YthbogefcfhmpgaaGreatK15
set_option linter.unusedVariables false
set_option linter.unusedSimpArgs false
set_option maxRecDepth 100000
set_option maxHeartbeats 8000000
namespace Go.Proofs.YthbogefcfhmpgaaGreat
open Go.RowKit List
open LeX renaming a->aA,trans->aH,adopt->aM
open RetX renaming oB->aB
open CI renaming w->aC
open AW renaming stepU->aD,step->aE,regO->aF,jI->aX,frzO->aY
open Tryz renaming func284->aG,func265->aZ,ntmps265->bB,func365->bC,func366->bD,func367->bE,func368->bF,func369->bG,func201->bH,func124->bI,func239->bJ
open IdxX renaming A->aJ,oD->aT
open ConG renaming up->aK,walk->aN
open A3 renaming o->aL,t->aU,f->aV
open Ap renaming I->aO
open EqX renaming A->aP
open Ab renaming I->aQ
open AppX renaming oA->aR
open SubL renaming refl->aS
open B3 renaming oM->aW
noncomputable section
abbrev z6w {n b a g c d e}:=jf (Ky n b a g c d e) (fun f=>⟨[(1,aI a),(2,.ptr 2 0),(5,aI c.1),(6,aI c.2),(16,.bool (f))],[(2,.box 146 (D2 g))]⟩) fun _=>Ky.eq_1 ..
abbrev z6v {n b a e c}:=li (I5 n b a e c) (fun d=>⟨[(1,aI a),(2,.ptr 2 0),(5,aI d.1),(6,aI d.2)],[(2,.box 146 (D2 e))]⟩) fun _ _=>I5.eq_2 ..
abbrev z6u {n b a c}:=li (Ph n b a c) (fun d=>⟨[(1,.ptr 1 0),(3,aI d.1),(4,aI d.2)],[(1,.box 146 (D2 a))]⟩) fun _ _=>Ph.eq_2 ..
abbrev z6p {n}:=jt (Eh n) (fun b=>⟨[(12,.bool (b))],[]⟩) fun _=>Eh.eq_1 ..
abbrev z6q {n a}:=jt (Fu n a) (fun b=>⟨[(3,aI a),(4,.bool (b))],[]⟩) fun _=>Fu.eq_1 ..
abbrev z81 {n b}:=jf (I7 n b) (fun c=>⟨[(2,.bool (c)),(3,.bool (b))],[]⟩) fun _=>I7.eq_1 ..
abbrev z82 {n a}:=jf (L9 n a) (fun b=>⟨[(0,aI a),(4,.bool (b))],[]⟩) fun _=>L9.eq_1 ..
abbrev z6x {n}:=jf (Gn n) (fun b=>⟨[(4,.bool (b))],[]⟩) fun _=>Gn.eq_1 ..
abbrev z84 {n}:=jf (Cc n) (fun b=>⟨[(130,.bool (b))],[]⟩) fun _=>Cc.eq_1 ..
abbrev z85 {n d a b}:=jf (Gu n d a b) (fun c=>⟨[(1,.ptr 1 0),(4,.bool (a.1)),(5,.bool (a.2)),(6,.bool (decide (d.fOp=4))),(7,.bool (b)),(95,.bool (c))],[(1,.box 146 (D2 d))]⟩) fun _=>Gu.eq_1 ..
abbrev z86 {n c a b}:=jt (La n c a b) (fun _=>⟨[(1,.ptr 1 0),(4,.bool (a.1)),(5,.bool (a.2)),(6,.bool (decide (c.fOp=4))),(7,.bool (b))],[(1,.box 146 (D2 c))]⟩) fun _=>La.eq_1 ..
abbrev z87 {n c a}:=jf (Lb n c a) (fun b=>⟨[(1,.ptr 1 0),(4,.bool (a.1)),(5,.bool (a.2)),(6,.bool (decide (c.fOp=4))),(7,.bool (b))],[(1,.box 146 (D2 c))]⟩) fun _=>Lb.eq_1 ..
abbrev z88 {n c a}:=jf (I8 n c a) (fun b=>⟨[(1,.ptr 1 0),(4,.bool (a.1)),(5,.bool (a.2)),(6,.bool (decide (c.fOp=4))),(62,.bool (b))],[(1,.box 146 (D2 c))]⟩) fun _=>I8.eq_1 ..
abbrev z89 {n c a}:=jf (E7 n c a) (fun b=>⟨[(1,.ptr 1 0),(4,.bool (a.1)),(5,.bool (a.2)),(48,.bool (b))],[(1,.box 146 (D2 c))]⟩) fun _=>E7.eq_1 ..
abbrev z6o {n b a c}:=li (Pg n b a c) (fun d=>⟨[(1,.ptr 1 0),(4,aI d)],[(1,.box 146 (D2 a))]⟩) fun _ _=>Pg.eq_2 ..
attribute [instance] z6w z6v z6u z6p z6q z81 z82 z6x z84 z85 z86 z87 z88 z89 z6o
def zbq (r:Int):AV:=aI (r)
theorem z67 {n d c r}(b:G3 n d c=some r):Con E0 true 148 [Ay d,aI c] (aI r):=by
 induction n generalizing d c r
 case zero=>cases b
 case succ n e =>
 unfold G3 at b;refine cw Tryz.func148 ?_;repeat' first
  |refine aX b (fun v b=>?_) fun b=>?_
  |refine aF b fun b=>?_
  |refine aD [3] ?_;conv=>whnf
  |refine aL b (fun b=>?_) fun b=>?_
  |refine aT b D0 (fun x b=>?_)
  |refine Ab.o b zbq (fun a h=>e h) (fun a b=>?_)
  |exact ⟨_,b,aA []⟩
  |refine aO b (aA []) fun m v b=>?_
  |exact aB b
instance zn6 {n b a}:CI E0 (G3 n b a) true 148 [Ay b,aI a] aI:=⟨z67⟩
def zbp (r:Int):AV:=aI (r)
theorem z65 {n c r}(b:G2 n c=some r):Con E0 true 149 [Ay c] (aI r):=by
 induction n generalizing c r
 case zero=>cases b
 case succ n d =>
 unfold G2 at b;refine cw Tryz.func149 ?_;repeat' first
  |refine aE ?_;conv=>whnf
  |refine aL b (fun b=>?_) fun b=>?_
  |refine aT b D0 (fun x b=>?_)
  |refine Ab.o b zbp (fun a h=>d h) (fun a b=>?_)
  |exact ⟨_,b,aA []⟩
  |refine aO b (aA []) fun m v b=>?_
  |exact aB b
instance zn5 {n a}:CI E0 (G2 n a) true 149 [Ay a] aI:=⟨z65⟩
instance zn2 {n a}:CI E0 (Ur n a) true 305 [aI a] aI:=by unfold Ur;exact aC [2,3,4,5,10,11,12,13,14,15] Tryz.func305
instance zob {n a}:CI E0 (Uz n a) true 306 [aI a] (fun r=>.tup [.bool (r.1),.bool (r.2)]):=by unfold Uz;exact aC [1,2] Tryz.func306
instance znd {n a}:CI E0 (H0 n a) true 269 [Af a] aI:=by unfold H0;exact aC [] Tryz.func269
instance zn9 {n b a}:CI E0 (Lw n b a) true 307 [aI b,Af a] (fun r=>.bool (r)):=by unfold Lw;exact aC [1] Tryz.func307
instance zod {n c}:CI E0 (V0 n c) true 262 [Ay c] aI:=⟨fun {r} b=>by
 unfold V0 at b;refine cw Tryz.func262 ?_;repeat' first
  |refine aX b (fun v b=>?_) fun b=>?_
  |refine AW.jI2 b (fun v b=>?_) fun b=>?_
  |refine aF b fun b=>?_
  |refine aD [7,10,12,13,17,19] ?_;conv=>whnf
  |refine aL b (fun b=>?_) fun b=>?_
  |refine aU ?_
  |refine aV ?_
  |refine aQ b fun a b=>?_
  |exact ⟨_,b,aA []⟩
  |exact ⟨(),b,aA []⟩
  |refine aP ?_
  |exact aB b⟩
def zbo (r:Int):AV:=aI (r)
theorem z64 {n c r}(b:Gz n c=some r):Con E0 true 208 [Ay c] (aI r):=by
 induction n generalizing c r
 case zero=>cases b
 case succ n d =>
 unfold Gz at b;refine cw Tryz.func208 ?_;repeat' first
  |refine aE ?_;conv=>whnf
  |refine aL b (fun b=>?_) fun b=>?_
  |refine aQ b fun a b=>?_
  |refine aT b D0 (fun x b=>?_)
  |refine Ab.o b zbo (fun a h=>d h) (fun a b=>?_)
  |exact ⟨_,b,aA []⟩
  |refine aO b (aA []) fun m v b=>?_
  |exact aB b
instance zn1 {n a}:CI E0 (Gz n a) true 208 [Ay a] aI:=⟨z64⟩
end
noncomputable section
abbrev z9r {n}:=jf (Ll n) (fun b=>⟨[(4,.bool (b))],[]⟩) fun _=>Ll.eq_1 ..
abbrev z5g {n a e b c}:=li (Oy n a e b c) (fun d=>⟨[(1,.sl 11 (a.map B7)),(2,.ptr 2 0),(5,aI b),(6,aI d)],[(2,.box 26 (B1 e))]⟩) fun _ _=>Oy.eq_2 ..
abbrev z5i {n a e b c}:=jf (I3 n a e b c) (fun d=>⟨[(1,.sl 11 (a.map B7)),(2,.ptr 2 0),(5,aI b),(44,.bool (d))],[(2,.box 26 (B1 e))]⟩) fun _=>I3.eq_1 ..
abbrev z5h {n a d b}:=li (Fo n a d b) (fun c=>⟨[(1,.sl 11 (a.map B7)),(2,.ptr 2 0),(5,aI c)],[(2,.box 26 (B1 d))]⟩) fun _ _=>Fo.eq_2 ..
abbrev z5e {n a e b c}:=li (Ox n a e b c) (fun d=>⟨[(0,.sl 1 (e.map aI)),(1,aI a),(5,aI b),(6,aI d)],[]⟩) fun _ _=>Ox.eq_2 ..
abbrev z5f {n a d b}:=li (Ki n a d b) (fun c=>⟨[(0,.sl 1 (d.map aI)),(1,aI a),(5,aI c)],[]⟩) fun _ _=>Ki.eq_2 ..
abbrev z6f {n a b}:=li (Ku n a b) (fun c=>⟨[(3,.ptr 3 0),(10,aI c)],[(3,.box 149 (Bs a))]⟩) fun _ _=>Ku.eq_2 ..
abbrev z6g {n a e b c}:=li (Gl n a e b c) (fun d=>⟨[(2,.ptr 2 0),(3,.ptr 3 0),(7,.sl 1 [.sl 1 (a.fOpens.map aI),.sl 1 (a.fCloses.map aI),.sl 1 (a.fInside.map aI),.sl 1 (b.map aI)]),(8,aI d)],[(2,.box 26 (B1 e)),(3,.box 149 (Bs a))]⟩) fun _ _=>Gl.eq_2 ..
abbrev z6h {n a d b}:=li (Pc n a d b) (fun c=>⟨[(2,.ptr 2 0),(3,.ptr 3 0),(5,.row 7026),(6,aI c.1)],[(2,.box 26 (B1 d)),(3,.box 149 (Bs a)),(7026,.row 3 1 (c.2.map aI))]⟩) fun _ _=>Pc.eq_2 ..
abbrev z7u {n a d b}:=li (Pz n a d b) (fun c=>⟨[(3,.ptr 3 0),(4,.ptr 4 0),(9,aI c)],[(3,.box 26 (B1 d)),(4,.box 149 (Bs a))]⟩) fun _ _=>Pz.eq_2 ..
abbrev z7v {n a c d}:=jf (Dt n a c d) (fun b=>⟨[(2,aI a),(3,.ptr 3 0),(4,.ptr 4 0),(42,.bool (b))],[(3,.box 26 (B1 d)),(4,.box 149 (Bs c))]⟩) fun _=>Dt.eq_1 ..
abbrev z6i {n a b}:=li (Pd n a b) (fun c=>⟨[(1,.ptr 1 0),(5,aI c.1),(6,aI c.2)],[(1,.box 26 (B1 a))]⟩) fun _ _=>Pd.eq_2 ..
abbrev z6j {n a b}:=li (Pe n a b) (fun c=>⟨[(1,.ptr 1 0),(3,aI c)],[(1,.box 26 (B1 a))]⟩) fun _ _=>Pe.eq_2 ..
abbrev z6k {n a}:=jf (Fq n a) (fun b=>⟨[(1,.ptr 1 0),(31,.bool (b))],[(1,.box 26 (B1 a))]⟩) fun _=>Fq.eq_1 ..
abbrev z6l {n a}:=jf (Gm n a) (fun b=>⟨[(1,.ptr 1 0),(15,.bool (b))],[(1,.box 26 (B1 a))]⟩) fun _=>Gm.eq_1 ..
attribute [instance] z9r z5g z5i z5h z5e z5f z6f z6g z6h z7u z7v z6i z6j z6k z6l
instance zn7 {n a}:CI E0 (G4 n a) true 134 [Ay a] aI:=by unfold G4;exact aC [] Tryz.func134
instance zr1 {n b a}:CI E0 (D9 n b a) true 65 [aI b,aI a] (fun r=>.bool (r)):=by unfold D9;exact aC [1] Tryz.func65
instance zla {n b a}:CI E0 (Ue n b a) true 66 [Bh b,.sl 11 (a.map B7)] aI:=by unfold Ue;exact aC [6] Tryz.func66
instance zl9 {n b a}:CI E0 (Qb n b a) true 209 [.sl 1 (b.map aI),aI a] aI:=by unfold Qb;exact aC [] Tryz.func209
instance zmw {n d c}:CI E0 (Qm n d c) true 135 [Bh d,Ac c] aI:=⟨fun {r} b=>by
 unfold Qm at b;refine cw Tryz.func135 ?_;repeat' first
  |refine aF b fun b=>?_
  |refine aY b 7026 rfl (fun b=>?_)
  |refine aD [6] ?_;conv=>whnf
  |refine aL b (fun b=>?_) fun b=>?_
  |refine aJ b fun x b=>?_
  |refine aQ b fun a b=>?_
  |exact ⟨_,b,aA []⟩
  |refine aO b ?_ fun m v b=>?_
  |exact aA []
  |refine IdxX.o (fun q=>AV.sl 1 (List.map aI q)) b fun x b=>?_
  |refine aR b fun l b=>?_
  |exact ⟨_,b,aA [(7026,26)]⟩
  |exact aH (aM 5 7026 3 1 rfl rfl) (aA [])
  |refine AndA ?_
  |exact aB b⟩
instance zo9 {n e d c}:CI E0 (Ux n e d c) true 67 [Bh e,Ac d,aI c] aI:=⟨fun {r} b=>by
 unfold Ux at b;refine cw Tryz.func67 ?_;repeat' first
  |refine aX b (fun v b=>?_) fun b=>?_
  |refine aF b fun b=>?_
  |refine aD [2] ?_;conv=>whnf
  |refine aL b (fun b=>?_) fun b=>?_
  |refine aU ?_
  |refine aV ?_
  |refine aQ b fun a b=>?_
  |refine aT b D0 (fun x b=>?_)
  |exact ⟨_,b,aA []⟩
  |refine aO b (aA []) fun m v b=>?_
  |exact aB b⟩
end
noncomputable section
abbrev zjg {n b a d}:=li (Sc n b a d) (fun c=>⟨[(4,aI c.1),(5,aI c.2.1),(11,.sl 8 (a.fArgs.map idA)),(12,aI (((a.fArgs.map idA).length:Int))),(13,aI c.2.2)],[]⟩) fun _ _=>Sc.eq_2 ..
abbrev zhz {n a}:=jf (Ms n a) (fun b=>⟨[(0,aI a),(4,.bool (b))],[]⟩) fun _=>Ms.eq_1 ..
abbrev zj9 {n}:=jt (Mw n) (fun b=>⟨[(8,.bool (b))],[]⟩) fun _=>Mw.eq_1 ..
abbrev zja {n a}:=jt (Mx n a) (fun b=>⟨[(4,aI a),(5,.bool (b))],[]⟩) fun _=>Mx.eq_1 ..
abbrev zhy {n}:=jf (Jb n) (fun b=>⟨[(4,.bool (b))],[]⟩) fun _=>Jb.eq_1 ..
abbrev zd9 {n}:=jf (H6 n) (fun b=>⟨[(31,.bool (b))],[]⟩) fun _=>H6.eq_1 ..
abbrev zjb {n}:=jf (Ce n) (fun b=>⟨[(113,.bool (b))],[]⟩) fun _=>Ce.eq_1 ..
abbrev zjc {n c a b}:=jt (My n c a b) (fun _=>⟨[(1,.ptr 1 0),(5,.bool (a.1)),(6,.bool (a.2)),(7,.bool (decide (c.fOp=4))),(8,.bool (b))],[(1,.box 146 (D2 c))]⟩) fun _=>My.eq_1 ..
abbrev zjd {n c a}:=jf (Mz n c a) (fun b=>⟨[(1,.ptr 1 0),(5,.bool (a.1)),(6,.bool (a.2)),(7,.bool (decide (c.fOp=4))),(8,.bool (b))],[(1,.box 146 (D2 c))]⟩) fun _=>Mz.eq_1 ..
abbrev zje {n c a}:=jf (Jc n c a) (fun b=>⟨[(1,.ptr 1 0),(5,.bool (a.1)),(6,.bool (a.2)),(7,.bool (decide (c.fOp=4))),(66,.bool (b))],[(1,.box 146 (D2 c))]⟩) fun _=>Jc.eq_1 ..
abbrev zjf {n c a}:=jf (Ea n c a) (fun b=>⟨[(1,.ptr 1 0),(5,.bool (a.1)),(6,.bool (a.2)),(52,.bool (b))],[(1,.box 146 (D2 c))]⟩) fun _=>Ea.eq_1 ..
abbrev zhx {n b a c}:=li (S7 n b a c) (fun d=>⟨[(1,.fn 238 []),(16,.sl 8 (a.fArgs.map idA)),(17,aI (((a.fArgs.map idA).length:Int))),(18,aI d)],[]⟩) fun _ _=>S7.eq_2 ..
abbrev zb6 {n}:=jf (Lx n) (fun b=>⟨[(4,.bool (b))],[]⟩) fun _=>Lx.eq_1 ..
attribute [instance] zjg zhz zj9 zja zhy zd9 zjb zjc zjd zje zjf zhx zb6
instance zmx {n a}:CI E0 (Fz n a) true 19 [Bh a] aI:=by unfold Fz;exact aC [1,3] Tryz.func19
def zv1 (r:Int×Int):AV:=.tup [aI (r.1),aI (r.2)]
theorem zib {n c r}(b:Hf n c=some r):Con E0 true 236 [Ay c] (.tup [aI r.1,aI r.2]):=by
 induction n generalizing c r
 case zero=>cases b
 case succ n d =>
 unfold Hf at b;refine cw Tryz.func236 ?_;repeat' first
  |refine aE ?_;conv=>whnf
  |refine aL b (fun b=>?_) fun b=>?_
  |refine aT b D0 (fun x b=>?_)
  |refine Ab.o b zv1 (fun a h=>d h) (fun a b=>?_)
  |exact ⟨_,b,aA []⟩
  |refine aO b (aA []) fun m v b=>?_
  |exact aB b
instance y5i {n a}:CI E0 (Hf n a) true 236 [Ay a] (fun r=>.tup [aI r.1,aI r.2]):=⟨zib⟩
instance y3g {n a}:CI E0 (Wv n a) true 282 [aI a] (fun r=>.tup [aI r.1,.bool (r.2)]):=by unfold Wv;exact aC [1] Tryz.func282
instance y5f {n a}:CI E0 (Sk n a) true 264 [aI a] (fun r=>.tup [.bool (r.1),.bool (r.2)]):=by unfold Sk;exact aC [2,5] Tryz.func264
instance y35 {n a}:CI E0 (N1 n a) true 310 [Af a] aI:=by unfold N1;exact aC [] Tryz.func310
instance y28 {n a}:CI E0 (Gb n a) true 271 [Af a] aI:=by unfold Gb;exact aC [] Tryz.func271
instance y3e {n b a}:CI E0 (Wu n b a) true 312 [aI b,Af a] (fun r=>.bool (r)):=by unfold Wu;exact aC [1] Tryz.func312
instance zx3 {n a}:CI E0 (Wc n a) true 283 [Ay a] aI:=by unfold Wc;exact aC [4] Tryz.func283
instance y5g {n c}:CI E0 (Wy n c) true 238 [Ay c] aI:=⟨fun {r} b=>by
 unfold Wy at b;refine cw Tryz.func238 ?_;repeat' first
  |refine aX b (fun v b=>?_) fun b=>?_
  |refine AW.jI2 b (fun v b=>?_) fun b=>?_
  |refine aF b fun b=>?_
  |refine aD [7,10,12,13,17] ?_;conv=>whnf
  |refine aL b (fun b=>?_) fun b=>?_
  |refine aU ?_
  |refine aV ?_
  |refine aQ b fun a b=>?_
  |exact ⟨_,b,aA []⟩
  |exact ⟨(),b,aA []⟩
  |refine aP ?_
  |exact aB b⟩
def zsc (r:Int):AV:=aI (r)
theorem zg1 {n c r}(b:Ha n c=some r):Con E0 true 237 [Ay c,.fn 238 []] (aI r):=by
 induction n generalizing c r
 case zero=>cases b
 case succ n d =>
 unfold Ha at b;refine cw Tryz.func237 ?_;repeat' first
  |refine aE ?_;conv=>whnf
  |refine aL b (fun b=>?_) fun b=>?_
  |refine aQ b fun a b=>?_
  |refine aT b D0 (fun x b=>?_)
  |refine Ab.o b zsc (fun a h=>d h) (fun a b=>?_)
  |exact ⟨_,b,aA []⟩
  |refine aO b (aA []) fun m v b=>?_
  |exact aB b
instance y3d {n a}:CI E0 (Ha n a) true 237 [Ay a,.fn 238 []] aI:=⟨zg1⟩
instance y3h {n a}:CI E0 (Hc n a) true 178 [Ay a] aI:=by unfold Hc;exact aC [] Tryz.func178
instance zsk {n b a}:CI E0 (Ej n b a) true 117 [aI b,aI a] (fun r=>.bool (r)):=by unfold Ej;exact aC [1] Tryz.func117
end
noncomputable section
abbrev zar {n b a c}:=li (Qr n b a c) (fun d=>⟨[(0,.sl 11 (a.map B7)),(1,.fn 177 [.ref (Wx b)]),(7,aI (((a.map B7).length:Int))),(8,aI d)],[]⟩) fun _ _=>Qr.eq_2 ..
abbrev zbb {n a f b c d}:=jf (Iz n a f b c d) (fun e=>⟨[(1,.sl 11 (a.map B7)),(2,.ptr 2 0),(5,aI b),(6,.ptr 6 0),(11,.sl 11 (a.map B7)),(12,aI (((a.map B7).length:Int))),(13,aI b),(18,.bool (e))],[(2,.box 26 (B1 f)),(6,.box 216 (Wx d))]⟩) fun _=>Iz.eq_1 ..
abbrev zba {n a d b}:=li (G5 n a d b) (fun c=>⟨[(1,.sl 11 (a.map B7)),(2,.ptr 2 0),(11,.sl 11 (a.map B7)),(12,aI (((a.map B7).length:Int))),(13,aI c)],[(2,.box 26 (B1 d))]⟩) fun _ _=>G5.eq_2 ..
abbrev zah {n a b}:=li (Qj n a b) (fun c=>⟨[(3,.row 7016),(6,.sl 2 (a.map Bw)),(7,aI (((a.map Bw).length:Int))),(8,aI c.1)],[(7016,.row 3 1 (c.2.map aI))]⟩) fun _ _=>Qj.eq_2 ..
abbrev zen {n d a b}:=li (Rn n d a b) (fun c=>⟨[(0,.sl 1 (a.map aI)),(1,aI d),(7,aI (((a.map aI).length:Int))),(8,aI c)],[]⟩) fun _ _=>Rn.eq_2 ..
abbrev zb8 {n a f c b d}:=li (H3 n a f c b d) (fun e=>⟨[(2,.ptr 2 0),(6,.sl 1 (b.map aI)),(9,.sl 1 (List.map (fun q=>AV.sl 1 (List.map aI q)) (a))),(10,aI ((((List.map (fun q=>AV.sl 1 (List.map aI q)) (a)).length:Nat):Int))),(11,aI c),(15,.sl 1 (b.map aI)),(16,aI (((b.map aI).length:Int))),(17,aI e)],[(2,.box 26 (B1 f))]⟩) fun _ _=>H3.eq_2 ..
abbrev zb9 {n a d b}:=li (Iy n a d b) (fun c=>⟨[(2,.ptr 2 0),(9,.sl 1 (List.map (fun q=>AV.sl 1 (List.map aI q)) (a))),(10,aI ((((List.map (fun q=>AV.sl 1 (List.map aI q)) (a)).length:Nat):Int))),(11,aI c)],[(2,.box 26 (B1 d))]⟩) fun _ _=>Iy.eq_2 ..
abbrev zbc {n}:=jf (Ly n) (fun b=>⟨[(2,.bool (b))],[]⟩) fun _=>Ly.eq_1 ..
abbrev z5n {n a b}:=li (P1 n a b) (fun c=>⟨[(0,.sl 2 (a.map Bw)),(1,.fn 182 []),(7,aI (((a.map Bw).length:Int))),(8,aI c)],[]⟩) fun _ _=>P1.eq_2 ..
attribute [instance] zar zbb zba zah zen zb8 zb9 zbc z5n
instance zoq {n b a}:CI E0 (R4 n b a) true 177 [B7 b,.ref (Wx a)] (fun r=>.bool (r)):=by unfold R4;exact aC [] Tryz.func177
instance zsg {n a b}:CI E0 (Vs n a b) true 235 [.sl 11 (a.map B7),.fn 177 [.ref (Wx b)]] aI:=by unfold Vs;exact aC [] Tryz.func235
instance zne {n a b}:CI E0 (Qt n a b) true 175 [.sl 11 (a.map B7),.fn 177 [.ref (Wx b)]] (fun r=>.bool (r)):=by unfold Qt;exact aC [] Tryz.func175
instance zsn {n d c}:CI E0 (Vy n d c) true 110 [Bh d,.sl 11 (c.map B7)] aI:=⟨fun {r} b=>by
 unfold Vy at b;refine cw Tryz.func110 ?_;repeat' first
  |refine aX b (fun v b=>?_) fun b=>?_
  |refine aF b fun b=>?_
  |refine aD [6] ?_;conv=>whnf
  |refine aL b (fun b=>?_) fun b=>?_
  |refine aU ?_
  |refine aJ b fun x b=>?_
  |refine SlsX.o B7 b (fun l b=>?_)
  |refine B3.I b (fun a b=>?_) rfl rfl fun _=>Or.inr rfl
  |refine aQ b fun a b=>?_
  |exact ⟨_,b,aA []⟩
  |refine aO b (aA []) fun m v b=>?_
  |exact aB b⟩
instance zrr {n b}:CI E0 (Ra n b) false 180 [.sl 2 (b.map Bw)] (fun r=>.sl 1 (r.map aI)):=⟨fun {r} a=>by
 unfold Ra at a;refine cw Tryz.func180 ?_;repeat' first
  |refine aE ?_;conv=>whnf
  |refine aL a (fun a=>?_) fun a=>?_
  |refine aJ a fun x a=>?_
  |refine aR a fun l a=>?_
  |exact ⟨_,a,aA [(7016,16)]⟩
  |refine aO a ?_ fun m v a=>?_
  |exact aH (aM 3 7016 3 1 rfl rfl) (aA [])
  |exact aB a⟩
instance zyy {n b a}:CI E0 (z2c n b a) true 95 [.sl 1 (b.map aI),aI a] aI:=by unfold z2c;exact aC [] Tryz.func95
instance zu8 {n b a}:CI E0 (Dw n b a) true 39 [.sl 1 (b.map aI),aI a] (fun r=>.bool (r)):=by unfold Dw;exact aC [] Tryz.func39
instance zsm {n d c}:CI E0 (Vx n d c) true 179 [Bh d,.sl 1 (List.map (fun q=>AV.sl 1 (List.map aI q)) (c))] aI:=⟨fun {r} b=>by
 unfold Vx at b;refine cw Tryz.func179 ?_;repeat' first
  |refine aE ?_;conv=>whnf
  |refine aL b (fun b=>?_) fun b=>?_
  |refine IdxX.o (fun q=>AV.sl 1 (List.map aI q)) b fun x b=>?_
  |exact ⟨_,b,aA []⟩
  |refine aJ b fun x b=>?_
  |refine aQ b fun a b=>?_
  |refine SlsX.o aI b (fun l b=>?_)
  |refine aO b (aA []) fun m v b=>?_
  |exact aB b⟩
instance zso {n a}:CI E0 (Mb n a) true 182 [Bw a] (fun r=>.bool (r)):=by unfold Mb;exact aC [1] Tryz.func182
instance zlg {n a}:CI E0 (Ui n a) true 190 [.sl 2 (a.map Bw),.fn 182 []] aI:=by unfold Ui;exact aC [] Tryz.func190
instance zi5 {n a}:CI E0 (P2 n a) true 181 [.sl 2 (a.map Bw),.fn 182 []] (fun r=>.bool (r)):=by unfold P2;exact aC [] Tryz.func181
end
noncomputable section
abbrev zdg {n a d b}:=li (Rb n a d b) (fun c=>⟨[(3,.ptr 3 0),(4,.ptr 4 0),(63,.sl 8 (a.fChecks.map idA)),(64,aI (((a.fChecks.map idA).length:Int))),(65,aI c)],[(3,.box 26 (B1 d)),(4,.box 149 (Bs a))]⟩) fun _ _=>Rb.eq_2 ..
abbrev zdh {n a c d}:=jf (E8 n a c d) (fun b=>⟨[(2,aI a),(3,.ptr 3 0),(4,.ptr 4 0),(12,.bool (b))],[(3,.box 26 (B1 d)),(4,.box 149 (Bs c))]⟩) fun _=>E8.eq_1 ..
abbrev zco {n a b}:=li (R5 n a b) (fun c=>⟨[(1,.ptr 1 0),(6,aI c.1),(62,.sl 17 (a.fEdges.map Ac)),(63,aI (((a.fEdges.map Ac).length:Int))),(64,aI c.2)],[(1,.box 26 (B1 a))]⟩) fun _ _=>R5.eq_2 ..
abbrev zcp {n a b}:=li (R6 n a b) (fun c=>⟨[(1,.ptr 1 0),(47,.sl 1 (a.fStates.map Ao)),(48,aI (((a.fStates.map Ao).length:Int))),(49,aI c)],[(1,.box 26 (B1 a))]⟩) fun _ _=>R6.eq_2 ..
abbrev zcq {n a}:=jf (G7 n a) (fun b=>⟨[(1,.ptr 1 0),(29,.bool (b))],[(1,.box 26 (B1 a))]⟩) fun _=>G7.eq_1 ..
abbrev zcr {n a}:=jf (F7 n a) (fun b=>⟨[(1,.ptr 1 0),(10,.bool (b))],[(1,.box 26 (B1 a))]⟩) fun _=>F7.eq_1 ..
abbrev z8b {n}:=jf (I9 n) (fun b=>⟨[(2,.bool (b))],[]⟩) fun _=>I9.eq_1 ..
abbrev z6z {n}:=jf (Gp n) (fun b=>⟨[(58,.bool (b))],[]⟩) fun _=>Gp.eq_1 ..
abbrev z6y {n}:=jf (Kz n) (fun b=>⟨[(70,.bool (b))],[]⟩) fun _=>Kz.eq_1 ..
abbrev z71 {n a}:=jf (L0 n a) (fun b=>⟨[(1,.ptr 1 0),(23,.bool (b))],[(1,.box 381 (W0 a))]⟩) fun _=>L0.eq_1 ..
abbrev z72 {n a}:=jf (L1 n a) (fun b=>⟨[(1,.ptr 1 0),(15,.bool (b))],[(1,.box 381 (W0 a))]⟩) fun _=>L1.eq_1 ..
abbrev za1 {n a}:=jt (Ip n a) (fun b=>⟨[(4,.ptr 4 0),(8,.ptr 8 0)],[(4,.box 381 [aI 0,aI 0,aI 0,aI 0,.str (ByteArray.empty)]),(8,.box 381 [aI a.fKind,aI ((IntKind.wrap .i64 (a.fCount+1))),aI b.1,aI b.2.1,.str (b.2.2)])]⟩) fun _=>Ip.eq_1 ..
abbrev z5k {n a c}:=jf (Kk n a c) (fun b=>⟨[(2,.ptr 2 0),(3,.ptr 3 0),(4,.ptr 4 0),(35,.bool (b))],[(2,.box 381 (W0 c)),(3,.box 144 (Ci a)),(4,.box 144 [aI 0,aI 0,.str (ByteArray.empty)])]⟩) fun _=>Kk.eq_1 ..
abbrev zap {n a d c}:=li (Qo n a d c) (fun b=>⟨[(1,.sl 3 (d.map Af)),(5,.ptr 5 0),(6,.ptr 6 0),(8,.ptr 8 0),(9,aI b.1)],[(5,.box 144 (Ci a)),(6,.box 144 [aI 0,aI 0,.str (ByteArray.empty)]),(8,.box 381 [aI b.2.1,aI b.2.2.1,aI b.2.2.2.1,aI b.2.2.2.2.1,.str (b.2.2.2.2.2)])]⟩) fun _ _=>Qo.eq_2 ..
attribute [instance] zdg zdh zco zcp zcq zcr z8b z6z z6y z71 z72 za1 z5k zap
instance zx5 {n e d c}:CI E0 (Wd n e d c) true 111 [Bh e,Ac d,aI c] aI:=⟨fun {r} b=>by
 unfold Wd at b;refine cw Tryz.func111 ?_;repeat' first
  |refine aX b (fun v b=>?_) fun b=>?_
  |refine aF b fun b=>?_
  |refine aD [1] ?_;conv=>whnf
  |refine aL b (fun b=>?_) fun b=>?_
  |refine aU ?_
  |refine aQ b fun a b=>?_
  |refine aT b D0 (fun x b=>?_)
  |exact ⟨_,b,aA []⟩
  |refine aO b (aA []) fun m v b=>?_
  |refine AndA ?_
  |exact aB b⟩
instance zum {n a}:CI E0 (Ek n a) true 53 [Bh a] aI:=by unfold Ek;exact aC [1,3] Tryz.func53
instance zoi {n a}:CI E0 (Qz n a) true 348 [aI a] (fun r=>.bool (r)):=by unfold Qz;exact aC [1] Tryz.func348
instance zna {n a}:CI E0 (Qp n a) true 358 [E9 a] aI:=by unfold Qp;exact aC [3,5,11,14] Tryz.func358
instance zn8 {n b a}:CI E0 (Qn n b a) true 359 [aI b,Af a] aI:=by unfold Qn;exact aC [] Tryz.func359
instance zjm {n c b a}:CI E0 (U4 n c b a) true 360 [aI c,Af b,Af a] Af:=by unfold U4;exact aC [] Tryz.func360
instance zr6 {n b a}:CI E0 (Vd n b a) true 349 [E9 b,Af a] (fun r=>.tup [E9 r.1,aI r.2]):=by unfold Vd;exact aC [10,12] Tryz.func349
instance zlc {n b a}:CI E0 (Qe n b a) true 350 [E9 b,Af a] (fun r=>.tup [Af r.1,aI r.2]):=by unfold Qe;exact aC [9] Tryz.func350
end
noncomputable section
abbrev z5j {n a c}:=jf (Kj n a c) (fun b=>⟨[(1,aI a),(2,.ptr 2 0),(13,.bool (b))],[(2,.box 271 (Dq c))]⟩) fun _=>Kj.eq_1 ..
abbrev z83 {n d a b}:=li (Q0 n d a b) (fun c=>⟨[(4,.ptr 4 0),(8,.ptr 8 0),(10,.row 7063),(11,.sl 5 (a.map A7)),(12,aI c.1)],[(4,.box 146 (D2 d)),(8,.box 144 [aI 0,aI 0,.str (ByteArray.empty)]),(7063,.row 144 3 (c.2.map Af))]⟩) fun _ _=>Q0.eq_2 ..
abbrev z3a {n}:=jt (Hv n) (fun b=>⟨[(9,.bool (b))],[]⟩) fun _=>Hv.eq_1 ..
abbrev z3b {n a}:=jt (Gi n a) (fun b=>⟨[(3,aI a),(4,.bool (b))],[]⟩) fun _=>Gi.eq_1 ..
abbrev z38 {n a e b c}:=jf (Fn n a e b c) (fun d=>⟨[(0,aI e),(1,.sl 1 (a.map aI)),(5,aI b),(38,.bool (d))],[]⟩) fun _=>Fn.eq_1 ..
abbrev z37 {n a d b}:=li (F5 n a d b) (fun c=>⟨[(0,aI d),(1,.sl 1 (a.map aI)),(5,aI c)],[]⟩) fun _ _=>F5.eq_2 ..
abbrev z6s {n}:=jf (Kw n) (fun b=>⟨[(4,.ptr 4 0)],[(4,.box 144 [aI b.1,aI b.2.1,.str (b.2.2)])]⟩) fun _=>Kw.eq_1 ..
abbrev z6r {n}:=jf (Kv n) (fun b=>⟨[(4,.ptr 4 0)],[(4,.box 144 [aI b.1,aI b.2.1,.str (b.2.2)])]⟩) fun _=>Kv.eq_1 ..
abbrev z8a {n b a e f g d}:=li (Q1 n b a e f g d) (fun c=>⟨[(2,aI e),(4,.ptr 4 0),(5,.ptr 5 0),(7,.ptr 7 0),(8,.ptr 8 0),(10,.row 7053),(11,.row 7058),(12,aI c.1)],[(4,.box 146 (D2 g)),(5,.box 271 (Dq f)),(7,.box 37 (Bx a)),(8,.box 144 [aI 0,aI 0,.str (ByteArray.empty)]),(7053,.row 144 3 (c.2.1.map Af)),(7058,.row 3 1 (c.2.2.map aI))]⟩) fun _ _=>Q1.eq_2 ..
abbrev z6t {n}:=jf (Kx n) (fun b=>⟨[(8,.bool (b))],[]⟩) fun _=>Kx.eq_1 ..
attribute [instance] z5j z83 z3a z3b z38 z37 z6s z6r z8a z6t
instance zsf {n c b a}:CI E0 (Rc n c b a) true 344 [aI c,.sl 3 (b.map Af),Af a] (fun r=>.tup [Af r.1,aI r.2]):=by unfold Rc;exact aC [] Tryz.func344
instance zlb {n c b}:CI E0 (Lq n c b) false 343 [Dp c,aI b] (fun r=>.sl 5 (r.map A7)):=⟨fun {r} a=>by
 unfold Lq at a;refine cw Tryz.func343 ?_;repeat' first
  |refine aX a (fun v a=>?_) fun a=>?_
  |refine aF a fun a=>?_
  |refine aD [1] ?_;conv=>whnf
  |refine aL a (fun a=>?_) fun a=>?_
  |refine IdxX.o (fun q=>AV.sl 5 (List.map A7 q)) a fun x a=>?_
  |exact ⟨_,a,aA []⟩
  |exact aB a⟩
instance zoe {n d c b a}:CI E0 (Zm n d c b a) false 345 [Dp d,aI c,aI b,A7 a] (fun r=>.tup [A7 r.1,.bool (r.2)]):=by unfold Zm;exact aC [] Tryz.func345
instance zoc {n f e d c}:CI E0 (Qy n f e d c) true 336 [Ay f,Dp e,aI d,A7 c] (fun r=>.tup [Af r.1,aI r.2]):=⟨fun {r} b=>by
 unfold Qy at b;refine cw Tryz.func336 ?_;repeat' first
  |refine aE ?_;conv=>whnf
  |refine aL b (fun b=>?_) fun b=>?_
  |refine aQ b fun a b=>?_
  |refine B3.I b (fun a b=>?_) rfl rfl fun _=>Or.inr rfl
  |refine aJ b fun x b=>?_
  |refine aR b fun l b=>?_
  |exact ⟨_,b,aA [(7063,63)]⟩
  |refine aO b ?_ fun m v b=>?_
  |exact aH (aM 10 7063 144 3 rfl rfl) (aA [])
  |refine AndA ?_
  |exact aB b⟩
instance zir {n a}:CI E0 (U0 n a) true 346 [aI a] aI:=by unfold U0;exact aC [2,3,4,7,8] Tryz.func346
instance ziq {n b a}:CI E0 (Yj n b a) true 337 [aI b,.sl 1 (a.map aI)] aI:=by unfold Yj;exact aC [5] Tryz.func337
instance zog {n a}:CI E0 (Du n a) true 98 [.bool (a)] Af:=by unfold Du;exact aC [] Tryz.func98
instance zn3 {n b a}:CI E0 (Lv n b a) true 338 [aI b,.sl 3 (a.map Af)] Af:=by unfold Lv;exact aC [13,15] Tryz.func338
def zcv (r:A9×Int):AV:=.tup [.agg [aI (r.1.fKind),aI (r.1.fNum),.str (r.1.fText)],aI (r.2)]
theorem z7m {n f e d c r}(b:H4 n f e d c=some r):Con E0 true 322 [Ay f,Dp e,aI d,A7 c] (.tup [Af r.1,aI r.2]):=by
 induction n generalizing f e d c r
 case zero=>cases b
 case succ n g =>
 unfold H4 at b;refine cw Tryz.func322 ?_;repeat' first
  |refine aE ?_;conv=>whnf
  |refine aL b (fun b=>?_) fun b=>?_
  |refine aQ b fun a b=>?_
  |refine B3.I b (fun a b=>?_) rfl rfl fun _=>Or.inr rfl
  |refine aT b D0 (fun x b=>?_)
  |refine Ab.o b zcv (fun a h=>g h) (fun a b=>?_)
  |refine aR b fun l b=>?_
  |exact ⟨_,b,aA [(7053,53),(7058,58)]⟩
  |refine aO b ?_ fun m v b=>?_
  |exact aH (aM 10 7053 144 3 rfl rfl) (aH (aM 11 7058 3 1 rfl rfl) (aA []))
  |refine AndA ?_
  |exact aB b
instance zof {n d c b a}:CI E0 (H4 n d c b a) true 322 [Ay d,Dp c,aI b,A7 a] (fun r=>.tup [Af r.1,aI r.2]):=⟨z7m⟩
instance zoh {n d c b a}:CI E0 (Zn n d c b a) true 309 [Ay d,Dp c,aI b,A7 a] (fun r=>.tup [Af r.1,aI r.2]):=by unfold Zn;exact aC [] Tryz.func309
end
noncomputable section
abbrev z47 {n a f b c d}:=jf (K8 n a f b c d) (fun e=>⟨[(2,.ptr 2 0),(3,.ptr 3 0),(5,aI b),(18,.bool (e))],[(2,.box 64 (Hd f)),(3,.box 64 (Hd a))]⟩) fun _=>K8.eq_1 ..
abbrev z44 {n a d b}:=li (Hz n a d b) (fun c=>⟨[(2,.ptr 2 0),(3,.ptr 3 0),(5,aI c)],[(2,.box 64 (Hd d)),(3,.box 64 (Hd a))]⟩) fun _ _=>Hz.eq_2 ..
abbrev z42 {n a g b c d e}:=jf (Hy n a g b c d e) (fun f=>⟨[(2,.ptr 2 0),(3,.ptr 3 0),(6,aI b),(7,.ptr 7 0),(8,.ptr 8 0),(71,.bool (f))],[(2,.box 90 (C2 g)),(3,.box 90 (C2 a)),(7,.box 182 (zdf d)),(8,.box 182 (zdf e))]⟩) fun _=>Hy.eq_1 ..
abbrev z43 {n a f b c d}:=jf (K7 n a f b c d) (fun e=>⟨[(2,.ptr 2 0),(3,.ptr 3 0),(6,aI b),(40,.bool (e))],[(2,.box 90 (C2 f)),(3,.box 90 (C2 a))]⟩) fun _=>K7.eq_1 ..
abbrev z41 {n a d b}:=li (Hx n a d b) (fun c=>⟨[(2,.ptr 2 0),(3,.ptr 3 0),(6,aI c)],[(2,.box 90 (C2 d)),(3,.box 90 (C2 a))]⟩) fun _ _=>Hx.eq_2 ..
abbrev z9i {n a d b}:=jf (Lh n a d b) (fun c=>⟨[(0,.sl 3 (d.map A5)),(3,.ptr 3 0),(5,aI b),(34,.bool (c))],[(3,.box 90 (C2 a))]⟩) fun _=>Lh.eq_1 ..
abbrev z9h {n a f b c d}:=jf (Lg n a f b c d) (fun e=>⟨[(0,.sl 3 (f.map A5)),(3,.ptr 3 0),(5,aI b),(19,.bool (e))],[(3,.box 90 (C2 a))]⟩) fun _=>Lg.eq_1 ..
abbrev z9g {n a d b}:=li (Ii n a d b) (fun c=>⟨[(0,.sl 3 (d.map A5)),(3,.ptr 3 0),(5,aI c)],[(3,.box 90 (C2 a))]⟩) fun _ _=>Ii.eq_2 ..
abbrev zct {n}:=jf (J3 n) (fun b=>⟨[(2,.bool (b))],[]⟩) fun _=>J3.eq_1 ..
abbrev zcs {n}:=jf (H5 n) (fun b=>⟨[(4,.bool (b))],[]⟩) fun _=>H5.eq_1 ..
attribute [instance] z47 z44 z42 z43 z41 z9i z9h z9g zct zcs
instance zn4 {n d c b a}:CI E0 (G1 n d c b a) true 268 [Ay d,Dp c,aI b,A7 a] (fun r=>.bool (r)):=by unfold G1;exact aC [2] Tryz.func268
instance znb {n b a}:CI E0 (Qq n b a) true 37 [Bm b,Bm a] aI:=by unfold Qq;exact aC [] Tryz.func37
instance zmy {n b a}:CI E0 (Up n b a) true 79 [Az b,Az a] aI:=by unfold Up;exact aC [] Tryz.func79
instance zjl {n b a}:CI E0 (Gt n b a) true 24 [Ax b,Ax a] aI:=by unfold Gt;exact aC [2] Tryz.func24
instance zjk {n b a}:CI E0 (Py n b a) true 41 [A5 b,A5 a] aI:=by unfold Py;exact aC [9,12] Tryz.func41
instance zqx {n d c}:CI E0 (M3 n d c) false 172 [.sl 3 (d.map A5),A5 c] (fun r=>.sl 3 (r.map A5)):=⟨fun {r} b=>by
 unfold M3 at b;refine cw Tryz.func172 ?_;repeat' first
  |refine aX b (fun v b=>?_) fun b=>?_
  |refine aF b fun b=>?_
  |refine aD [2,4] ?_;conv=>whnf
  |refine aL b (fun b=>?_) fun b=>?_
  |refine SlsX.o A5 b (fun l b=>?_)
  |refine AppX.oA0 b fun l b=>?_
  |refine aR b fun l b=>?_
  |refine aJ b fun x b=>?_
  |refine aQ b fun a b=>?_
  |exact ⟨_,b,aA []⟩
  |refine aO b (aA []) fun m v b=>?_
  |refine AndA ?_
  |exact aB b⟩
instance zup {n a}:CI E0 (Ry n a) true 351 [aI a] (fun r=>.bool (r)):=by unfold Ry;exact aC [1] Tryz.func351
instance zuo {n b a}:CI E0 (Rx n b a) true 361 [aI b,Af a] (fun r=>.bool (r)):=by unfold Rx;exact aC [1] Tryz.func361
instance zun {n b a}:CI E0 (Mi n b a) true 352 [aI b,Af a] aI:=by unfold Mi;exact aC [] Tryz.func352
instance zsr {n b a}:CI E0 (Zy n b a) true 356 [aI b,Af a] Af:=by unfold Zy;exact aC [] Tryz.func356
instance znp {n}:CI E0 (Zk n) true 364 [] Af:=by unfold Zk;exact aC [] Tryz.func364
def zbx (b:A9)(a:A9):List (Nat×Ent):=[(100000,.box 144 (Ci b)),(100001,.box 144 (Ci a))]
def Z8 (r:A9×A9×A9):List (Nat×Ent):=[(2,.box 144 (Ci r.1)),(100000,.box 144 (Ci r.2.1)),(100001,.box 144 (Ci r.2.2))]
def z0y (r:A9×A9×A9):AV:=.agg [aI (r.1.fKind),aI (r.1.fNum),.str (r.1.fText)]
def zbm (r:A9×A9×A9):AS:=⟨[(2,.ptr 2 0),(0,.ptr 100000 0),(1,.ptr 100001 0)],Z8 r⟩
end
noncomputable section
abbrev zbe {n c a d}:=li (Qx n c a d) (fun b=>⟨[(2,.fn 354 [.ref [aI c]]),(3,.ptr 3 0),(6,.ptr 6 0),(9,.sl 3 (a.map Af)),(10,aI (((a.map Af).length:Int))),(11,aI b.1)],[(3,.box 381 [aI b.2.1,aI b.2.2.1,aI b.2.2.2.1,aI b.2.2.2.2.1,.str (b.2.2.2.2.2)]),(6,.box 381 [aI 0,aI 0,aI 0,aI 0,.str (ByteArray.empty)])]⟩) fun _ _=>Qx.eq_2 ..
abbrev zcu {n a}:=jf (M1 n a) (fun b=>⟨[(1,.ptr 1 0),(10,.bool (b))],[(1,.box 381 (W0 a))]⟩) fun _=>M1.eq_1 ..
abbrev zbf {n a c}:=jf (Lz n a c) (fun b=>⟨[(2,.ptr 2 0),(3,.ptr 3 0),(4,.ptr 4 0),(29,.bool (b))],[(2,.box 381 (W0 c)),(3,.box 144 (Ci a)),(4,.box 144 [aI 0,aI 0,.str (ByteArray.empty)])]⟩) fun _=>Lz.eq_1 ..
abbrev zf9 {n d a e b}:=li (Rz n d a e b) (fun c=>⟨[(1,.sl 3 (a.map Af)),(3,.ptr 3 0),(5,.ptr 5 0),(6,.ptr 6 0),(22,.sl 3 (a.map Af)),(23,aI (((a.map Af).length:Int))),(24,aI c)],[(3,.box 3 [aI e]),(5,.box 144 (Ci d)),(6,.box 144 [aI 0,aI 0,.str (ByteArray.empty)])]⟩) fun _ _=>Rz.eq_2 ..
attribute [instance] zbe zcu zbf zf9
theorem z8x {n b a r}(c:Zj n b a=some r):ConG E0.P none (CalF E0.P 365 0) [.ptr 100000 0,.ptr 100001 0] [] (zbx b a) (z0y r) (Z8 r):=by
 unfold Zj at c;refine aN (E:=(E0p 2)) (caps:=[]) _ bC rfl rfl rfl rfl rfl ?_;repeat' first
  |refine aE ?_;conv=>whnf
  |exact GX.A (res:=z0y) (meF:=Z8) c zbm
def zbw (b:A9)(a:A9):List (Nat×Ent):=[(100000,.box 144 (Ci b)),(100001,.box 144 (Ci a))]
def Z7 (r:A9×A9×A9):List (Nat×Ent):=[(2,.box 144 (Ci r.1)),(100000,.box 144 (Ci r.2.1)),(100001,.box 144 (Ci r.2.2))]
def z0x (r:A9×A9×A9):AV:=.agg [aI (r.1.fKind),aI (r.1.fNum),.str (r.1.fText)]
def zbl (r:A9×A9×A9):AS:=⟨[(2,.ptr 2 0),(0,.ptr 100000 0),(1,.ptr 100001 0)],Z7 r⟩
theorem z8w {n b a r}(c:Zi n b a=some r):ConG E0.P none (CalF E0.P 366 0) [.ptr 100000 0,.ptr 100001 0] [] (zbw b a) (z0x r) (Z7 r):=by
 unfold Zi at c;refine aN (E:=(E0p 2)) (caps:=[]) _ bD rfl rfl rfl rfl rfl ?_;repeat' first
  |refine aE ?_;conv=>whnf
  |exact GX.A (res:=z0x) (meF:=Z7) c zbl
def zbv (b:A9)(a:A9):List (Nat×Ent):=[(100000,.box 144 (Ci b)),(100001,.box 144 (Ci a))]
def Z6 (r:A9×A9×A9):List (Nat×Ent):=[(2,.box 144 (Ci r.1)),(100000,.box 144 (Ci r.2.1)),(100001,.box 144 (Ci r.2.2))]
def z0w (r:A9×A9×A9):AV:=.agg [aI (r.1.fKind),aI (r.1.fNum),.str (r.1.fText)]
def zbk (r:A9×A9×A9):AS:=⟨[(2,.ptr 2 0),(0,.ptr 100000 0),(1,.ptr 100001 0)],Z6 r⟩
theorem z8v {n b a r}(c:Zh n b a=some r):ConG E0.P none (CalF E0.P 367 0) [.ptr 100000 0,.ptr 100001 0] [] (zbv b a) (z0w r) (Z6 r):=by
 unfold Zh at c;refine aN (E:=(E0p 2)) (caps:=[]) _ bE rfl rfl rfl rfl rfl ?_;repeat' first
  |refine aE ?_;conv=>whnf
  |exact GX.A (res:=z0w) (meF:=Z6) c zbk
def zbu (a:A9):List (Nat×Ent):=[(100000,.box 144 (Ci a))]
def Z5 (r:A9×A9):List (Nat×Ent):=[(1,.box 144 (Ci r.1)),(100000,.box 144 (Ci r.2))]
def z0v (r:A9×A9):AV:=.agg [aI (r.1.fKind),aI (r.1.fNum),.str (r.1.fText)]
def zbj (r:A9×A9):AS:=⟨[(1,.ptr 1 0),(0,.ptr 100000 0)],Z5 r⟩
theorem z8u {n a r}(b:Zg n a=some r):ConG E0.P none (CalF E0.P 368 0) [.ptr 100000 0] [] (zbu a) (z0v r) (Z5 r):=by
 unfold Zg at b;refine aN (E:=(E0p 1)) (caps:=[]) _ bF rfl rfl rfl rfl rfl ?_;repeat' first
  |refine aE ?_;conv=>whnf
  |exact GX.A (res:=z0v) (meF:=Z5) b zbj
def zbt (a:A9):List (Nat×Ent):=[(100000,.box 144 (Ci a))]
def Z4 (r:A9×A9):List (Nat×Ent):=[(1,.box 144 (Ci r.1)),(100000,.box 144 (Ci r.2))]
def z0u (r:A9×A9):AV:=.agg [aI (r.1.fKind),aI (r.1.fNum),.str (r.1.fText)]
def zbi (r:A9×A9):AS:=⟨[(1,.ptr 1 0),(0,.ptr 100000 0)],Z4 r⟩
theorem z8t {n a r}(b:Zf n a=some r):ConG E0.P none (CalF E0.P 369 0) [.ptr 100000 0] [] (zbt a) (z0u r) (Z4 r):=by
 unfold Zf at b;refine aN (E:=(E0p 1)) (caps:=[]) _ bG rfl rfl rfl rfl rfl ?_;repeat' first
  |refine aE ?_;conv=>whnf
  |exact GX.A (res:=z0u) (meF:=Z4) b zbi
instance zrt {n e d c}:CI E0 (Vq n e d c) true 362 [aI e,Af d,Af c] Af:=⟨fun {r} b=>by
 unfold Vq at b;refine cw Tryz.func362 ?_;repeat' first
  |refine aE ?_;conv=>whnf
  |refine NatX.oS b rfl (fun b=>?_) (fun b=>?_)
  |(cases b;done)
  |refine aQ b fun a b=>?_
  |refine aW (Bc 15 b) [(100000,4),(100001,5)] [(2,16000000),(100000,4),(100001,5)] _ _ Z8 z0y [] (fun a h=>aK (z8x h)) (Av bC rfl rfl) rfl rfl rfl ⟨⟨rfl,rfl⟩,⟨⟨rfl,rfl⟩,trivial⟩⟩ (fun a=>⟨rfl,rfl,rfl,rfl,rfl,rfl,rfl,rfl⟩) (fun a b=>?_)
  |refine aW (Bc 15 b) [(100000,4),(100001,5)] [(2,16000000),(100000,4),(100001,5)] _ _ Z7 z0x [] (fun a h=>aK (z8w h)) (Av bD rfl rfl) rfl rfl rfl ⟨⟨rfl,rfl⟩,⟨⟨rfl,rfl⟩,trivial⟩⟩ (fun a=>⟨rfl,rfl,rfl,rfl,rfl,rfl,rfl,rfl⟩) (fun a b=>?_)
  |refine aW (Bc 15 b) [(100000,4),(100001,5)] [(2,16000000),(100000,4),(100001,5)] _ _ Z6 z0w [] (fun a h=>aK (z8v h)) (Av bE rfl rfl) rfl rfl rfl ⟨⟨rfl,rfl⟩,⟨⟨rfl,rfl⟩,trivial⟩⟩ (fun a=>⟨rfl,rfl,rfl,rfl,rfl,rfl,rfl,rfl⟩) (fun a b=>?_)
  |refine aW (Bc 15 b) [(100000,4)] [(1,16000000),(100000,4)] _ _ Z5 z0v [] (fun a h=>aK (z8u h)) (Av bF rfl rfl) rfl rfl rfl ⟨⟨rfl,rfl⟩,trivial⟩ (fun a=>⟨rfl,rfl,rfl,rfl,rfl,rfl,rfl,rfl⟩) (fun a b=>?_)
  |refine aW (Bc 15 b) [(100000,5)] [(1,16000000),(100000,5)] _ _ Z4 z0u [] (fun a h=>aK (z8t h)) (Av bG rfl rfl) rfl rfl rfl ⟨⟨rfl,rfl⟩,trivial⟩ (fun a=>⟨rfl,rfl,rfl,rfl,rfl,rfl,rfl,rfl⟩) (fun a b=>?_)
  |exact aB b⟩
instance zss {n b a}:CI E0 (Zz n b a) true 355 [E9 b,E9 a] E9:=by unfold Zz;exact aC [] Tryz.func355
instance zx6 {n c b a}:CI E0 (z1g n c b a) true 354 [E9 c,Af b,.ref [aI a]] E9:=by unfold z1g;exact aC [] Tryz.func354
instance zst {n c a b}:CI E0 (Vz n c a b) true 353 [E9 c,.sl 3 (a.map Af),.fn 354 [.ref [aI b]]] E9:=by unfold Vz;exact aC [] Tryz.func353
instance zuq {n a}:CI E0 (W9 n a) true 363 [E9 a] aI:=by unfold W9;exact aC [3,7,9,11,6] Tryz.func363
instance zsu {n b a}:CI E0 (Rl n b a) true 357 [E9 b,Af a] (fun r=>.tup [Af r.1,aI r.2]):=by unfold Rl;exact aC [9] Tryz.func357
instance zz9 {n e d c}:CI E0 (Sd n e d c) true 347 [aI e,.sl 3 (d.map Af),Af c] (fun r=>.tup [Af r.1,aI r.2]):=⟨fun {r} b=>by
 unfold Sd at b;refine cw Tryz.func347 ?_;repeat' first
  |refine aE ?_;conv=>whnf
  |refine aL b (fun b=>?_) fun b=>?_
  |refine aQ b fun a b=>?_
  |refine B3.I b (fun a b=>?_) rfl rfl fun _=>Or.inr rfl
  |refine aJ b fun x b=>?_
  |exact ⟨_,b,aA []⟩
  |refine aO b (aA []) fun m v b=>?_
  |exact aB b⟩
instance y5l {n a}:CI E0 (X0 n a) true 207 [aI a] (fun r=>.bool (r)):=by unfold X0;exact aC [] Tryz.func207
instance y2g {n b a}:CI E0 (D1 n b a) true 133 [aI b,aI a] aI:=by unfold D1;exact aC [] Tryz.func133
end
noncomputable section
abbrev zur {n a b}:=li (Sm n a b) (fun c=>⟨[(3,aI 0),(6,.sl 1 (a.map aI)),(7,aI (((a.map aI).length:Int))),(8,aI c)],[]⟩) fun _ _=>Sm.eq_2 ..
abbrev z8d {n d a b}:=li (Q2 n d a b) (fun c=>⟨[(0,.sl 4 (a.map Az)),(1,.sl 4 (d.map Az)),(2,.fn 130 []),(11,.sl 4 (a.map Az)),(12,aI (((a.map Az).length:Int))),(13,aI c)],[]⟩) fun _ _=>Q2.eq_2 ..
abbrev z3c {n d a b}:=li (Og n d a b) (fun c=>⟨[(0,.sl 2 (a.map Ah)),(1,.sl 2 (d.map Ah)),(2,.fn 204 []),(11,.sl 2 (a.map Ah)),(12,aI (((a.map Ah).length:Int))),(13,aI c)],[]⟩) fun _ _=>Og.eq_2 ..
abbrev zgs {n}:=jf (Fa n) (fun b=>⟨[(2,.bool (b))],[]⟩) fun _=>Fa.eq_1 ..
abbrev z5l {n b a c}:=li (Oz n b a c) (fun d=>⟨[(0,.sl 4 (a.map Az)),(1,.fn 227 [.ref (Bx b)]),(7,aI (((a.map Az).length:Int))),(8,aI d)],[]⟩) fun _ _=>Oz.eq_2 ..
abbrev z5m {n b a c}:=li (P0 n b a c) (fun d=>⟨[(0,.sl 3 (a.map A5)),(1,.fn 167 [.ref (Bx b)]),(7,aI (((a.map A5).length:Int))),(8,aI d)],[]⟩) fun _ _=>P0.eq_2 ..
attribute [instance] zur z8d z3c zgs z5l z5m
instance y91 {n a}:CI E0 (Eo n a) true 131 [.sl 1 (a.map aI)] aI:=by unfold Eo;exact aC [] Tryz.func131
instance y3c {n b a}:CI E0 (Wt n b a) true 132 [Bm b,Bm a] aI:=by unfold Wt;exact aC [] Tryz.func132
instance zuh {n b a}:CI E0 (W8 n b a) true 130 [Az b,Az a] aI:=by unfold W8;exact aC [] Tryz.func130
instance zok {n b a}:CI E0 (V1 n b a) true 129 [.sl 4 (b.map Az),.sl 4 (a.map Az),.fn 130 []] aI:=by unfold V1;exact aC [] Tryz.func129
instance zyj {n b a}:CI E0 (S6 n b a) true 64 [Ax b,Ax a] aI:=by unfold S6;exact aC [] Tryz.func64
instance zye {n b a}:CI E0 (Wh n b a) true 204 [Ah b,Ah a] aI:=by unfold Wh;exact aC [] Tryz.func204
instance zis {n b a}:CI E0 (U1 n b a) true 203 [.sl 2 (b.map Ah),.sl 2 (a.map Ah),.fn 204 []] aI:=by unfold U1;exact aC [] Tryz.func203
instance y2a {n b a}:CI E0 (Wm n b a) true 125 [A5 b,A5 a] aI:=by unfold Wm;exact aC [] Tryz.func125
instance y37 {n a}:CI E0 (Wq n a) true 166 [A7 a] (fun r=>.bool (r)):=by unfold Wq;exact aC [1] Tryz.func166
instance y8m {n a}:CI E0 (Jg n a) true 122 [A7 a] Bm:=by unfold Jg;exact aC [] Tryz.func122
instance y6e {n b a}:CI E0 (N9 n b a) true 165 [Bm b,Bm a] aI:=by unfold N9;exact aC [] Tryz.func165
instance y38 {n b a}:CI E0 (N2 n b a) true 227 [Az b,.ref (Bx a)] (fun r=>.bool (r)):=by unfold N2;exact aC [] Tryz.func227
instance zle {n a b}:CI E0 (Ug n a b) true 273 [.sl 4 (a.map Az),.fn 227 [.ref (Bx b)]] aI:=by unfold Ug;exact aC [] Tryz.func273
instance zi3 {n a b}:CI E0 (Tu n a b) true 226 [.sl 4 (a.map Az),.fn 227 [.ref (Bx b)]] (fun r=>.bool (r)):=by unfold Tu;exact aC [] Tryz.func226
instance y6f {n d c}:CI E0 (zc9 n d c) true 168 [A5 d,A7 c] (fun r=>.bool (r)):=⟨fun {r} b=>by
 unfold zc9 at b;refine cw Tryz.func168 ?_;repeat' first
  |refine aE ?_;conv=>whnf
  |refine B3.I b (fun a b=>?_) rfl rfl fun _=>Or.inr rfl
  |exact aB b⟩
instance y3a {n b a}:CI E0 (N3 n b a) true 167 [A5 b,.ref (Bx a)] (fun r=>.bool (r)):=by unfold N3;exact aC [] Tryz.func167
instance zlf {n a b}:CI E0 (Uh n a b) true 147 [.sl 3 (a.map A5),.fn 167 [.ref (Bx b)]] aI:=by unfold Uh;exact aC [] Tryz.func147
instance zi4 {n a b}:CI E0 (Tv n a b) true 76 [.sl 3 (a.map A5),.fn 167 [.ref (Bx b)]] (fun r=>.bool (r)):=by unfold Tv;exact aC [] Tryz.func76
instance y6g {n d c}:CI E0 (Na n d c) true 97 [.sl 3 (d.map A5),A7 c] aI:=⟨fun {r} b=>by
 unfold Na at b;refine cw Tryz.func97 ?_;repeat' first
  |refine aE ?_;conv=>whnf
  |refine aL b (fun b=>?_) fun b=>?_
  |refine aQ b fun a b=>?_
  |refine B3.I b (fun a b=>?_) rfl rfl fun _=>Or.inr rfl
  |exact aB b⟩
end
noncomputable section
abbrev z8e {n d c}:=li (Lc n d c) (fun b=>⟨[(0,.row 200000),(1,.fn 202 [.ref [.fn 125 []]]),(5,aI b.1),(6,.der (.sub 3 (d)) 200000),(7,aI b.2.1)],[(200000,.row 90 3 (b.2.2.map A5))]⟩) fun _ _=>Lc.eq_2 ..
abbrev z8f {n a b}:=li (Q3 n a b) (fun c=>⟨[(0,.row 200000),(1,.fn 202 [.ref [.fn 125 []]]),(5,aI c)],[(200000,.row 90 3 (a.map A5))]⟩) fun _ _=>Q3.eq_2 ..
abbrev zep {n}:=jf (Rp n) (fun b=>⟨[(2,.bool (b))],[]⟩) fun _=>Rp.eq_1 ..
abbrev zdp {n}:=jf (G8 n) (fun b=>⟨[(2,.bool (b))],[]⟩) fun _=>G8.eq_1 ..
abbrev zfs {n a b c}:=jf (S2 n a b c) (fun d=>⟨[(0,.str (a)),(18,aI (((a.size:Nat):Int))),(19,aI b),(33,.bool (d))],[]⟩) fun _=>S2.eq_1 ..
abbrev zfr {n a b}:=li (S1 n a b) (fun c=>⟨[(0,.str (a)),(18,aI (((a.size:Nat):Int))),(19,aI c)],[]⟩) fun _ _=>S1.eq_2 ..
abbrev zft {n a}:=jf (Mj n a) (fun b=>⟨[(0,.str (a)),(16,.bool (b))],[]⟩) fun _=>Mj.eq_1 ..
abbrev zat {n}:=jf (Qu n) (fun b=>⟨[(2,.bool (b))],[]⟩) fun _=>Qu.eq_1 ..
abbrev zer {n a b c d}:=jf (Rr n a b c d) (fun e=>⟨[(3,.row 14),(5,.ptr 5 0),(16,.sl 2 (a.fFields.map El)),(17,aI (((a.fFields.map El).length:Int))),(18,aI b.1),(32,.bool (e))],[(5,.box 164 (zuu d)),(14,.mp (List.map (encM AV.str AV.bool) (b.2)))]⟩) fun _=>Rr.eq_1 ..
abbrev zeq {n a b}:=li (Rq n a b) (fun c=>⟨[(3,.row 14),(16,.sl 2 (a.fFields.map El)),(17,aI (((a.fFields.map El).length:Int))),(18,aI c.1)],[(14,.mp (List.map (encM AV.str AV.bool) (c.2)))]⟩) fun _ _=>Rq.eq_2 ..
abbrev zca {n a b}:=li (Zo n a b) (fun c=>⟨[(3,.row 10),(11,.sl 2 (a.map Bj)),(12,aI (((a.map Bj).length:Int))),(13,aI c.1)],[(10,.mp (List.map (encM AV.str AV.bool) (c.2)))]⟩) fun _ _=>Zo.eq_2 ..
abbrev zew {n}:=jf (Rv n) (fun b=>⟨[(24,.bool (b))],[]⟩) fun _=>Rv.eq_1 ..
abbrev zai {n d a b}:=li (Un n d a b) (fun c=>⟨[(1,aI d),(5,.row 7023),(9,.sl 17 (a.fEdges.map Ac)),(10,aI (((a.fEdges.map Ac).length:Int))),(11,aI c.1)],[(7023,.row 3 1 (c.2.map aI))]⟩) fun _ _=>Un.eq_2 ..
abbrev z4u {n d a b}:=li (Ts n d a b) (fun c=>⟨[(1,.ref (B1 d)),(4,.row 7027),(10,.sl 1 (a.map aI)),(11,aI (((a.map aI).length:Int))),(12,aI c.1)],[(7027,.row 3 1 (c.2.map aI))]⟩) fun _ _=>Ts.eq_2 ..
attribute [instance] z8e z8f zep zdp zfs zfr zft zat zer zeq zca zew zai z4u
set_option maxHeartbeats 400000 in
theorem zrw (l:List (Cel 3))(S:Nat->Prop)(v:Value)(w:World)(h:Sl w S 3 encC v l)(d:l.length<=1000000000) :
  Calls Tryz.prog 265 #[v] w (Hn 90 3 encC l w):=by
 have eok:EOk Tryz.prog 49 90 3 56 (encC (n:=3)):=eokC (sz:=3) (D7 49 _ rfl) rfl (D7 90 _ rfl) (by omega) rfl;obtain ⟨A,c,rfl,f,_⟩:=h.form;have a:=fun (W:World)=>Lib.run_eql_slice_nil W 49 90 A l.length c 0 0 Tryz.underlying49
 have H:=hide h;cases A with
 |none =>
  have g:l=[]:=h.none_nil;subst g;clear h H d f;simp only [length_nil,Option.isNone_none] at a ⊢
  go_enter aZ,bB
  go_wp2
  go_ret
  exact ⟨none,0,rfl,Own.nil_,by go_grown⟩
 |some ad =>
  clear h
  go_enter aZ,bB
  go_wp2_with (at_builtin;refine H8 rfl _ _ rfl eok rfl Own.made_ rfl (H.out.alloc _) (by simp;omega) (by omega) (by simp) ?_;intro A' i w1 b e _)
  go_ret
  exact ⟨A',i,rfl,b,(Own.made_ (sz:=3) (enc:=encC (n:=3))).grown ((Below.refl _ _).alloc (Nat.le_refl _) _) (Nat.le_refl _) (by simp) e⟩
theorem znq {n a r}(b:C4 n a=some r):ConT E0 265 [.sl 3 (List.map A5 a)] 90 3 (List.map A5 r) (.row 0):=Je rfl (Av aZ rfl rfl) zrw b
instance zub {n b a}:CI E0 (Rt n b a) true 202 [A5 b,A5 a,.ref [.fn 125 []]] (fun r=>.bool (r)):=by unfold Rt;exact aC [] Tryz.func202
def zcw (a:(List A1)):List (Nat×Ent):=[(200000,.row 90 3 (a.map A5))]
def Uv (r:(List A1)):List (Nat×Ent):=[(260000,.row 90 3 (r.map A5))]
def Zl (r:(List A1)):AV:=.row 260000
def z2q (r:(List A1)):AS:=⟨[(4,.row 260000)],Uv r⟩
theorem zae {n c r}(b:V2 n c=some r):ConG E0.P none (CalF E0.P 201 0) [.row 200000,.fn 202 [.ref [.fn 125 []]]] [] (zcw c) (Zl r) (Uv r):=by
 unfold V2 at b;refine aN (E:=(E0p 2)) (caps:=[]) _ bH rfl rfl rfl rfl rfl ?_;repeat' first
  |refine aE ?_;conv=>whnf
  |refine aL b (fun b=>?_) fun b=>?_
  |exact GX.A (res:=Zl) (meF:=Uv) b z2q (h1:=aA [(260000,200000)])
  |refine NatX.o b (fun m b=>?_)
  |refine EltX.o A5 b (fun x b=>?_)
  |refine aQ b fun a b=>?_
  |refine OpX.sub b rfl rfl rfl rfl rfl rfl rfl rfl rfl rfl (fun m b=>?_)
  |refine OpX.clr A5 b rfl rfl rfl rfl rfl rfl rfl rfl rfl rfl rfl (by first|exact aS _|(repeat' first|exact SubL.nil|refine SubL.cons ?_ ?_|exact Sub.refl _|exact Sub.nil _|refine Sub.agg ?_)) (fun l b=>?_)
  |refine SlsX.o A5 b (fun l b=>?_)
  |exact GX.A (res:=Zl) (meF:=Uv) b z2q (h1:=aA [(260000,64)])
  |refine OpX.lns b rfl rfl rfl rfl rfl rfl rfl (fun b=>?_)
  |refine OpX.ixs b rfl rfl rfl rfl rfl rfl rfl rfl rfl rfl (fun m b=>?_)
  |refine SetX.o A5 b (fun x=>rfl) (fun x=>(by first|exact aS _|(repeat' first|exact SubL.nil|refine SubL.cons ?_ ?_|exact Sub.refl _|exact Sub.nil _|refine Sub.agg ?_))) (fun l b=>?_)
  |exact ⟨_,b,aA []⟩
  |refine aO b (aA []) fun m v b=>?_
  |refine AndA ?_
  |refine aP ?_
def zse (a:(List A1)):List (Nat×Ent):=[(200000,.row 90 3 (a.map A5))]
def Wp (r:(List A1)):List (Nat×Ent):=[(260000,.row 90 3 (r.map A5))]
def z54 (r:(List A1)):AV:=.row 260000
def zsb (r:(List A1)):AS:=⟨[(4,.row 260000)],Wp r⟩
theorem zd1 {n c r}(b:Si n c=some r):ConG E0.P none (CalF E0.P 124 0) [.row 200000,.fn 125 []] [] (zse c) (z54 r) (Wp r):=by
 unfold Si at b;refine aN (E:=(E0p 2)) (caps:=[]) _ bI rfl rfl rfl rfl rfl ?_;repeat' first
  |refine AW.frbO b 3 rfl rfl (fun b=>?_)
  |refine aF b fun b=>?_
  |refine aD [2] ?_;conv=>whnf
  |refine B3.oI b 200000 (fun r=>r) A5 (fun _=>AV.tup []) rfl (fun a h=>(ConC.env rfl (zxl h))) rfl rfl rfl (fun a b=>?_)
  |refine aW (Bc 10 b) [(200000,200000)] [(260000,11000000)] _ _ Uv Zl [200000] (fun a h=>aK (zae h)) (Av bH rfl rfl) rfl rfl rfl ⟨⟨rfl,rfl⟩,trivial⟩ (fun a=>⟨rfl,rfl,rfl,rfl,rfl,rfl,rfl,rfl⟩) (fun a b=>?_)
  |exact GX.A (res:=z54) (meF:=Wp) b zsb (h1:=aA [(260000,11000000)])
instance y6i {n c}:CI E0 (X7 n c) false 214 [.sl 3 (c.map A5)] (fun r=>.tup [.sl 3 (r.1.map A5),aI r.2]):=⟨fun {r} b=>by
 unfold X7 at b;refine cw Tryz.func214 ?_;repeat' first
  |refine aE ?_;conv=>whnf
  |refine aL b (fun b=>?_) fun b=>?_
  |refine Ab.oR b (fun r=>r) A5 (fun _=>AV.row 0) rfl (fun a h=>znq h) (fun a b=>?_)
  |refine aW (Bc 7 b) [(200000,6)] [(260000,8000000)] _ _ Wp z54 [6] (fun a h=>aK (zd1 h)) (Av bI rfl rfl) rfl rfl rfl ⟨⟨rfl,rfl⟩,trivial⟩ (fun a=>⟨rfl,rfl,rfl,rfl,rfl,rfl,rfl,rfl⟩) (fun a b=>?_)
  |exact aB b⟩
instance zji {n}:CI E0 (Pw n) false 42 [] Bh:=⟨fun {r} b=>by
 unfold Pw at b;refine cw Tryz.func42 ?_;repeat' first
  |refine aE ?_;conv=>whnf
  |refine aL b (fun b=>?_) fun b=>?_
  |refine aU ?_
  |refine aV ?_
  |refine aQ b fun a b=>?_
  |refine MakX.o Ao b (by first|exact aS _|(repeat' first|exact SubL.nil|refine SubL.cons ?_ ?_|exact Sub.refl _|exact Sub.nil _|refine Sub.agg ?_)) (fun l b=>?_)
  |refine AndA ?_
  |refine aP ?_
  |exact aB b⟩
instance zz0 {n a}:CI E0 (z2d n a) true 280 [.int .u8 (a)] (fun r=>.bool (r)):=by unfold z2d;exact aC [1] Tryz.func280
instance zyd {n a}:CI E0 (z3o n a) true 281 [.int .u8 (a)] (fun r=>.bool (r)):=by unfold z3o;exact aC [1] Tryz.func281
instance y29 {n d}:CI E0 (z33 n d) true 231 [.str (d)] (fun r=>.bool (r)):=⟨fun {r} c=>by
 unfold z33 at c;refine cw Tryz.func231 ?_;repeat' first
  |refine aX c (fun v c=>?_) fun c=>?_
  |refine aF c fun c=>?_
  |refine aD [1,6] ?_;conv=>whnf
  |refine aL c (fun c=>?_) fun c=>?_
  |refine aU ?_
  |refine aV ?_
  |exact ⟨_,c,aA []⟩
  |refine OpX.idb c rfl rfl rfl rfl rfl rfl rfl rfl (fun b c=>?_)
  |refine aQ c fun a c=>?_
  |refine aO c (aA []) fun m v c=>?_
  |refine AndA ?_
  |refine aP ?_
  |exact aB c⟩
instance zsi {n a}:CI E0 (z1s n a) true 232 [.str (a)] (fun r=>.bool (r)):=by unfold z1s;exact aC [1] Tryz.func232
theorem y57 (a b:ByteArray):eqK (AV.str a) (AV.str b)=some (decide (a=b)):=by simp [eqK,eq1,aI,Jf]
instance zz1 {n d}:CI E0 (z6b n d) true 173 [Bj d] aI:=⟨fun {r} c=>by
 unfold z6b at c;refine cw Tryz.func173 ?_;repeat' first
  |refine aX c (fun v c=>?_) fun c=>?_
  |refine aF c fun c=>?_
  |refine aD [13] ?_;conv=>whnf
  |refine aL c (fun c=>?_) fun c=>?_
  |refine aU ?_
  |refine aV ?_
  |refine aQ c fun a c=>?_
  |refine aJ c fun x c=>?_
  |refine LkX.o AV.str AV.bool c (by first|rfl|kernel_rfl) y57 (.refl _) (fun v b c=>?_)
  |refine UpX.o AV.str AV.bool c (by first|rfl|kernel_rfl) y57 (.refl _) (fun l c=>?_)
  |exact ⟨_,c,aA []⟩
  |refine aO c (aA []) fun m v c=>?_
  |refine AndA ?_
  |refine aP ?_
  |exact aB c⟩
instance zu9 {n d}:CI E0 (z15 n d) true 104 [.sl 2 (d.map Bj)] aI:=⟨fun {r} c=>by
 unfold z15 at c;refine cw Tryz.func104 ?_;repeat' first
  |refine aE ?_;conv=>whnf
  |refine aL c (fun c=>?_) fun c=>?_
  |refine aU ?_
  |refine aV ?_
  |refine aJ c fun x c=>?_
  |refine aQ c fun a c=>?_
  |refine LkX.o AV.str AV.bool c (by first|rfl|kernel_rfl) y57 (.refl _) (fun v b c=>?_)
  |refine UpX.o AV.str AV.bool c (by first|rfl|kernel_rfl) y57 (.refl _) (fun l c=>?_)
  |exact ⟨_,c,aA []⟩
  |refine aO c (aA []) fun m v c=>?_
  |refine AndA ?_
  |refine aP ?_
  |exact aB c⟩
instance zz6 {n c b a}:CI E0 (z2f n c b a) true 48 [.sl 2 (c.map Bj),Bh b,aI a] aI:=by unfold z2f;exact aC [7] Tryz.func48
instance zrs {n c b}:CI E0 (Zv n c b) false 118 [Bh c,aI b] (fun r=>.sl 1 (r.map aI)):=⟨fun {r} a=>by
 unfold Zv at a;refine cw Tryz.func118 ?_;repeat' first
  |refine aF a fun a=>?_
  |refine aD [5] ?_;conv=>whnf
  |refine aL a (fun a=>?_) fun a=>?_
  |refine aU ?_
  |refine aV ?_
  |refine aJ a fun x a=>?_
  |refine aR a fun l a=>?_
  |exact ⟨_,a,aA [(7023,23)]⟩
  |exact ⟨_,a,aA []⟩
  |refine aO a ?_ fun m v a=>?_
  |exact aH (aM 5 7023 3 1 rfl rfl) (aA [])
  |refine AndA ?_
  |refine aP ?_
  |exact aB a⟩
end
noncomputable section
abbrev zaj {n b a2bc0 a c}:=li (Z2 n b a2bc0 a c) (fun d=>⟨[(1,.ptr 100000 0),(3,.ptr 100001 0),(16,.sl 1 (a.map aI)),(17,aI (((a.map aI).length:Int))),(18,aI d.1)],[(100000,.box 44 [.row 200000]),(100001,.box 332 [.fn 284 [.ptr 100000 0,.ref [.fn 240 [.ref (B1 a2bc0)]],.ptr 100001 0]]),(200000,.row 4 1 (d.2.map AV.bool))]⟩) fun _ _=>Z2.eq_2 ..
abbrev zcm {n b a c}:=li (Zr n b a c) (fun d=>⟨[(7,.ptr 7 0),(8,.ptr 8 0),(16,.sl 1 (a.map aI)),(17,aI (((a.map aI).length:Int))),(18,aI d.1)],[(7,.box 44 [.row 7014]),(8,.box 332 [.fn 284 [.ptr 7 0,.ref [.fn 240 [.ref (B1 b)]],.ptr 8 0]]),(7014,.row 4 1 (d.2.map AV.bool))]⟩) fun _ _=>Zr.eq_2 ..
abbrev zag {n a b}:=li (Um n a b) (fun c=>⟨[(3,.row 7017),(6,.sl 1 (a.map AV.bool)),(7,aI (((a.map AV.bool).length:Int))),(8,aI c.1)],[(7017,.row 3 1 (c.2.map aI))]⟩) fun _ _=>Um.eq_2 ..
abbrev z8z {n a d b}:=li (Ua n a d b) (fun c=>⟨[(0,aI d),(4,.row 7022),(8,.sl 17 (a.fEdges.map Ac)),(9,aI (((a.fEdges.map Ac).length:Int))),(10,aI c.1)],[(7022,.row 3 1 (c.2.map aI))]⟩) fun _ _=>Ua.eq_2 ..
abbrev z3l {n b a2bc0 a c}:=li (Y2 n b a2bc0 a c) (fun d=>⟨[(1,.ptr 100000 0),(3,.ptr 100001 0),(16,.sl 1 (a.map aI)),(17,aI (((a.map aI).length:Int))),(18,aI d.1)],[(100000,.box 44 [.row 200000]),(100001,.box 332 [.fn 284 [.ptr 100000 0,.ref [.fn 241 [.ref (B1 a2bc0)]],.ptr 100001 0]]),(200000,.row 4 1 (d.2.map AV.bool))]⟩) fun _ _=>Y2.eq_2 ..
abbrev z69 {n b a c}:=li (Yi n b a c) (fun d=>⟨[(7,.ptr 7 0),(8,.ptr 8 0),(16,.sl 1 (a.map aI)),(17,aI (((a.map aI).length:Int))),(18,aI d.1)],[(7,.box 44 [.row 7014]),(8,.box 332 [.fn 284 [.ptr 7 0,.ref [.fn 241 [.ref (B1 b)]],.ptr 8 0]]),(7014,.row 4 1 (d.2.map AV.bool))]⟩) fun _ _=>Yi.eq_2 ..
abbrev zb7 {n a b}:=li (Uu n a b) (fun c=>⟨[(1,.ptr 1 0),(3,.row 7020),(7,.sl 17 (a.fEdges.map Ac)),(8,aI (((a.fEdges.map Ac).length:Int))),(9,aI c.1)],[(1,.box 26 (B1 a)),(7020,.row 3 1 (c.2.map aI))]⟩) fun _ _=>Uu.eq_2 ..
abbrev zj6 {n a b}:=li (z2g n a b) (fun c=>⟨[(3,.row 6),(7,.sl 1 (a.map aI)),(8,aI (((a.map aI).length:Int))),(9,aI c.1)],[(6,.mp (List.map (encM aI AV.bool) (c.2)))]⟩) fun _ _=>z2g.eq_2 ..
abbrev zev {n a e d b}:=li (Mh n a e d b) (fun c=>⟨[(2,.ptr 2 0),(7,.ptr 7 0),(8,.mapv (List.map (encM aI AV.bool) (d))),(28,.sl 17 (a.fEdges.map Ac)),(29,aI (((a.fEdges.map Ac).length:Int))),(30,aI c.1)],[(2,.box 119 [.mapv [],.mapv []]),(7,.box 119 [.mapv (List.map (encM aI AV.bool) (e)),.row 23]),(23,.mp (List.map (encM aI AV.bool) (c.2)))]⟩) fun _ _=>Mh.eq_2 ..
attribute [instance] zaj zcm zag z8z z3l z69 zb7 zj6 zev
instance zk5 {n d c}:CI E0 (z0h n d c) false 240 [aI d,.ref (B1 c)] (fun r=>.sl 1 (r.map aI)):=⟨fun {r} b=>by
 unfold z0h at b;refine cw Tryz.func240 ?_;repeat' first
  |refine aF b fun b=>?_
  |refine aD [6] ?_;conv=>whnf
  |refine aL b (fun b=>?_) fun b=>?_
  |refine aU ?_
  |refine aV ?_
  |refine aQ b fun a b=>?_
  |refine aJ b fun x b=>?_
  |refine aR b fun l b=>?_
  |exact ⟨_,b,aA [(7027,27)]⟩
  |exact ⟨_,b,aA []⟩
  |refine aO b ?_ fun m v b=>?_
  |exact aH (aM 4 7027 3 1 rfl rfl) (aA [])
  |refine AndA ?_
  |refine aP ?_
  |exact aB b⟩
def zdl (b:Int)(a2bc0:Ad)(a:(List Bool)):List (Nat×Ent):=[(100000,.box 44 [.row 200000]),(200000,.row 4 1 (a.map AV.bool)),(100001,.box 332 [.fn 284 [.ptr 100000 0,.ref [.fn 240 [.ref (B1 a2bc0)]],.ptr 100001 0]])]
def M2 (a2bc0:Ad)(r:(List Bool)):List (Nat×Ent):=[(100000,.box 44 [.row 250000]),(250000,.row 4 1 (r.map AV.bool)),(100001,.box 332 [.fn 284 [.ptr 100000 0,.ref [.fn 240 [.ref (B1 a2bc0)]],.ptr 100001 0]])]
def R7 (r:(List Bool)):AV:=.tup []
def zdi (a2bc0:Ad)(r:(List Bool)):AS:=⟨[(1,.ptr 100000 0),(3,.ptr 100001 0)],M2 a2bc0 r⟩
theorem z2k {n c a2bc0 d r}(b:Zw n c a2bc0 d=some r):ConG E0.P none (CalF E0.P 284 0) [aI c,.ptr 100000 0,.ref [.fn 240 [.ref (B1 a2bc0)]],.ptr 100001 0] [] (zdl c a2bc0 d) (R7 r) (M2 a2bc0 r):=by
 induction n generalizing c a2bc0 d r
 case zero=>cases b
 case succ n e =>
 unfold Zw at b;refine aN (E:=(E0p 4)) (caps:=[]) _ aG rfl rfl rfl rfl rfl ?_;repeat' first
  |refine aE ?_;conv=>whnf
  |refine aL b (fun b=>?_) fun b=>?_
  |refine aU ?_
  |refine aV ?_
  |refine NatX.o b (fun m b=>?_)
  |refine EltX.o AV.bool b (fun x b=>?_)
  |refine GX.o (res:=R7) (meF:=(M2 a2bc0)) b ?_;exact GX.mk (zdi a2bc0 _) (aA [(250000,200000)]) rfl _ rfl (by repeat' first|exact Sub.nil _|exact Sub.refl _|refine Sub.agg ?_|refine Sub.tup ?_|refine Sub.fn ?_|exact SubL.nil|refine SubL.cons ?_ ?_|refine Sub.sl _ ?_|exact SubE.nil|refine SubE.cons ?_ ?_) [] trivial rfl
  |refine SetX.o AV.bool b (fun x=>rfl) (fun x=>(by first|exact aS _|(repeat' first|exact SubL.nil|refine SubL.cons ?_ ?_|exact Sub.refl _|exact Sub.nil _|refine Sub.agg ?_))) (fun l b=>?_)
  |refine aQ b fun a b=>?_
  |refine aJ b fun x b=>?_
  |refine aW (Bc 24 b) [(100000,100000),(100001,100001),(200000,200000)] [(100000,100000),(250000,25000001),(100001,100001)] _ _ (M2 a2bc0) R7 [200000] (fun a h=>aK (e h)) (Av aG rfl rfl) rfl rfl rfl ⟨⟨rfl,rfl⟩,⟨⟨rfl,rfl⟩,⟨⟨rfl,rfl⟩,trivial⟩⟩⟩ (fun a=>⟨rfl,rfl,rfl,rfl,rfl,rfl,rfl,rfl⟩) (fun a b=>?_)
  |refine Ab.oM (Bc 24 b) [(100000,100000),(100001,100001),(200000,200000)] [(100000,100000),(250000,25000001),(100001,100001)] _ _ (M2 a2bc0) R7 [200000] (fun a h=>aK (e h)) (Av aG rfl rfl) rfl rfl rfl ⟨⟨rfl,rfl⟩,⟨⟨rfl,rfl⟩,⟨⟨rfl,rfl⟩,trivial⟩⟩⟩ (fun a=>⟨rfl,rfl,rfl,rfl,rfl,rfl,rfl,rfl⟩) (fun a b=>?_)
  |exact ⟨_,b,aA [(200000,25000001)]⟩
  |refine aO b (aA []) fun m v b=>?_
  |refine AndA ?_
  |refine aP ?_
instance zuk {n e d b}:CI E0 (z2a n e d b) false 239 [Bh e,.sl 1 (d.map aI),.fn 240 [.ref (B1 b)]] (fun r=>.sl 1 (r.map AV.bool)):=⟨fun {r} c=>by
 unfold z2a at c;refine cw bJ ?_;repeat' first
  |refine aF c fun c=>?_
  |refine aY c 5 rfl (fun c=>?_)
  |refine aD [7] ?_;conv=>whnf
  |refine aL c (fun c=>?_) fun c=>?_
  |refine aU ?_
  |refine aV ?_
  |refine MakX.o AV.bool c (by first|exact aS _|(repeat' first|exact SubL.nil|refine SubL.cons ?_ ?_|exact Sub.refl _|exact Sub.nil _|refine Sub.agg ?_)) (fun l c=>?_)
  |refine aJ c fun x c=>?_
  |refine aW (Bc 24 c) [(100000,7),(100001,8),(200000,7014)] [(100000,7),(250000,25000001),(100001,8)] _ _ (M2 b) R7 [7014] (fun a h=>aK (z2k h)) (Av aG rfl rfl) rfl rfl rfl ⟨⟨rfl,rfl⟩,⟨⟨rfl,rfl⟩,⟨⟨rfl,rfl⟩,trivial⟩⟩⟩ (fun a=>⟨rfl,rfl,rfl,rfl,rfl,rfl,rfl,rfl⟩) (fun a c=>?_)
  |refine Ab.oM (Bc 24 c) [(100000,7),(100001,8),(200000,7014)] [(100000,7),(250000,25000001),(100001,8)] _ _ (M2 b) R7 [7014] (fun a h=>aK (z2k h)) (Av aG rfl rfl) rfl rfl rfl ⟨⟨rfl,rfl⟩,⟨⟨rfl,rfl⟩,⟨⟨rfl,rfl⟩,trivial⟩⟩⟩ (fun a=>⟨rfl,rfl,rfl,rfl,rfl,rfl,rfl,rfl⟩) (fun a c=>?_)
  |exact ⟨_,c,aA [(7014,25000001)]⟩
  |refine aO c ?_ fun m v c=>?_
  |exact aH (LeX.frb 5 rfl rfl) (aA [(7014,14)])
  |refine AndA ?_
  |refine aP ?_
  |exact aB c⟩
instance znn {n c}:CI E0 (z11 n c) false 184 [Bh c] (fun r=>.sl 1 (r.map AV.bool)):=⟨fun {r} b=>by
 unfold z11 at b;refine cw Tryz.func184 ?_;repeat' first
  |refine AW.frbO b 1 rfl rfl (fun b=>?_)
  |refine aF b fun b=>?_
  |refine aY b 1 rfl (fun b=>?_)
  |refine aD [1] ?_;conv=>whnf
  |refine aL b (fun b=>?_) fun b=>?_
  |refine aU ?_
  |refine aV ?_
  |refine aQ b fun a b=>?_
  |refine AndA ?_
  |refine aP ?_
  |exact aB b⟩
instance zrq {n b}:CI E0 (Zu n b) false 183 [.sl 1 (b.map AV.bool)] (fun r=>.sl 1 (r.map aI)):=⟨fun {r} a=>by
 unfold Zu at a;refine cw Tryz.func183 ?_;repeat' first
  |refine aF a fun a=>?_
  |refine aD [5] ?_;conv=>whnf
  |refine aL a (fun a=>?_) fun a=>?_
  |refine aU ?_
  |refine aV ?_
  |refine aJ a fun x a=>?_
  |refine aR a fun l a=>?_
  |exact ⟨_,a,aA [(7017,17)]⟩
  |exact ⟨_,a,aA []⟩
  |refine aO a ?_ fun m v a=>?_
  |exact aH (aM 3 7017 3 1 rfl rfl) (aA [])
  |refine AndA ?_
  |refine aP ?_
  |exact aB a⟩
instance zno {n a}:CI E0 (z12 n a) false 112 [Bh a] (fun r=>.tup [.sl 1 (r.1.map aI),aI r.2]):=by unfold z12;exact aC [] Tryz.func112
instance zop {n c b}:CI E0 (z19 n c b) false 241 [aI c,.ref (B1 b)] (fun r=>.sl 1 (r.map aI)):=⟨fun {r} a=>by
 unfold z19 at a;refine cw Tryz.func241 ?_;repeat' first
  |refine aF a fun a=>?_
  |refine aD [5] ?_;conv=>whnf
  |refine aL a (fun a=>?_) fun a=>?_
  |refine aU ?_
  |refine aV ?_
  |refine aJ a fun x a=>?_
  |refine aR a fun l a=>?_
  |exact ⟨_,a,aA [(7022,22)]⟩
  |exact ⟨_,a,aA []⟩
  |refine aO a ?_ fun m v a=>?_
  |exact aH (aM 4 7022 3 1 rfl rfl) (aA [])
  |refine AndA ?_
  |refine aP ?_
  |exact aB a⟩
def z7s (b:Int)(a2bc0:Ad)(a:(List Bool)):List (Nat×Ent):=[(100000,.box 44 [.row 200000]),(200000,.row 4 1 (a.map AV.bool)),(100001,.box 332 [.fn 284 [.ptr 100000 0,.ref [.fn 241 [.ref (B1 a2bc0)]],.ptr 100001 0]])]
def Ks (a2bc0:Ad)(r:(List Bool)):List (Nat×Ent):=[(100000,.box 44 [.row 250000]),(250000,.row 4 1 (r.map AV.bool)),(100001,.box 332 [.fn 284 [.ptr 100000 0,.ref [.fn 241 [.ref (B1 a2bc0)]],.ptr 100001 0]])]
def P9 (r:(List Bool)):AV:=.tup []
def z7o (a2bc0:Ad)(r:(List Bool)):AS:=⟨[(1,.ptr 100000 0),(3,.ptr 100001 0)],Ks a2bc0 r⟩
theorem z18 {n c a2bc0 d r}(b:Yn n c a2bc0 d=some r):ConG E0.P none (CalF E0.P 284 0) [aI c,.ptr 100000 0,.ref [.fn 241 [.ref (B1 a2bc0)]],.ptr 100001 0] [] (z7s c a2bc0 d) (P9 r) (Ks a2bc0 r):=by
 induction n generalizing c a2bc0 d r
 case zero=>cases b
 case succ n e =>
 unfold Yn at b;refine aN (E:=(E0p 4)) (caps:=[]) _ aG rfl rfl rfl rfl rfl ?_;repeat' first
  |refine aE ?_;conv=>whnf
  |refine aL b (fun b=>?_) fun b=>?_
  |refine aU ?_
  |refine aV ?_
  |refine NatX.o b (fun m b=>?_)
  |refine EltX.o AV.bool b (fun x b=>?_)
  |refine GX.o (res:=P9) (meF:=(Ks a2bc0)) b ?_;exact GX.mk (z7o a2bc0 _) (aA [(250000,200000)]) rfl _ rfl (by repeat' first|exact Sub.nil _|exact Sub.refl _|refine Sub.agg ?_|refine Sub.tup ?_|refine Sub.fn ?_|exact SubL.nil|refine SubL.cons ?_ ?_|refine Sub.sl _ ?_|exact SubE.nil|refine SubE.cons ?_ ?_) [] trivial rfl
  |refine SetX.o AV.bool b (fun x=>rfl) (fun x=>(by first|exact aS _|(repeat' first|exact SubL.nil|refine SubL.cons ?_ ?_|exact Sub.refl _|exact Sub.nil _|refine Sub.agg ?_))) (fun l b=>?_)
  |refine aQ b fun a b=>?_
  |refine aJ b fun x b=>?_
  |refine aW (Bc 24 b) [(100000,100000),(100001,100001),(200000,200000)] [(100000,100000),(250000,25000001),(100001,100001)] _ _ (Ks a2bc0) P9 [200000] (fun a h=>aK (e h)) (Av aG rfl rfl) rfl rfl rfl ⟨⟨rfl,rfl⟩,⟨⟨rfl,rfl⟩,⟨⟨rfl,rfl⟩,trivial⟩⟩⟩ (fun a=>⟨rfl,rfl,rfl,rfl,rfl,rfl,rfl,rfl⟩) (fun a b=>?_)
  |refine Ab.oM (Bc 24 b) [(100000,100000),(100001,100001),(200000,200000)] [(100000,100000),(250000,25000001),(100001,100001)] _ _ (Ks a2bc0) P9 [200000] (fun a h=>aK (e h)) (Av aG rfl rfl) rfl rfl rfl ⟨⟨rfl,rfl⟩,⟨⟨rfl,rfl⟩,⟨⟨rfl,rfl⟩,trivial⟩⟩⟩ (fun a=>⟨rfl,rfl,rfl,rfl,rfl,rfl,rfl,rfl⟩) (fun a b=>?_)
  |exact ⟨_,b,aA [(200000,25000001)]⟩
  |refine aO b (aA []) fun m v b=>?_
  |refine AndA ?_
  |refine aP ?_
instance zlo {n e d b}:CI E0 (z0p n e d b) false 239 [Bh e,.sl 1 (d.map aI),.fn 241 [.ref (B1 b)]] (fun r=>.sl 1 (r.map AV.bool)):=⟨fun {r} c=>by
 unfold z0p at c;refine cw bJ ?_;repeat' first
  |refine aF c fun c=>?_
  |refine aY c 5 rfl (fun c=>?_)
  |refine aD [7] ?_;conv=>whnf
  |refine aL c (fun c=>?_) fun c=>?_
  |refine aU ?_
  |refine aV ?_
  |refine MakX.o AV.bool c (by first|exact aS _|(repeat' first|exact SubL.nil|refine SubL.cons ?_ ?_|exact Sub.refl _|exact Sub.nil _|refine Sub.agg ?_)) (fun l c=>?_)
  |refine aJ c fun x c=>?_
  |refine aW (Bc 24 c) [(100000,7),(100001,8),(200000,7014)] [(100000,7),(250000,25000001),(100001,8)] _ _ (Ks b) P9 [7014] (fun a h=>aK (z18 h)) (Av aG rfl rfl) rfl rfl rfl ⟨⟨rfl,rfl⟩,⟨⟨rfl,rfl⟩,⟨⟨rfl,rfl⟩,trivial⟩⟩⟩ (fun a=>⟨rfl,rfl,rfl,rfl,rfl,rfl,rfl,rfl⟩) (fun a c=>?_)
  |refine Ab.oM (Bc 24 c) [(100000,7),(100001,8),(200000,7014)] [(100000,7),(250000,25000001),(100001,8)] _ _ (Ks b) P9 [7014] (fun a h=>aK (z18 h)) (Av aG rfl rfl) rfl rfl rfl ⟨⟨rfl,rfl⟩,⟨⟨rfl,rfl⟩,⟨⟨rfl,rfl⟩,trivial⟩⟩⟩ (fun a=>⟨rfl,rfl,rfl,rfl,rfl,rfl,rfl,rfl⟩) (fun a c=>?_)
  |exact ⟨_,c,aA [(7014,25000001)]⟩
  |refine aO c ?_ fun m v c=>?_
  |exact aH (LeX.frb 5 rfl rfl) (aA [(7014,14)])
  |refine AndA ?_
  |refine aP ?_
  |exact aB c⟩
instance zsl {n c}:CI E0 (z1w n c) false 185 [Bh c] (fun r=>.sl 1 (r.map AV.bool)):=⟨fun {r} b=>by
 unfold z1w at b;refine cw Tryz.func185 ?_;repeat' first
  |refine AW.frbO b 1 rfl rfl (fun b=>?_)
  |refine aF b fun b=>?_
  |refine aY b 7020 rfl (fun b=>?_)
  |refine aY b 1 rfl (fun b=>?_)
  |refine aD [8,5] ?_;conv=>whnf
  |refine aL b (fun b=>?_) fun b=>?_
  |refine aU ?_
  |refine aV ?_
  |refine aQ b fun a b=>?_
  |refine aJ b fun x b=>?_
  |refine aR b fun l b=>?_
  |exact ⟨_,b,aA [(7020,20)]⟩
  |exact ⟨_,b,aA []⟩
  |refine aO b ?_ fun m v b=>?_
  |exact aH (aM 3 7020 3 1 rfl rfl) (aA [])
  |refine AndA ?_
  |refine aP ?_
  |exact aB b⟩
instance zsq {n a}:CI E0 (z1y n a) false 113 [Bh a] (fun r=>.tup [.sl 1 (r.1.map aI),aI r.2]):=by unfold z1y;exact aC [] Tryz.func113
theorem Cz (a b:Int):eqK (aI a) (aI b)=some (decide (a=b)):=by simp [eqK,eq1,aI,Jf]
instance y5e {n b}:CI E0 (z99 n b) false 114 [.sl 1 (b.map aI)] (fun r=>.mapv (List.map (encM aI AV.bool) (r))):=⟨fun {r} a=>by
 unfold z99 at a;refine cw Tryz.func114 ?_;repeat' first
  |refine aE ?_;conv=>whnf
  |refine aL a (fun a=>?_) fun a=>?_
  |refine aU ?_
  |refine aV ?_
  |refine aJ a fun x a=>?_
  |refine UpX.o aI AV.bool a (by first|rfl|kernel_rfl) Cz (.refl _) (fun l a=>?_)
  |exact ⟨_,a,aA []⟩
  |refine aO a (aA []) fun m v a=>?_
  |refine AndA ?_
  |refine aP ?_
  |exact aB a⟩
end
end Go.Proofs.YthbogefcfhmpgaaGreat
