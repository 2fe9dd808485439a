/- What some functions compute, over plain values. -/
import Derived.Test.YthbogefcfhmpgaaGreatK16
set_option linter.unusedVariables false
set_option linter.unusedSimpArgs false
set_option maxRecDepth 100000
set_option maxHeartbeats 8000000
namespace Go.Proofs.YthbogefcfhmpgaaGreat
open Go.RowKit List
open LeX renaming a->aA,trans->aD,adopt->aH,itc->bY
open RetX renaming oB->aB
open AW renaming stepU->aC,regO->aE,step->aM,frzO->aY,jI->bM,pckO->bU
open EqX renaming A->aF
open Tryz renaming func284->aG,func237->aU,func187->aZ,func188->bA,func189->bB,func263->bC,prog->bD,ntmps188->bK,ntmps189->bL,func201->bP,func239->bR,func116->bS,func313->cA,func235->cB
open IdxX renaming A->aJ,oD->bG
open A1 renaming o->aK,t->aO,f->aP
open SubL renaming refl->aL
open ConG renaming up->aN,walk->aV
open Av renaming I->aQ
open AppX renaming oA->aR
open CI renaming w->aS
open Ab renaming I->aT,oM->bO
open Nat renaming le_refl->aW
open OpX renaming lkv->bF,rng->bV,nxt->bW,ent->bX
open Or renaming inl->bT,inr->bZ
noncomputable section
abbrev z6j {n d c}:=li (Kx n d c) (fun b=>⟨[(0,.row 200000),(1,.fn 202 [.ref [.fn 125 []]]),(5,aI b.1),(6,.der (.sub 3 (d)) 200000),(7,aI b.2.1)],[(200000,.row 90 3 (b.2.2.map Ai))]⟩) fun _ _=>Kx.eq_2 ..
abbrev z6k {n a b}:=li (Pf n a b) (fun c=>⟨[(0,.row 200000),(1,.fn 202 [.ref [.fn 125 []]]),(5,aI c)],[(200000,.row 90 3 (a.map Ai))]⟩) fun _ _=>Pf.eq_2 ..
abbrev zc2 {n}:=jf (Qx n) (fun b=>⟨[(2,.bool (b))],[]⟩) fun _=>Qx.eq_1 ..
abbrev zb2 {n}:=jf (G9 n) (fun b=>⟨[(2,.bool (b))],[]⟩) fun _=>G9.eq_1 ..
abbrev zd7 {n a b c}:=jf (R9 n a b c) (fun d=>⟨[(0,.str (a)),(18,aI (((a.size:Nat):Int))),(19,aI b),(33,.bool (d))],[]⟩) fun _=>R9.eq_1 ..
abbrev zd6 {n a b}:=li (R8 n a b) (fun c=>⟨[(0,.str (a)),(18,aI (((a.size:Nat):Int))),(19,aI c)],[]⟩) fun _ _=>R8.eq_2 ..
abbrev zd8 {n a}:=jf (M6 n a) (fun b=>⟨[(0,.str (a)),(16,.bool (b))],[]⟩) fun _=>M6.eq_1 ..
abbrev z8k {n}:=jf (Q8 n) (fun b=>⟨[(2,.bool (b))],[]⟩) fun _=>Q8.eq_1 ..
abbrev zc4 {n a b c d}:=jf (Qz n a b c d) (fun e=>⟨[(3,.row 14),(5,.ptr 5 0),(16,.sl 2 (a.fFields.map E9)),(17,aI (((a.fFields.map E9).length:Int))),(18,aI b.1),(32,.bool (e))],[(5,.box 164 (zre d)),(14,.mp (List.map (encM AV.str AV.bool) (b.2)))]⟩) fun _=>Qz.eq_1 ..
abbrev zc3 {n a b}:=li (Qy n a b) (fun c=>⟨[(3,.row 14),(16,.sl 2 (a.fFields.map E9)),(17,aI (((a.fFields.map E9).length:Int))),(18,aI c.1)],[(14,.mp (List.map (encM AV.str AV.bool) (c.2)))]⟩) fun _ _=>Qy.eq_2 ..
abbrev z9q {n a b}:=li (Yq n a b) (fun c=>⟨[(3,.row 10),(11,.sl 2 (a.map Bf)),(12,aI (((a.map Bf).length:Int))),(13,aI c.1)],[(10,.mp (List.map (encM AV.str AV.bool) (c.2)))]⟩) fun _ _=>Yq.eq_2 ..
abbrev zc9 {n}:=jf (R3 n) (fun b=>⟨[(24,.bool (b))],[]⟩) fun _=>R3.eq_1 ..
abbrev z8a {n d a b}:=li (Li n d a b) (fun c=>⟨[(1,aI d),(5,.row 7023),(9,.sl 17 (a.fEdges.map A9)),(10,aI (((a.fEdges.map A9).length:Int))),(11,aI c.1)],[(7023,.row 3 1 (c.2.map aI))]⟩) fun _ _=>Li.eq_2 ..
abbrev z3d {n d a b}:=li (Jy n d a b) (fun c=>⟨[(1,.ref (B3 d)),(4,.row 7027),(10,.sl 1 (a.map aI)),(11,aI (((a.map aI).length:Int))),(12,aI c.1)],[(7027,.row 3 1 (c.2.map aI))]⟩) fun _ _=>Jy.eq_2 ..
attribute [instance] z6j z6k zc2 zb2 zd7 zd6 zd8 z8k zc4 zc3 z9q zc9 z8a z3d
instance zqz {n b a}:CI E0 (R2 n b a) true 202 [Ai b,Ai a,.ref [.fn 125 []]] (fun r=>.bool (r)):=by unfold R2;exact aS [] Tryz.func202
def za8 (a:(List A5)):List (Nat×Ent):=[(200000,.row 90 3 (a.map Ai))]
def Ub (r:(List A5)):List (Nat×Ent):=[(260000,.row 90 3 (r.map Ai))]
def Yn (r:(List A5)):AV:=.row 260000
def z1o (r:(List A5)):AS:=⟨[(4,.row 260000)],Ub r⟩
theorem z86 {n c r}(b:Ui n c=some r):ConG E0.P none (CalF E0.P 201 0) [.row 200000,.fn 202 [.ref [.fn 125 []]]] [] (za8 c) (Yn r) (Ub r):=by
 unfold Ui at b;refine aV (E:=(E0p 2)) (caps:=[]) _ bP rfl rfl rfl rfl rfl ?_;repeat' first
  |refine aM ?_;conv=>whnf
  |refine aK b (fun b=>?_) fun b=>?_
  |exact GX.A (res:=Yn) (meF:=Ub) b z1o (h1:=aA [(260000,200000)])
  |refine NatX.o b (fun m b=>?_)
  |refine EltX.o Ai b (fun x b=>?_)
  |refine aT b fun a b=>?_
  |refine OpX.sub b rfl rfl rfl rfl rfl rfl rfl rfl rfl rfl (fun m b=>?_)
  |refine OpX.clr Ai b rfl rfl rfl rfl rfl rfl rfl rfl rfl rfl rfl (by first|exact aL _|(repeat' first|exact SubL.nil|refine SubL.cons ?_ ?_|exact Sub.refl _|exact Sub.nil _|refine Sub.agg ?_)) (fun l b=>?_)
  |refine SlsX.o Ai b (fun l b=>?_)
  |exact GX.A (res:=Yn) (meF:=Ub) b z1o (h1:=aA [(260000,64)])
  |refine OpX.lns b rfl rfl rfl rfl rfl rfl rfl (fun b=>?_)
  |refine OpX.ixs b rfl rfl rfl rfl rfl rfl rfl rfl rfl rfl (fun m b=>?_)
  |refine SetX.o Ai b (fun x=>rfl) (fun x=>(by first|exact aL _|(repeat' first|exact SubL.nil|refine SubL.cons ?_ ?_|exact Sub.refl _|exact Sub.nil _|refine Sub.agg ?_))) (fun l b=>?_)
  |exact ⟨_,b,aA []⟩
  |refine aQ b (aA []) fun m v b=>?_
  |refine AndA ?_
  |refine aF ?_
def zp2 (a:(List A5)):List (Nat×Ent):=[(200000,.row 90 3 (a.map Ai))]
def Zi (r:(List A5)):List (Nat×Ent):=[(260000,.row 90 3 (r.map Ai))]
def z9j (r:(List A5)):AV:=.row 260000
def zoz (r:(List A5)):AS:=⟨[(4,.row 260000)],Zi r⟩
theorem zhb {n c r}(b:W0 n c=some r):ConG E0.P none (CalF E0.P 124 0) [.row 200000,.fn 125 []] [] (zp2 c) (z9j r) (Zi r):=by
 unfold W0 at b;refine aV (E:=(E0p 2)) (caps:=[]) _ Tryz.func124 rfl rfl rfl rfl rfl ?_;repeat' first
  |refine AW.frbO b 3 rfl rfl (fun b=>?_)
  |refine aE b fun b=>?_
  |refine aC [2] ?_;conv=>whnf
  |refine B7.oI b 200000 (fun r=>r) Ai (fun _=>AV.tup []) rfl (fun a h=>(ConC.env rfl (ztt h))) rfl rfl rfl (fun a b=>?_)
  |refine B7.oM (Bg 10 b) [(200000,200000)] [(260000,11000000)] _ _ Ub Yn [200000] (fun a h=>aN (z86 h)) (B0 bP rfl rfl) rfl rfl rfl ⟨⟨rfl,rfl⟩,trivial⟩ (fun a=>⟨rfl,rfl,rfl,rfl,rfl,rfl,rfl,rfl⟩) (fun a b=>?_)
  |exact GX.A (res:=z9j) (meF:=Zi) b zoz (h1:=aA [(260000,11000000)])
instance zv1 {n a}:CI E0 (Zb n a) true 280 [.int .u8 (a)] (fun r=>.bool (r)):=by unfold Zb;exact aS [1] Tryz.func280
instance zui {n a}:CI E0 (z2f n a) true 281 [.int .u8 (a)] (fun r=>.bool (r)):=by unfold z2f;exact aS [1] Tryz.func281
instance zxk {n d}:CI E0 (Zf n d) true 231 [.str (d)] (fun r=>.bool (r)):=⟨fun {r} c=>by
 unfold Zf at c;refine cw Tryz.func231 ?_;repeat' first
  |refine bM c (fun v c=>?_) fun c=>?_
  |refine aE c fun c=>?_
  |refine aC [1,6] ?_;conv=>whnf
  |refine aK c (fun c=>?_) fun c=>?_
  |refine aO ?_
  |refine aP ?_
  |exact ⟨_,c,aA []⟩
  |refine OpX.idb c rfl rfl rfl rfl rfl rfl rfl rfl (fun b c=>?_)
  |refine aT c fun a c=>?_
  |refine aQ c (aA []) fun m v c=>?_
  |refine AndA ?_
  |refine aF ?_
  |exact aB c⟩
instance zp5 {n a}:CI E0 (z12 n a) true 232 [.str (a)] (fun r=>.bool (r)):=by unfold z12;exact aS [1] Tryz.func232
theorem y07 (a b:ByteArray):eqK (AV.str a) (AV.str b)=some (decide (a=b)):=by simp [eqK,eq1,aI,J9]
instance zv2 {n d}:CI E0 (z4l n d) true 173 [Bf d] aI:=⟨fun {r} c=>by
 unfold z4l at c;refine cw Tryz.func173 ?_;repeat' first
  |refine bM c (fun v c=>?_) fun c=>?_
  |refine aE c fun c=>?_
  |refine aC [13] ?_;conv=>whnf
  |refine aK c (fun c=>?_) fun c=>?_
  |refine aO ?_
  |refine aP ?_
  |refine aT c fun a c=>?_
  |refine aJ c fun x c=>?_
  |refine LkX.o AV.str AV.bool c (by first|rfl|kernel_rfl) y07 (by repeat' first|exact Sub.nil _|exact Sub.refl _|refine Sub.agg ?_|refine Sub.tup ?_|refine Sub.fn ?_|exact SubL.nil|refine SubL.cons ?_ ?_|refine Sub.sl _ ?_|exact SubE.nil|refine SubE.cons ?_ ?_) (fun v b c=>?_)
  |refine UpX.o AV.str AV.bool c (by first|rfl|kernel_rfl) y07 (by repeat' first|exact Sub.nil _|exact Sub.refl _|refine Sub.agg ?_|refine Sub.tup ?_|refine Sub.fn ?_|exact SubL.nil|refine SubL.cons ?_ ?_|refine Sub.sl _ ?_|exact SubE.nil|refine SubE.cons ?_ ?_) (fun l c=>?_)
  |exact ⟨_,c,aA []⟩
  |refine aQ c (aA []) fun m v c=>?_
  |refine AndA ?_
  |refine aF ?_
  |exact aB c⟩
instance zqx {n d}:CI E0 (Z2 n d) true 104 [.sl 2 (d.map Bf)] aI:=⟨fun {r} c=>by
 unfold Z2 at c;refine cw Tryz.func104 ?_;repeat' first
  |refine aM ?_;conv=>whnf
  |refine aK c (fun c=>?_) fun c=>?_
  |refine aO ?_
  |refine aP ?_
  |refine aJ c fun x c=>?_
  |refine aT c fun a c=>?_
  |refine LkX.o AV.str AV.bool c (by first|rfl|kernel_rfl) y07 (by repeat' first|exact Sub.nil _|exact Sub.refl _|refine Sub.agg ?_|refine Sub.tup ?_|refine Sub.fn ?_|exact SubL.nil|refine SubL.cons ?_ ?_|refine Sub.sl _ ?_|exact SubE.nil|refine SubE.cons ?_ ?_) (fun v b c=>?_)
  |refine UpX.o AV.str AV.bool c (by first|rfl|kernel_rfl) y07 (by repeat' first|exact Sub.nil _|exact Sub.refl _|refine Sub.agg ?_|refine Sub.tup ?_|refine Sub.fn ?_|exact SubL.nil|refine SubL.cons ?_ ?_|refine Sub.sl _ ?_|exact SubE.nil|refine SubE.cons ?_ ?_) (fun l c=>?_)
  |exact ⟨_,c,aA []⟩
  |refine aQ c (aA []) fun m v c=>?_
  |refine AndA ?_
  |refine aF ?_
  |exact aB c⟩
instance zv7 {n c b a}:CI E0 (Zc n c b a) true 48 [.sl 2 (c.map Bf),Bi b,aI a] aI:=by unfold Zc;exact aS [7] Tryz.func48
instance zok {n c b}:CI E0 (V3 n c b) false 118 [Bi c,aI b] (fun r=>.sl 1 (r.map aI)):=⟨fun {r} a=>by
 unfold V3 at a;refine cw Tryz.func118 ?_;repeat' first
  |refine aE a fun a=>?_
  |refine aC [5] ?_;conv=>whnf
  |refine aK a (fun a=>?_) fun a=>?_
  |refine aO ?_
  |refine aP ?_
  |refine aJ a fun x a=>?_
  |refine aR a fun l a=>?_
  |exact ⟨_,a,aA [(7023,23)]⟩
  |exact ⟨_,a,aA []⟩
  |refine aQ a ?_ fun m v a=>?_
  |exact aD (aH 5 7023 3 1 rfl rfl) (aA [])
  |refine AndA ?_
  |refine aF ?_
  |exact aB a⟩
end
noncomputable section
abbrev z8b {n b a2bc0 a c}:=li (Q0 n b a2bc0 a c) (fun d=>⟨[(1,.ptr 100000 0),(3,.ptr 100001 0),(16,.sl 1 (a.map aI)),(17,aI (((a.map aI).length:Int))),(18,aI d.1)],[(100000,.box 44 [.row 200000]),(100001,.box 332 [.fn 284 [.ptr 100000 0,.ref [.fn 240 [.ref (B3 a2bc0)]],.ptr 100001 0]]),(200000,.row 4 1 (d.2.map AV.bool))]⟩) fun _ _=>Q0.eq_2 ..
abbrev z9w {n b a c}:=li (Qj n b a c) (fun d=>⟨[(7,.ptr 7 0),(8,.ptr 8 0),(16,.sl 1 (a.map aI)),(17,aI (((a.map aI).length:Int))),(18,aI d.1)],[(7,.box 44 [.row 7014]),(8,.box 332 [.fn 284 [.ptr 7 0,.ref [.fn 240 [.ref (B3 b)]],.ptr 8 0]]),(7014,.row 4 1 (d.2.map AV.bool))]⟩) fun _ _=>Qj.eq_2 ..
abbrev z88 {n a b}:=li (Lh n a b) (fun c=>⟨[(3,.row 7017),(6,.sl 1 (a.map AV.bool)),(7,aI (((a.map AV.bool).length:Int))),(8,aI c.1)],[(7017,.row 3 1 (c.2.map aI))]⟩) fun _ _=>Lh.eq_2 ..
abbrev z72 {n a d b}:=li (L2 n a d b) (fun c=>⟨[(0,aI d),(4,.row 7022),(8,.sl 17 (a.fEdges.map A9)),(9,aI (((a.fEdges.map A9).length:Int))),(10,aI c.1)],[(7022,.row 3 1 (c.2.map aI))]⟩) fun _ _=>L2.eq_2 ..
abbrev z2c {n b a2bc0 a c}:=li (Nv n b a2bc0 a c) (fun d=>⟨[(1,.ptr 100000 0),(3,.ptr 100001 0),(16,.sl 1 (a.map aI)),(17,aI (((a.map aI).length:Int))),(18,aI d.1)],[(100000,.box 44 [.row 200000]),(100001,.box 332 [.fn 284 [.ptr 100000 0,.ref [.fn 241 [.ref (B3 a2bc0)]],.ptr 100001 0]]),(200000,.row 4 1 (d.2.map AV.bool))]⟩) fun _ _=>Nv.eq_2 ..
abbrev z4j {n b a c}:=li (Oo n b a c) (fun d=>⟨[(7,.ptr 7 0),(8,.ptr 8 0),(16,.sl 1 (a.map aI)),(17,aI (((a.map aI).length:Int))),(18,aI d.1)],[(7,.box 44 [.row 7014]),(8,.box 332 [.fn 284 [.ptr 7 0,.ref [.fn 241 [.ref (B3 b)]],.ptr 8 0]]),(7014,.row 4 1 (d.2.map AV.bool))]⟩) fun _ _=>Oo.eq_2 ..
abbrev z90 {n a b}:=li (Ln n a b) (fun c=>⟨[(1,.ptr 1 0),(3,.row 7020),(7,.sl 17 (a.fEdges.map A9)),(8,aI (((a.fEdges.map A9).length:Int))),(9,aI c.1)],[(1,.box 26 (B3 a)),(7020,.row 3 1 (c.2.map aI))]⟩) fun _ _=>Ln.eq_2 ..
abbrev zgl {n a b}:=li (Ro n a b) (fun c=>⟨[(3,.row 6),(7,.sl 1 (a.map aI)),(8,aI (((a.map aI).length:Int))),(9,aI c.1)],[(6,.mp (List.map (encM aI AV.bool) (c.2)))]⟩) fun _ _=>Ro.eq_2 ..
abbrev zc8 {n a e d b}:=li (Hg n a e d b) (fun c=>⟨[(2,.ptr 2 0),(7,.ptr 7 0),(8,.mapv (List.map (encM aI AV.bool) (d))),(28,.sl 17 (a.fEdges.map A9)),(29,aI (((a.fEdges.map A9).length:Int))),(30,aI c.1)],[(2,.box 119 [.mapv [],.mapv []]),(7,.box 119 [.mapv (List.map (encM aI AV.bool) (e)),.row 23]),(23,.mp (List.map (encM aI AV.bool) (c.2)))]⟩) fun _ _=>Hg.eq_2 ..
attribute [instance] z8b z9w z88 z72 z2c z4j z90 zgl zc8
instance zhi {n d c}:CI E0 (Tu n d c) false 240 [aI d,.ref (B3 c)] (fun r=>.sl 1 (r.map aI)):=⟨fun {r} b=>by
 unfold Tu at b;refine cw Tryz.func240 ?_;repeat' first
  |refine aE b fun b=>?_
  |refine aC [6] ?_;conv=>whnf
  |refine aK b (fun b=>?_) fun b=>?_
  |refine aO ?_
  |refine aP ?_
  |refine aT b fun a b=>?_
  |refine aJ b fun x b=>?_
  |refine aR b fun l b=>?_
  |exact ⟨_,b,aA [(7027,27)]⟩
  |exact ⟨_,b,aA []⟩
  |refine aQ b ?_ fun m v b=>?_
  |exact aD (aH 4 7027 3 1 rfl rfl) (aA [])
  |refine AndA ?_
  |refine aF ?_
  |exact aB b⟩
def zaz (b:Int)(a2bc0:Ad)(a:(List Bool)):List (Nat×Ent):=[(100000,.box 44 [.row 200000]),(200000,.row 4 1 (a.map AV.bool)),(100001,.box 332 [.fn 284 [.ptr 100000 0,.ref [.fn 240 [.ref (B3 a2bc0)]],.ptr 100001 0]])]
def Lr (a2bc0:Ad)(r:(List Bool)):List (Nat×Ent):=[(100000,.box 44 [.row 250000]),(250000,.row 4 1 (r.map AV.bool)),(100001,.box 332 [.fn 284 [.ptr 100000 0,.ref [.fn 240 [.ref (B3 a2bc0)]],.ptr 100001 0]])]
def Ql (r:(List Bool)):AV:=.tup []
def zaw (a2bc0:Ad)(r:(List Bool)):AS:=⟨[(1,.ptr 100000 0),(3,.ptr 100001 0)],Lr a2bc0 r⟩
theorem z1k {n c a2bc0 d r}(b:Lx n c a2bc0 d=some r):ConG E0.P none (CalF E0.P 284 0) [aI c,.ptr 100000 0,.ref [.fn 240 [.ref (B3 a2bc0)]],.ptr 100001 0] [] (zaz c a2bc0 d) (Ql r) (Lr a2bc0 r):=by
 induction n generalizing c a2bc0 d r
 case zero=>cases b
 case succ n e =>
 unfold Lx at b;refine aV (E:=(E0p 4)) (caps:=[]) _ aG rfl rfl rfl rfl rfl ?_;repeat' first
  |refine aM ?_;conv=>whnf
  |refine aK b (fun b=>?_) fun b=>?_
  |refine aO ?_
  |refine aP ?_
  |refine NatX.o b (fun m b=>?_)
  |refine EltX.o AV.bool b (fun x b=>?_)
  |refine GX.o (res:=Ql) (meF:=(Lr a2bc0)) b ?_;exact GX.mk (zaw a2bc0 _) (aA [(250000,200000)]) rfl _ rfl (by repeat' first|exact Sub.nil _|exact Sub.refl _|refine Sub.agg ?_|refine Sub.tup ?_|refine Sub.fn ?_|exact SubL.nil|refine SubL.cons ?_ ?_|refine Sub.sl _ ?_|exact SubE.nil|refine SubE.cons ?_ ?_) [] trivial rfl
  |refine SetX.o AV.bool b (fun x=>rfl) (fun x=>(by first|exact aL _|(repeat' first|exact SubL.nil|refine SubL.cons ?_ ?_|exact Sub.refl _|exact Sub.nil _|refine Sub.agg ?_))) (fun l b=>?_)
  |refine aT b fun a b=>?_
  |refine aJ b fun x b=>?_
  |refine B7.oM (Bg 24 b) [(100000,100000),(100001,100001),(200000,200000)] [(100000,100000),(250000,25000001),(100001,100001)] _ _ (Lr a2bc0) Ql [200000] (fun a h=>aN (e h)) (B0 aG rfl rfl) rfl rfl rfl ⟨⟨rfl,rfl⟩,⟨⟨rfl,rfl⟩,⟨⟨rfl,rfl⟩,trivial⟩⟩⟩ (fun a=>⟨rfl,rfl,rfl,rfl,rfl,rfl,rfl,rfl⟩) (fun a b=>?_)
  |refine bO (Bg 24 b) [(100000,100000),(100001,100001),(200000,200000)] [(100000,100000),(250000,25000001),(100001,100001)] _ _ (Lr a2bc0) Ql [200000] (fun a h=>aN (e h)) (B0 aG rfl rfl) rfl rfl rfl ⟨⟨rfl,rfl⟩,⟨⟨rfl,rfl⟩,⟨⟨rfl,rfl⟩,trivial⟩⟩⟩ (fun a=>⟨rfl,rfl,rfl,rfl,rfl,rfl,rfl,rfl⟩) (fun a b=>?_)
  |exact ⟨_,b,aA [(200000,25000001)]⟩
  |refine aQ b (aA []) fun m v b=>?_
  |refine AndA ?_
  |refine aF ?_
instance zr5 {n e d b}:CI E0 (Vk n e d b) false 239 [Bi e,.sl 1 (d.map aI),.fn 240 [.ref (B3 b)]] (fun r=>.sl 1 (r.map AV.bool)):=⟨fun {r} c=>by
 unfold Vk at c;refine cw bR ?_;repeat' first
  |refine aE c fun c=>?_
  |refine aY c 5 rfl (fun c=>?_)
  |refine aC [7] ?_;conv=>whnf
  |refine aK c (fun c=>?_) fun c=>?_
  |refine aO ?_
  |refine aP ?_
  |refine MakX.o AV.bool c (by first|exact aL _|(repeat' first|exact SubL.nil|refine SubL.cons ?_ ?_|exact Sub.refl _|exact Sub.nil _|refine Sub.agg ?_)) (fun l c=>?_)
  |refine aJ c fun x c=>?_
  |refine B7.oM (Bg 24 c) [(100000,7),(100001,8),(200000,7014)] [(100000,7),(250000,25000001),(100001,8)] _ _ (Lr b) Ql [7014] (fun a h=>aN (z1k h)) (B0 aG rfl rfl) rfl rfl rfl ⟨⟨rfl,rfl⟩,⟨⟨rfl,rfl⟩,⟨⟨rfl,rfl⟩,trivial⟩⟩⟩ (fun a=>⟨rfl,rfl,rfl,rfl,rfl,rfl,rfl,rfl⟩) (fun a c=>?_)
  |refine bO (Bg 24 c) [(100000,7),(100001,8),(200000,7014)] [(100000,7),(250000,25000001),(100001,8)] _ _ (Lr b) Ql [7014] (fun a h=>aN (z1k h)) (B0 aG rfl rfl) rfl rfl rfl ⟨⟨rfl,rfl⟩,⟨⟨rfl,rfl⟩,⟨⟨rfl,rfl⟩,trivial⟩⟩⟩ (fun a=>⟨rfl,rfl,rfl,rfl,rfl,rfl,rfl,rfl⟩) (fun a c=>?_)
  |exact ⟨_,c,aA [(7014,25000001)]⟩
  |refine aQ c ?_ fun m v c=>?_
  |exact aD (LeX.frb 5 rfl rfl) (aA [(7014,14)])
  |refine AndA ?_
  |refine aF ?_
  |exact aB c⟩
instance zkr {n c}:CI E0 (Yf n c) false 184 [Bi c] (fun r=>.sl 1 (r.map AV.bool)):=⟨fun {r} b=>by
 unfold Yf at b;refine cw Tryz.func184 ?_;repeat' first
  |refine AW.frbO b 1 rfl rfl (fun b=>?_)
  |refine aE b fun b=>?_
  |refine aY b 1 rfl (fun b=>?_)
  |refine aC [1] ?_;conv=>whnf
  |refine aK b (fun b=>?_) fun b=>?_
  |refine aO ?_
  |refine aP ?_
  |refine aT b fun a b=>?_
  |refine AndA ?_
  |refine aF ?_
  |exact aB b⟩
instance zoi {n b}:CI E0 (V2 n b) false 183 [.sl 1 (b.map AV.bool)] (fun r=>.sl 1 (r.map aI)):=⟨fun {r} a=>by
 unfold V2 at a;refine cw Tryz.func183 ?_;repeat' first
  |refine aE a fun a=>?_
  |refine aC [5] ?_;conv=>whnf
  |refine aK a (fun a=>?_) fun a=>?_
  |refine aO ?_
  |refine aP ?_
  |refine aJ a fun x a=>?_
  |refine aR a fun l a=>?_
  |exact ⟨_,a,aA [(7017,17)]⟩
  |exact ⟨_,a,aA []⟩
  |refine aQ a ?_ fun m v a=>?_
  |exact aD (aH 3 7017 3 1 rfl rfl) (aA [])
  |refine AndA ?_
  |refine aF ?_
  |exact aB a⟩
instance zks {n a}:CI E0 (U9 n a) false 112 [Bi a] (fun r=>.tup [.sl 1 (r.1.map aI),aI r.2]):=by unfold U9;exact aS [] Tryz.func112
instance zlu {n c b}:CI E0 (Yt n c b) false 241 [aI c,.ref (B3 b)] (fun r=>.sl 1 (r.map aI)):=⟨fun {r} a=>by
 unfold Yt at a;refine cw Tryz.func241 ?_;repeat' first
  |refine aE a fun a=>?_
  |refine aC [5] ?_;conv=>whnf
  |refine aK a (fun a=>?_) fun a=>?_
  |refine aO ?_
  |refine aP ?_
  |refine aJ a fun x a=>?_
  |refine aR a fun l a=>?_
  |exact ⟨_,a,aA [(7022,22)]⟩
  |exact ⟨_,a,aA []⟩
  |refine aQ a ?_ fun m v a=>?_
  |exact aD (aH 4 7022 3 1 rfl rfl) (aA [])
  |refine AndA ?_
  |refine aF ?_
  |exact aB a⟩
def z5x (b:Int)(a2bc0:Ad)(a:(List Bool)):List (Nat×Ent):=[(100000,.box 44 [.row 200000]),(200000,.row 4 1 (a.map AV.bool)),(100001,.box 332 [.fn 284 [.ptr 100000 0,.ref [.fn 241 [.ref (B3 a2bc0)]],.ptr 100001 0]])]
def Kb (a2bc0:Ad)(r:(List Bool)):List (Nat×Ent):=[(100000,.box 44 [.row 250000]),(250000,.row 4 1 (r.map AV.bool)),(100001,.box 332 [.fn 284 [.ptr 100000 0,.ref [.fn 241 [.ref (B3 a2bc0)]],.ptr 100001 0]])]
def Oq (r:(List Bool)):AV:=.tup []
def z5t (a2bc0:Ad)(r:(List Bool)):AS:=⟨[(1,.ptr 100000 0),(3,.ptr 100001 0)],Kb a2bc0 r⟩
theorem z0s {n c a2bc0 d r}(b:Km n c a2bc0 d=some r):ConG E0.P none (CalF E0.P 284 0) [aI c,.ptr 100000 0,.ref [.fn 241 [.ref (B3 a2bc0)]],.ptr 100001 0] [] (z5x c a2bc0 d) (Oq r) (Kb a2bc0 r):=by
 induction n generalizing c a2bc0 d r
 case zero=>cases b
 case succ n e =>
 unfold Km at b;refine aV (E:=(E0p 4)) (caps:=[]) _ aG rfl rfl rfl rfl rfl ?_;repeat' first
  |refine aM ?_;conv=>whnf
  |refine aK b (fun b=>?_) fun b=>?_
  |refine aO ?_
  |refine aP ?_
  |refine NatX.o b (fun m b=>?_)
  |refine EltX.o AV.bool b (fun x b=>?_)
  |refine GX.o (res:=Oq) (meF:=(Kb a2bc0)) b ?_;exact GX.mk (z5t a2bc0 _) (aA [(250000,200000)]) rfl _ rfl (by repeat' first|exact Sub.nil _|exact Sub.refl _|refine Sub.agg ?_|refine Sub.tup ?_|refine Sub.fn ?_|exact SubL.nil|refine SubL.cons ?_ ?_|refine Sub.sl _ ?_|exact SubE.nil|refine SubE.cons ?_ ?_) [] trivial rfl
  |refine SetX.o AV.bool b (fun x=>rfl) (fun x=>(by first|exact aL _|(repeat' first|exact SubL.nil|refine SubL.cons ?_ ?_|exact Sub.refl _|exact Sub.nil _|refine Sub.agg ?_))) (fun l b=>?_)
  |refine aT b fun a b=>?_
  |refine aJ b fun x b=>?_
  |refine B7.oM (Bg 24 b) [(100000,100000),(100001,100001),(200000,200000)] [(100000,100000),(250000,25000001),(100001,100001)] _ _ (Kb a2bc0) Oq [200000] (fun a h=>aN (e h)) (B0 aG rfl rfl) rfl rfl rfl ⟨⟨rfl,rfl⟩,⟨⟨rfl,rfl⟩,⟨⟨rfl,rfl⟩,trivial⟩⟩⟩ (fun a=>⟨rfl,rfl,rfl,rfl,rfl,rfl,rfl,rfl⟩) (fun a b=>?_)
  |refine bO (Bg 24 b) [(100000,100000),(100001,100001),(200000,200000)] [(100000,100000),(250000,25000001),(100001,100001)] _ _ (Kb a2bc0) Oq [200000] (fun a h=>aN (e h)) (B0 aG rfl rfl) rfl rfl rfl ⟨⟨rfl,rfl⟩,⟨⟨rfl,rfl⟩,⟨⟨rfl,rfl⟩,trivial⟩⟩⟩ (fun a=>⟨rfl,rfl,rfl,rfl,rfl,rfl,rfl,rfl⟩) (fun a b=>?_)
  |exact ⟨_,b,aA [(200000,25000001)]⟩
  |refine aQ b (aA []) fun m v b=>?_
  |refine AndA ?_
  |refine aF ?_
instance ziu {n e d b}:CI E0 (Pz n e d b) false 239 [Bi e,.sl 1 (d.map aI),.fn 241 [.ref (B3 b)]] (fun r=>.sl 1 (r.map AV.bool)):=⟨fun {r} c=>by
 unfold Pz at c;refine cw bR ?_;repeat' first
  |refine aE c fun c=>?_
  |refine aY c 5 rfl (fun c=>?_)
  |refine aC [7] ?_;conv=>whnf
  |refine aK c (fun c=>?_) fun c=>?_
  |refine aO ?_
  |refine aP ?_
  |refine MakX.o AV.bool c (by first|exact aL _|(repeat' first|exact SubL.nil|refine SubL.cons ?_ ?_|exact Sub.refl _|exact Sub.nil _|refine Sub.agg ?_)) (fun l c=>?_)
  |refine aJ c fun x c=>?_
  |refine B7.oM (Bg 24 c) [(100000,7),(100001,8),(200000,7014)] [(100000,7),(250000,25000001),(100001,8)] _ _ (Kb b) Oq [7014] (fun a h=>aN (z0s h)) (B0 aG rfl rfl) rfl rfl rfl ⟨⟨rfl,rfl⟩,⟨⟨rfl,rfl⟩,⟨⟨rfl,rfl⟩,trivial⟩⟩⟩ (fun a=>⟨rfl,rfl,rfl,rfl,rfl,rfl,rfl,rfl⟩) (fun a c=>?_)
  |refine bO (Bg 24 c) [(100000,7),(100001,8),(200000,7014)] [(100000,7),(250000,25000001),(100001,8)] _ _ (Kb b) Oq [7014] (fun a h=>aN (z0s h)) (B0 aG rfl rfl) rfl rfl rfl ⟨⟨rfl,rfl⟩,⟨⟨rfl,rfl⟩,⟨⟨rfl,rfl⟩,trivial⟩⟩⟩ (fun a=>⟨rfl,rfl,rfl,rfl,rfl,rfl,rfl,rfl⟩) (fun a c=>?_)
  |exact ⟨_,c,aA [(7014,25000001)]⟩
  |refine aQ c ?_ fun m v c=>?_
  |exact aD (LeX.frb 5 rfl rfl) (aA [(7014,14)])
  |refine AndA ?_
  |refine aF ?_
  |exact aB c⟩
instance zp7 {n c}:CI E0 (Yw n c) false 185 [Bi c] (fun r=>.sl 1 (r.map AV.bool)):=⟨fun {r} b=>by
 unfold Yw at b;refine cw Tryz.func185 ?_;repeat' first
  |refine AW.frbO b 1 rfl rfl (fun b=>?_)
  |refine aE b fun b=>?_
  |refine aY b 7020 rfl (fun b=>?_)
  |refine aY b 1 rfl (fun b=>?_)
  |refine aC [8,5] ?_;conv=>whnf
  |refine aK b (fun b=>?_) fun b=>?_
  |refine aO ?_
  |refine aP ?_
  |refine aT b fun a b=>?_
  |refine aJ b fun x b=>?_
  |refine aR b fun l b=>?_
  |exact ⟨_,b,aA [(7020,20)]⟩
  |exact ⟨_,b,aA []⟩
  |refine aQ b ?_ fun m v b=>?_
  |exact aD (aH 3 7020 3 1 rfl rfl) (aA [])
  |refine AndA ?_
  |refine aF ?_
  |exact aB b⟩
instance zpc {n a}:CI E0 (Vc n a) false 113 [Bi a] (fun r=>.tup [.sl 1 (r.1.map aI),aI r.2]):=by unfold Vc;exact aS [] Tryz.func113
theorem Dc (a b:Int):eqK (aI a) (aI b)=some (decide (a=b)):=by simp [eqK,eq1,aI,J9]
instance y0e {n b}:CI E0 (Wc n b) false 114 [.sl 1 (b.map aI)] (fun r=>.mapv (List.map (encM aI AV.bool) (r))):=⟨fun {r} a=>by
 unfold Wc at a;refine cw Tryz.func114 ?_;repeat' first
  |refine aM ?_;conv=>whnf
  |refine aK a (fun a=>?_) fun a=>?_
  |refine aO ?_
  |refine aP ?_
  |refine aJ a fun x a=>?_
  |refine UpX.o aI AV.bool a (by first|rfl|kernel_rfl) Dc (by repeat' first|exact Sub.nil _|exact Sub.refl _|refine Sub.agg ?_|refine Sub.tup ?_|refine Sub.fn ?_|exact SubL.nil|refine SubL.cons ?_ ?_|refine Sub.sl _ ?_|exact SubE.nil|refine SubE.cons ?_ ?_) (fun l a=>?_)
  |exact ⟨_,a,aA []⟩
  |refine aQ a (aA []) fun m v a=>?_
  |refine AndA ?_
  |refine aF ?_
  |exact aB a⟩
end
noncomputable section
abbrev z4a {n e f g a b c}:=jt (Fu n e f g a b c) (fun d=>⟨[(3,.sl 1 (List.map (fun q=>AV.mapv (List.map (encM aI AV.bool) q)) (e))),(4,.ptr 4 0),(6,.ptr 6 0),(9,.row 13),(10,aI b.1),(12,.bool (d)),(15,aI g.fScopes),(16,aI b.1)],[(4,.box 119 [.mapv (List.map (encM aI AV.bool) (a.freachable)),.mapv (List.map (encM aI AV.bool) (a.finner))]),(6,.box 149 (Bp f)),(13,.mp (List.map (encM aI AV.bool) (b.2)))]⟩) fun _=>Fu.eq_1 ..
abbrev z4b {n f g h a b c d}:=jt (Gn n f g h a b c d) (fun e=>⟨[(3,.sl 1 (List.map (fun q=>AV.mapv (List.map (encM aI AV.bool) q)) (f))),(4,.ptr 4 0),(6,.ptr 6 0),(9,.row 13),(10,aI b.1),(11,.bool (d)),(12,.bool (e)),(15,aI h.fScopes),(16,aI b.1)],[(4,.box 119 [.mapv (List.map (encM aI AV.bool) (a.freachable)),.mapv (List.map (encM aI AV.bool) (a.finner))]),(6,.box 149 (Bp g)),(13,.mp (List.map (encM aI AV.bool) (b.2)))]⟩) fun _=>Gn.eq_1 ..
abbrev z49 {n d e f a b}:=li (F6 n d e f a b) (fun c=>⟨[(3,.sl 1 (List.map (fun q=>AV.mapv (List.map (encM aI AV.bool) q)) (d))),(4,.ptr 4 0),(6,.ptr 6 0),(9,.row 13),(15,aI f.fScopes),(16,aI c.1)],[(4,.box 119 [.mapv (List.map (encM aI AV.bool) (a.freachable)),.mapv (List.map (encM aI AV.bool) (a.finner))]),(6,.box 149 (Bp e)),(13,.mp (List.map (encM aI AV.bool) (c.2)))]⟩) fun _ _=>F6.eq_2 ..
abbrev zbb {n a b}:=li (Ly n a b) (fun c=>⟨[(1,.mapv (List.map (encM aI AV.bool) (a))),(5,.row 7),(9,.ptr 9 0)],[(9,.it (List.map (encM aI AV.bool) (c.1))),(7,.mp (List.map (encM aI AV.bool) (c.2)))]⟩) fun _ _=>Ly.eq_2 ..
abbrev z3a {n a f b d c}:=jf (Fq n a f b d c) (fun e=>⟨[(2,.ptr 2 0),(3,.ptr 3 0),(5,.row 15),(8,.bool (b.1)),(10,.ptr 10 0),(40,.sl 17 (a.fEdges.map A9)),(41,aI (((a.fEdges.map A9).length:Int))),(42,aI b.2.1),(64,.bool (e))],[(2,.box 119 [.mapv (List.map (encM aI AV.bool) (f.freachable)),.mapv (List.map (encM aI AV.bool) (f.finner))]),(3,.box 26 (B3 a)),(10,.box 149 (Bp c)),(15,.row 112 1 (List.map (fun q=>AV.mapv (List.map (encM aI AV.bool) q)) (b.2.2)))]⟩) fun _=>Fq.eq_1 ..
abbrev z36 {n a d c}:=li (F5 n a d c) (fun b=>⟨[(2,.ptr 2 0),(3,.ptr 3 0),(5,.row 15),(8,.bool (b.1)),(40,.sl 17 (a.fEdges.map A9)),(41,aI (((a.fEdges.map A9).length:Int))),(42,aI b.2.1)],[(2,.box 119 [.mapv (List.map (encM aI AV.bool) (d.freachable)),.mapv (List.map (encM aI AV.bool) (d.finner))]),(3,.box 26 (B3 a)),(15,.row 112 1 (List.map (fun q=>AV.mapv (List.map (encM aI AV.bool) q)) (b.2.2)))]⟩) fun _ _=>F5.eq_2 ..
abbrev z37 {n d a b}:=li (I2 n d a b) (fun c=>⟨[(2,.ptr 2 0),(3,.ptr 3 0),(5,.row 15),(8,.bool (c.1))],[(2,.box 119 [.mapv (List.map (encM aI AV.bool) (a.freachable)),.mapv (List.map (encM aI AV.bool) (a.finner))]),(3,.box 26 (B3 d)),(15,.row 112 1 (List.map (fun q=>AV.mapv (List.map (encM aI AV.bool) q)) (c.2)))]⟩) fun _ _=>I2.eq_2 ..
abbrev z35 {n a g d b e f}:=li (O7 n a g d b e f) (fun c=>⟨[(2,.ptr 2 0),(3,.ptr 3 0),(5,.cont (d.1) 15),(6,aI b.1),(18,.ptr 18 0),(28,aI a.fScopes),(29,aI c.1)],[(2,.box 119 [.mapv (List.map (encM aI AV.bool) (g.freachable)),.mapv (List.map (encM aI AV.bool) (g.finner))]),(3,.box 26 (B3 a)),(15,.are 112 (c.2).1 (List.map (enO aI AV.bool) (c.2).2)),(18,.itc (encM aI AV.bool b) (List.map (encM aI AV.bool) (e)))]⟩) fun _ _=>O7.eq_2 ..
abbrev z38 {n d a c}:=li (Jx n d a c) (fun b=>⟨[(2,.ptr 2 0),(3,.ptr 3 0),(5,.cont (b.1) 15),(18,.ptr 18 0)],[(2,.box 119 [.mapv (List.map (encM aI AV.bool) (a.freachable)),.mapv (List.map (encM aI AV.bool) (a.finner))]),(3,.box 26 (B3 d)),(15,.are 112 (b.2.1).1 (List.map (enO aI AV.bool) (b.2.1).2)),(18,.it (List.map (encM aI AV.bool) (b.2.2)))]⟩) fun _ _=>Jx.eq_2 ..
abbrev z96 {n b a c}:=li (Qb n b a c) (fun d=>⟨[(3,.row 7016),(6,.sl 8 (a.map idA)),(7,aI (((a.map idA).length:Int))),(8,aI d.1)],[(7016,.row 146 8 (d.2.map idA))]⟩) fun _ _=>Qb.eq_2 ..
abbrev z3e {n a b}:=li (O9 n a b) (fun c=>⟨[(3,.row 7016),(6,.sl 8 (a.map idA)),(7,aI (((a.map idA).length:Int))),(8,aI c.1)],[(7016,.row 146 8 (c.2.map idA))]⟩) fun _ _=>O9.eq_2 ..
attribute [instance] z4a z4b z49 zbb z3a z36 z37 z35 z38 z96 z3e
instance zv6 {n d}:CI E0 (Rn n d) false 54 [Bi d] (fun r=>.agg [.mapv (List.map (encM aI AV.bool) (r.freachable)),.mapv (List.map (encM aI AV.bool) (r.finner))]):=⟨fun {r} c=>by
 unfold Rn at c;refine cw Tryz.func54 ?_;repeat' first
  |refine aE c fun c=>?_
  |refine aC [8] ?_;conv=>whnf
  |refine aK c (fun c=>?_) fun c=>?_
  |refine aO ?_
  |refine aP ?_
  |refine aT c fun a c=>?_
  |refine aJ c fun x c=>?_
  |refine bF aI AV.bool c Dc rfl rfl rfl rfl rfl rfl rfl rfl rfl rfl (by first|rfl|kernel_rfl) (by repeat' first|exact Sub.nil _|exact Sub.refl _|refine Sub.agg ?_|refine Sub.tup ?_|refine Sub.fn ?_|exact SubL.nil|refine SubL.cons ?_ ?_|refine Sub.sl _ ?_|exact SubE.nil|refine SubE.cons ?_ ?_) (fun v b c=>?_)
  |refine UpX.o aI AV.bool c (by first|rfl|kernel_rfl) Dc (by repeat' first|exact Sub.nil _|exact Sub.refl _|refine Sub.agg ?_|refine Sub.tup ?_|refine Sub.fn ?_|exact SubL.nil|refine SubL.cons ?_ ?_|refine Sub.sl _ ?_|exact SubE.nil|refine SubE.cons ?_ ?_) (fun l c=>?_)
  |exact ⟨_,c,aA []⟩
  |refine aQ c (aA []) fun m v c=>?_
  |refine AndA ?_
  |refine aF ?_
  |exact aB c⟩
def z1b (r:(List (Int×Bool))):AV:=.mapv (List.map (encM aI AV.bool) (r))
theorem z4i {n d g f e r}(c:Y5 n d g f e=some r):Con E0 true 116 [.agg [.mapv (List.map (encM aI AV.bool) (d.freachable)),.mapv (List.map (encM aI AV.bool) (d.finner))],Bi g,A9 f,.sl 1 (List.map (fun q=>AV.mapv (List.map (encM aI AV.bool) q)) (e))] (z1b r):=by
 unfold Y5 at c;refine ConF.walk _ bS rfl (B0 bS rfl rfl) rfl ?_;repeat' first
  |refine AW.jI2 c (fun v c=>?_) fun c=>?_
  |refine aE c fun c=>?_
  |refine aC [7,8,9,10,11] ?_;conv=>whnf
  |refine aK c (fun c=>?_) fun c=>?_
  |refine aO ?_
  |refine aP ?_
  |refine aT c fun a c=>?_
  |refine UpX.o aI AV.bool c (by first|rfl|kernel_rfl) Dc (by repeat' first|exact Sub.nil _|exact Sub.refl _|refine Sub.agg ?_|refine Sub.tup ?_|refine Sub.fn ?_|exact SubL.nil|refine SubL.cons ?_ ?_|refine Sub.sl _ ?_|exact SubE.nil|refine SubE.cons ?_ ?_) (fun l c=>?_)
  |exact ⟨_,c,aA []⟩
  |refine bF aI AV.bool c Dc rfl rfl rfl rfl rfl rfl rfl rfl rfl rfl (by first|rfl|kernel_rfl) (by repeat' first|exact Sub.nil _|exact Sub.refl _|refine Sub.agg ?_|refine Sub.tup ?_|refine Sub.fn ?_|exact SubL.nil|refine SubL.cons ?_ ?_|refine Sub.sl _ ?_|exact SubE.nil|refine SubE.cons ?_ ?_) (fun v b c=>?_)
  |refine IdxX.o (fun q=>AV.mapv (List.map (encM aI AV.bool) q)) c fun x c=>?_
  |refine aQ c (aA []) fun m v c=>?_
  |refine AndA ?_
  |refine aF ?_
  |refine FX.o (en:=fun r=>List.map (encM aI AV.bool) r) c ?_;exact FX.mk _ 13 (LeX.refl _ _ _) rfl rfl (zxh (fun _=>rfl) (fun _=>rfl)) (bT rfl)
instance zul {n d c}:CI E0 (Rg n d c) false 115 [.mapv (List.map (encM aI AV.bool) (d)),.mapv (List.map (encM aI AV.bool) (c))] (fun r=>.mapv (List.map (encM aI AV.bool) (r))):=⟨fun {r} a=>by
 unfold Rg at a;refine cw Tryz.func115 ?_;repeat' first
  |refine AW.frsO AV.bool a 7 rfl (fun a=>?_)
  |refine bU (encM aI AV.bool) a 9 rfl (fun x s a=>?_)
  |refine aE a fun a=>?_
  |refine aY a 7 rfl (fun a=>?_)
  |refine aC [7,5,4] ?_;conv=>whnf
  |refine aK a (fun a=>?_) fun a=>?_
  |refine aO ?_
  |refine aP ?_
  |refine bV rfl rfl rfl rfl rfl rfl rfl rfl ?_
  |refine bW (encM aI AV.bool) a rfl rfl rfl rfl rfl (fun a=>?_) (fun a=>?_)
  |refine bX rfl rfl rfl rfl rfl ?_
  |refine bF aI AV.bool a Dc rfl rfl rfl rfl rfl rfl rfl rfl rfl rfl (by first|rfl|kernel_rfl) (by repeat' first|exact Sub.nil _|exact Sub.refl _|refine Sub.agg ?_|refine Sub.tup ?_|refine Sub.fn ?_|exact SubL.nil|refine SubL.cons ?_ ?_|refine Sub.sl _ ?_|exact SubE.nil|refine SubE.cons ?_ ?_) (fun v b a=>?_)
  |refine UpX.o aI AV.bool a (by first|rfl|kernel_rfl) Dc (by repeat' first|exact Sub.nil _|exact Sub.refl _|refine Sub.agg ?_|refine Sub.tup ?_|refine Sub.fn ?_|exact SubL.nil|refine SubL.cons ?_ ?_|refine Sub.sl _ ?_|exact SubE.nil|refine SubE.cons ?_ ?_) (fun l a=>?_)
  |exact ⟨_,a,aD (bY 9 rfl) (aA [])⟩
  |refine aQ a (aA []) fun m v a=>?_
  |refine AndA ?_
  |refine aF ?_
  |exact aB a⟩
instance zhf {n d e}:CI E0 (Tt n d e) false 55 [.agg [.mapv (List.map (encM aI AV.bool) (d.freachable)),.mapv (List.map (encM aI AV.bool) (d.finner))],Bi e] (fun r=>.sl 1 (List.map (fun q=>AV.mapv (List.map (encM aI AV.bool) q)) (r))):=⟨fun {r} c=>by
 unfold Tt at c;refine cw Tryz.func55 ?_;repeat' first
  |refine AW.areO aI AV.bool c 15 rfl (fun c=>?_)
  |refine AW.froO aI AV.bool c 15 rfl (fun c=>?_)
  |refine bM c (fun v c=>?_) fun c=>?_
  |refine bU (encM aI AV.bool) c 18 rfl (fun x s c=>?_)
  |refine aE c fun c=>?_
  |refine aC [17,19,11,4,2] ?_;conv=>whnf
  |refine aK c (fun c=>?_) fun c=>?_
  |refine aO ?_
  |refine aP ?_
  |refine MakX.om c (fun m c=>?_)
  |refine bV rfl rfl rfl rfl rfl rfl rfl rfl ?_
  |exact ⟨_,c,aD (bY 18 rfl) (aA [])⟩
  |exact ⟨_,c,aA []⟩
  |refine aJ c fun x c=>?_
  |refine NatX.o c (fun m c=>?_)
  |refine EltX.o (fun q=>AV.mapv (List.map (encM aI AV.bool) q)) c (fun x c=>?_)
  |refine B7.o c z1b (fun a h=>z4i h) (fun _=>bT rfl) (fun a c=>?_)
  |refine aT c fun a c=>?_
  |refine OpX.lnv rfl rfl rfl rfl rfl rfl ?_
  |refine SetX.o (fun q=>AV.mapv (List.map (encM aI AV.bool) q)) c (fun x=>rfl) (fun x=>(by first|exact aL _|(repeat' first|exact SubL.nil|refine SubL.cons ?_ ?_|exact Sub.refl _|exact Sub.nil _|refine Sub.agg ?_))) (fun l c=>?_)
  |refine bF aI AV.bool c Dc rfl rfl rfl rfl rfl rfl rfl rfl rfl rfl (by first|rfl|kernel_rfl) (by repeat' first|exact Sub.nil _|exact Sub.refl _|refine Sub.agg ?_|refine Sub.tup ?_|refine Sub.fn ?_|exact SubL.nil|refine SubL.cons ?_ ?_|refine Sub.sl _ ?_|exact SubE.nil|refine SubE.cons ?_ ?_) (fun v b c=>?_)
  |refine aQ c (aA []) fun m v c=>?_
  |refine bW (encM aI AV.bool) c rfl rfl rfl rfl rfl (fun c=>?_) (fun c=>?_)
  |refine bX rfl rfl rfl rfl rfl ?_
  |refine OpX.ixc c rfl rfl rfl rfl rfl rfl rfl rfl (fun c=>?_)
  |refine OpX.ast aI AV.bool c rfl rfl rfl rfl rfl rfl rfl rfl rfl rfl rfl (fun m c=>?_)
  |refine OpX.aob c rfl rfl rfl rfl rfl rfl rfl (fun j c=>?_)
  |refine OpX.aup AV.bool c (bT rfl) rfl rfl rfl rfl rfl rfl rfl rfl rfl (by first|rfl|kernel_rfl) rfl rfl (fun l c=>?_)
  |refine AndA ?_
  |refine aF ?_
  |exact aB c⟩
def z3j (r:(List AV)):AV:=.sl 8 (r.map idA)
theorem z9v {n:Nat}{b:Ay->Option (Ay)}{d:(List AV)}{r:(List AV)}(e:∀ {d:Ay} {r:Ay},b d=some r->Con E0 false 186 [Au d] ((Au r)))(c:Yx n b d=some r):Con E0 false 187 [.sl 8 (d.map idA)] (z3j r):=by
 unfold Yx at c;refine Con.walk _ aZ rfl (B0 aZ rfl rfl) rfl (bT rfl) ?_;repeat' first
  |refine aM ?_;conv=>whnf
  |refine aK c (fun c=>?_) fun c=>?_
  |refine aO ?_
  |refine aP ?_
  |refine bG c Dg (fun x c=>?_)
  |refine Ab.o c (fun r=>.agg [aI (r.fOp),.sl 8 (r.fArgs.map idA),aI (r.fVar),aI (r.fField),aI (r.fKind),aI (r.fValue.fKind),aI (r.fValue.fNum),.str (r.fValue.fText)]) (fun a h=>e h) (fun a c=>?_)
  |refine aR c fun l c=>?_
  |exact ⟨_,c,aA [(7016,16)]⟩
  |refine aQ c ?_ fun m v c=>?_
  |exact aD (aH 3 7016 146 8 rfl rfl) (aA [])
  |refine AndA ?_
  |refine aF ?_
  |exact aB c
theorem z87 {n c r}(b:Gb n c=some r):Con E0 false 186 [Au c] ((Au r)):=by
 induction n generalizing c r
 case zero=>cases b
 case succ n d =>
 unfold Gb at b;refine cw Tryz.func186 ?_;repeat' first
  |refine aM ?_;conv=>whnf
  |refine aK b (fun b=>?_) fun b=>?_
  |refine aO ?_
  |refine aP ?_
  |refine Ab.o b z3j (fun a h=>z9v d h) (fun a b=>?_)
  |refine AndA ?_
  |refine aF ?_
  |exact aB b
instance zpb {n a}:CI E0 (Gb n a) false 186 [Au a] Au:=⟨z87⟩
instance zhj {n c}:CI E0 (Xy n c) false 187 [.sl 8 (c.map idA)] (fun r=>.sl 8 (r.map idA)):=⟨fun {r} b=>by
 unfold Xy at b;refine cw aZ ?_;repeat' first
  |refine aM ?_;conv=>whnf
  |refine aK b (fun b=>?_) fun b=>?_
  |refine aO ?_
  |refine aP ?_
  |refine bG b Dg (fun x b=>?_)
  |refine aT b fun a b=>?_
  |refine aR b fun l b=>?_
  |exact ⟨_,b,aA [(7016,16)]⟩
  |refine aQ b ?_ fun m v b=>?_
  |exact aD (aH 3 7016 146 8 rfl rfl) (aA [])
  |refine AndA ?_
  |refine aF ?_
  |exact aB b⟩
set_option maxHeartbeats 400000 in
theorem zor (l:List (Cel 1))(S:Nat->Prop)(v:Value)(w:World)(h:Sl w S 1 encC v l)(d:l.length<=1000000000) :
  Calls bD 188 #[v] w (Nj 3 1 encC l w):=by
 have eok:EOk bD 43 3 1 8 (encC (n:=1)):=eokC (sz:=1) (E1 43 _ rfl) rfl (E1 3 _ rfl) (by omega) rfl;obtain ⟨A,c,rfl,f,_⟩:=h.form;have a:=fun (W:World)=>Lib.run_eql_slice_nil W 43 3 A l.length c 0 0 Tryz.underlying43
 have H:=hide h;cases A with
 |none =>
  have g:l=[]:=h.none_nil;subst g;clear h H d f;simp only [length_nil,Option.isNone_none] at a ⊢
  go_enter bA,bK
  go_wp2
  go_ret
  exact ⟨none,0,rfl,Own.nil_,by go_grown⟩
 |some ad =>
  clear h
  go_enter bA,bK
  go_wp2_with (at_builtin;refine M5 rfl _ _ rfl eok rfl Own.made_ rfl (H.out.alloc _) (by simp;omega) (by omega) (by simp) ?_;intro A' i w1 b e _)
  go_ret
  exact ⟨A',i,rfl,b,(Own.made_ (sz:=1) (enc:=encC (n:=1))).grown ((Below.refl _ _).alloc (aW _) _) (aW _) (by simp) e⟩
theorem zkx {n a r}(b:Cm n a=some r):ConT E0 188 [.sl 1 (List.map aI a)] 3 1 (List.map aI r) (.row 0):=S1 rfl (B0 bA rfl rfl) zor b
theorem zoh {n a r}(b:Cm n a=some r):Con E0 false 188 [.sl 1 (List.map aI a)] (.sl 1 (List.map aI r)):=(zkx b).close rfl
end
noncomputable section
abbrev z9x {n d a b}:=li (Qk n d a b) (fun c=>⟨[(2,.ptr 2 0),(7,.row 7037),(23,.sl 1 (a.map aI)),(24,aI (((a.map aI).length:Int))),(25,aI c.1)],[(2,.box 26 (B3 d)),(7037,.row 149 17 (c.2.map A9))]⟩) fun _ _=>Qk.eq_2 ..
abbrev z32 {n b a c}:=li (O5 n b a c) (fun d=>⟨[(0,.sl 2 (a.map Bu)),(1,.fn 191 [.ref [aI b]]),(7,aI (((a.map Bu).length:Int))),(8,aI d)],[]⟩) fun _ _=>O5.eq_2 ..
abbrev zca {n c a}:=jf (J0 n c a) (fun b=>⟨[(2,.ptr 2 0),(6,aI a),(18,.bool (b))],[(2,.box 149 (Bp c))]⟩) fun _=>J0.eq_1 ..
abbrev zf6 {n a b d f e}:=li (Mb n a b d f e) (fun c=>⟨[(0,.sl 17 (a.map A9)),(6,aI b.1),(7,.bool (b.2.1)),(8,aI d.1),(9,aI c.1),(10,.bool (c.2.1)),(16,.ptr 16 0),(21,.sl 17 (a.map A9)),(22,aI (((a.map A9).length:Int))),(23,aI c.2.2)],[(16,.itc (encM aI AV.bool d) (List.map (encM aI AV.bool) (f)))]⟩) fun _ _=>Mb.eq_2 ..
abbrev zf7 {n a c}:=li (Hh n a c) (fun b=>⟨[(0,.sl 17 (a.map A9)),(6,aI b.1),(7,.bool (b.2.1)),(16,.ptr 16 0)],[(16,.it (List.map (encM aI AV.bool) (b.2.2)))]⟩) fun _ _=>Hh.eq_2 ..
abbrev zda {n d a e c}:=li (M7 n d a e c) (fun b=>⟨[(1,.ptr 1 0),(6,.ptr 6 0),(7,.sl 1 (List.map (fun q=>AV.mapv (List.map (encM aI AV.bool) q)) (e))),(8,.row 26),(9,.row 30),(33,aI (((d.fStates.map Ao).length:Int))),(34,aI b.1)],[(1,.box 26 (B3 d)),(6,.box 119 [.mapv (List.map (encM aI AV.bool) (a.freachable)),.mapv (List.map (encM aI AV.bool) (a.finner))]),(26,.row 3 1 (b.2.1.map aI)),(30,.row 4 1 (b.2.2.map AV.bool))]⟩) fun _ _=>M7.eq_2 ..
abbrev zcb {n d a b}:=li (Z3 n d a b) (fun c=>⟨[(1,aI d),(6,.sl 1 (a.1.map aI)),(7,.sl 1 (a.2.1.map AV.bool)),(9,aI c.1),(20,.ptr 20 0)],[(20,.it (List.map (encM aI AV.bool) (c.2)))]⟩) fun _ _=>Z3.eq_2 ..
abbrev z9t {n c a d}:=li (Qh n c a d) (fun b=>⟨[(1,.fn 263 [.ptr 100000 0]),(16,.sl 8 (a.fArgs.map idA)),(17,aI (((a.fArgs.map idA).length:Int))),(18,aI b.1)],[(100000,.box 318 [.bool (b.2.1),.bool (b.2.2.1),.bool (b.2.2.2.1),.bool (b.2.2.2.2.1),.bool (b.2.2.2.2.2.1),.bool (b.2.2.2.2.2.2.1),.bool (b.2.2.2.2.2.2.2.1),.bool (b.2.2.2.2.2.2.2.2.1),.bool (b.2.2.2.2.2.2.2.2.2.1),.bool (b.2.2.2.2.2.2.2.2.2.2.1),.bool (b.2.2.2.2.2.2.2.2.2.2.2.1),.bool (b.2.2.2.2.2.2.2.2.2.2.2.2.1),.bool (b.2.2.2.2.2.2.2.2.2.2.2.2.2.1),.bool (b.2.2.2.2.2.2.2.2.2.2.2.2.2.2.1),.bool (b.2.2.2.2.2.2.2.2.2.2.2.2.2.2.2.1),.bool (b.2.2.2.2.2.2.2.2.2.2.2.2.2.2.2.2)])]⟩) fun _ _=>Qh.eq_2 ..
abbrev zap {n a b}:=li (Br n a b) (fun c=>⟨[(4,.row 7019),(10,.agg [.bool (a.2.1),.bool (a.2.2.1),.bool (a.2.2.2.1),.bool (a.2.2.2.2.1),.bool (a.2.2.2.2.2.1),.bool (a.2.2.2.2.2.2.1),.bool (a.2.2.2.2.2.2.2.1),.bool (a.2.2.2.2.2.2.2.2.1),.bool (a.2.2.2.2.2.2.2.2.2.1),.bool (a.2.2.2.2.2.2.2.2.2.2.1),.bool (a.2.2.2.2.2.2.2.2.2.2.2.1),.bool (a.2.2.2.2.2.2.2.2.2.2.2.2.1),.bool (a.2.2.2.2.2.2.2.2.2.2.2.2.2.1),.bool (a.2.2.2.2.2.2.2.2.2.2.2.2.2.2.1),.bool (a.2.2.2.2.2.2.2.2.2.2.2.2.2.2.2.1),.bool (a.2.2.2.2.2.2.2.2.2.2.2.2.2.2.2.2)]),(11,aI c.1)],[(7019,.row 3 1 (c.2.map aI))]⟩) fun _ _=>Br.eq_2 ..
attribute [instance] z9x z32 zca zf6 zf7 zda zcb z9t zap
set_option maxHeartbeats 400000 in
theorem zoq (l:List (Cel 2))(S:Nat->Prop)(v:Value)(w:World)(h:Sl w S 2 encC v l)(d:l.length<=1000000000) :
  Calls bD 189 #[v] w (Nj 230 2 encC l w):=by
 have eok:EOk bD 147 230 2 16 (encC (n:=2)):=eokC (sz:=2) (E1 147 _ rfl) rfl (E1 230 _ rfl) (by omega) rfl;obtain ⟨A,c,rfl,f,_⟩:=h.form;have a:=fun (W:World)=>Lib.run_eql_slice_nil W 147 230 A l.length c 0 0 Tryz.underlying147
 have H:=hide h;cases A with
 |none =>
  have g:l=[]:=h.none_nil;subst g;clear h H d f;simp only [length_nil,Option.isNone_none] at a ⊢
  go_enter bB,bL
  go_wp2
  go_ret
  exact ⟨none,0,rfl,Own.nil_,by go_grown⟩
 |some ad =>
  clear h
  go_enter bB,bL
  go_wp2_with (at_builtin;refine M5 rfl _ _ rfl eok rfl Own.made_ rfl (H.out.alloc _) (by simp;omega) (by omega) (by simp) ?_;intro A' i w1 b e _)
  go_ret
  exact ⟨A',i,rfl,b,(Own.made_ (sz:=2) (enc:=encC (n:=2))).grown ((Below.refl _ _).alloc (aW _) _) (aW _) (by simp) e⟩
theorem zkw {n a r}(b:Cm n a=some r):ConT E0 189 [.sl 2 (List.map Bu a)] 230 2 (List.map Bu r) (.row 0):=S1 rfl (B0 bB rfl rfl) zoq b
theorem zog {n a r}(b:Cm n a=some r):Con E0 false 189 [.sl 2 (List.map Bu a)] (.sl 2 (List.map Bu r)):=(zkw b).close rfl
instance zus {n c}:CI E0 (Vu n c) false 119 [A9 c] A9:=⟨fun {r} b=>by
 unfold Vu at b;refine cw Tryz.func119 ?_;repeat' first
  |refine aM ?_;conv=>whnf
  |refine aK b (fun b=>?_) fun b=>?_
  |refine aO ?_
  |refine aP ?_
  |refine aT b fun a b=>?_
  |refine Ab.o b (fun q=>AV.sl 1 (List.map aI q)) (fun a h=>zoh h) (fun a b=>?_)
  |refine Ab.o b (fun q=>AV.sl 2 (List.map Bu q)) (fun a h=>zog h) (fun a b=>?_)
  |refine AndA ?_
  |refine aF ?_
  |exact aB b⟩
instance zr6 {n d c}:CI E0 (Vl n d c) false 56 [Bi d,aI c] (fun r=>.tup [.sl 17 (r.1.map A9),aI r.2]):=⟨fun {r} b=>by
 unfold Vl at b;refine cw Tryz.func56 ?_;repeat' first
  |refine aM ?_;conv=>whnf
  |refine aK b (fun b=>?_) fun b=>?_
  |refine aO ?_
  |refine aP ?_
  |refine aT b fun a b=>?_
  |refine aJ b fun x b=>?_
  |refine aR b fun l b=>?_
  |exact ⟨_,b,aA [(7037,37)]⟩
  |refine aQ b ?_ fun m v b=>?_
  |exact aD (aH 7 7037 149 17 rfl rfl) (aA [])
  |refine AndA ?_
  |refine aF ?_
  |exact aB b⟩
instance zte {n b a}:CI E0 (Z4 n b a) true 191 [Bu b,.ref [aI a]] (fun r=>.bool (r)):=by unfold Z4;exact aS [] Tryz.func191
instance zh9 {n a b}:CI E0 (Tp n a b) true 190 [.sl 2 (a.map Bu),.fn 191 [.ref [aI b]]] aI:=by unfold Tp;exact aS [] Tryz.func190
instance zv8 {n d c}:CI E0 (Hi n d c) true 120 [A9 d,aI c] (fun r=>.tup [aI r.1,.bool (r.2)]):=⟨fun {r} b=>by
 unfold Hi at b;refine cw Tryz.func120 ?_;repeat' first
  |refine bM b (fun v b=>?_) fun b=>?_
  |refine aE b fun b=>?_
  |refine aC [2] ?_;conv=>whnf
  |refine aK b (fun b=>?_) fun b=>?_
  |refine aO ?_
  |refine aP ?_
  |refine B7.I b (fun a b=>?_) rfl rfl fun _=>bZ rfl
  |refine aJ b fun x b=>?_
  |exact ⟨_,b,aA []⟩
  |refine aT b fun a b=>?_
  |refine AndA ?_
  |refine aF ?_
  |exact aB b⟩
instance zyf {n d c}:CI E0 (Zk n d c) true 57 [.sl 17 (d.map A9),.mapv (List.map (encM aI AV.bool) (c))] (fun r=>.tup [aI r.1,.bool (r.2)]):=⟨fun {r} b=>by
 unfold Zk at b;refine cw Tryz.func57 ?_;repeat' first
  |refine bU (encM aI AV.bool) b 16 rfl (fun x s b=>?_)
  |refine aE b fun b=>?_
  |refine aC [10,12,4] ?_;conv=>whnf
  |refine aK b (fun b=>?_) fun b=>?_
  |refine aO ?_
  |refine aP ?_
  |refine bV rfl rfl rfl rfl rfl rfl rfl rfl ?_
  |refine bW (encM aI AV.bool) b rfl rfl rfl rfl rfl (fun b=>?_) (fun b=>?_)
  |refine bX rfl rfl rfl rfl rfl ?_
  |exact ⟨_,b,aD (bY 16 rfl) (aA [])⟩
  |exact ⟨_,b,aA []⟩
  |refine aJ b fun x b=>?_
  |refine aT b fun a b=>?_
  |refine aQ b (aA []) fun m v b=>?_
  |refine AndA ?_
  |refine aF ?_
  |exact aB b⟩
instance zxm {n d}:CI E0 (Mj n d) false 15 [Bi d] (fun r=>.tup [.sl 1 (r.1.map aI),.sl 1 (r.2.1.map AV.bool),aI r.2.2]):=⟨fun {r} c=>by
 unfold Mj at c;refine cw Tryz.func15 ?_;repeat' first
  |refine aE c fun c=>?_
  |refine aC [11] ?_;conv=>whnf
  |refine aK c (fun c=>?_) fun c=>?_
  |refine aO ?_
  |refine aP ?_
  |refine aT c fun a c=>?_
  |refine MakX.o aI c (by first|exact aL _|(repeat' first|exact SubL.nil|refine SubL.cons ?_ ?_|exact Sub.refl _|exact Sub.nil _|refine Sub.agg ?_)) (fun l c=>?_)
  |refine MakX.o AV.bool c (by first|exact aL _|(repeat' first|exact SubL.nil|refine SubL.cons ?_ ?_|exact Sub.refl _|exact Sub.nil _|refine Sub.agg ?_)) (fun l c=>?_)
  |refine NatX.o c (fun m c=>?_)
  |refine SetX.o AV.bool c (fun x=>rfl) (fun x=>(by first|exact aL _|(repeat' first|exact SubL.nil|refine SubL.cons ?_ ?_|exact Sub.refl _|exact Sub.nil _|refine Sub.agg ?_))) (fun l c=>?_)
  |refine bF aI AV.bool c Dc rfl rfl rfl rfl rfl rfl rfl rfl rfl rfl (by first|rfl|kernel_rfl) (by repeat' first|exact Sub.nil _|exact Sub.refl _|refine Sub.agg ?_|refine Sub.tup ?_|refine Sub.fn ?_|exact SubL.nil|refine SubL.cons ?_ ?_|refine Sub.sl _ ?_|exact SubE.nil|refine SubE.cons ?_ ?_) (fun v b c=>?_)
  |refine IdxX.o (fun q=>AV.mapv (List.map (encM aI AV.bool) q)) c fun x c=>?_
  |refine SetX.o aI c (fun x=>rfl) (fun x=>(by first|exact aL _|(repeat' first|exact SubL.nil|refine SubL.cons ?_ ?_|exact Sub.refl _|exact Sub.nil _|refine Sub.agg ?_))) (fun l c=>?_)
  |exact ⟨_,c,aA []⟩
  |refine aQ c (aA []) fun m v c=>?_
  |refine AndA ?_
  |refine aF ?_
  |exact aB c⟩
instance zv9 {n d c}:CI E0 (Zd n d c) true 49 [Bi d,aI c] (fun r=>.tup [aI r.1,.bool (r.2)]):=⟨fun {r} b=>by
 unfold Zd at b;refine cw Tryz.func49 ?_;repeat' first
  |refine bU (encM aI AV.bool) b 20 rfl (fun x s b=>?_)
  |refine aE b fun b=>?_
  |refine aC [5] ?_;conv=>whnf
  |refine aK b (fun b=>?_) fun b=>?_
  |refine aO ?_
  |refine aP ?_
  |refine aT b fun a b=>?_
  |refine bV rfl rfl rfl rfl rfl rfl rfl rfl ?_
  |refine bW (encM aI AV.bool) b rfl rfl rfl rfl rfl (fun b=>?_) (fun b=>?_)
  |refine bX rfl rfl rfl rfl rfl ?_
  |refine aJ b fun x b=>?_
  |exact ⟨_,b,aD (bY 20 rfl) (aA [])⟩
  |refine aQ b (aA []) fun m v b=>?_
  |refine AndA ?_
  |refine aF ?_
  |exact aB b⟩
def zbz (b:Ay)(a:B16):List (Nat×Ent):=[(100000,.box 318 [.bool (a.1),.bool (a.2.1),.bool (a.2.2.1),.bool (a.2.2.2.1),.bool (a.2.2.2.2.1),.bool (a.2.2.2.2.2.1),.bool (a.2.2.2.2.2.2.1),.bool (a.2.2.2.2.2.2.2.1),.bool (a.2.2.2.2.2.2.2.2.1),.bool (a.2.2.2.2.2.2.2.2.2.1),.bool (a.2.2.2.2.2.2.2.2.2.2.1),.bool (a.2.2.2.2.2.2.2.2.2.2.2.1),.bool (a.2.2.2.2.2.2.2.2.2.2.2.2.1),.bool (a.2.2.2.2.2.2.2.2.2.2.2.2.2.1),.bool (a.2.2.2.2.2.2.2.2.2.2.2.2.2.2.1),.bool (a.2.2.2.2.2.2.2.2.2.2.2.2.2.2.2)])]
def V5 (r:Int×B16):List (Nat×Ent):=[(100000,.box 318 [.bool (r.2.1),.bool (r.2.2.1),.bool (r.2.2.2.1),.bool (r.2.2.2.2.1),.bool (r.2.2.2.2.2.1),.bool (r.2.2.2.2.2.2.1),.bool (r.2.2.2.2.2.2.2.1),.bool (r.2.2.2.2.2.2.2.2.1),.bool (r.2.2.2.2.2.2.2.2.2.1),.bool (r.2.2.2.2.2.2.2.2.2.2.1),.bool (r.2.2.2.2.2.2.2.2.2.2.2.1),.bool (r.2.2.2.2.2.2.2.2.2.2.2.2.1),.bool (r.2.2.2.2.2.2.2.2.2.2.2.2.2.1),.bool (r.2.2.2.2.2.2.2.2.2.2.2.2.2.2.1),.bool (r.2.2.2.2.2.2.2.2.2.2.2.2.2.2.2.1),.bool (r.2.2.2.2.2.2.2.2.2.2.2.2.2.2.2.2)])]
def Yv (r:Int×(Bool×Bool×Bool×Bool×Bool×Bool×Bool×Bool×Bool×Bool×Bool×Bool×Bool×Bool×Bool×Bool)):AV:=aI (r.1)
def zbx (r:Int×B16):AS:=⟨[(3,aI r.1),(1,.ptr 100000 0)],V5 r⟩
theorem z1n {n c d r}(b:V8 n c d=some r):ConG E0.P none (CalF E0.P 263 0) [Au c,.ptr 100000 0] [] (zbz c d) (Yv r) (V5 r):=by
 unfold V8 at b;refine aV (E:=(E0p 2)) (caps:=[]) _ bC rfl rfl rfl rfl rfl ?_;repeat' first
  |refine aM ?_;conv=>whnf
  |refine aK b (fun b=>?_) fun b=>?_
  |refine aO ?_
  |refine aP ?_
  |refine aT b fun a b=>?_
  |refine NatX.oS b rfl (fun b=>?_) (fun b=>?_)
  |(cases b;done)
  |exact GX.A (res:=Yv) (meF:=V5) b zbx
  |refine AndA ?_
  |refine aF ?_
def zco (b:Ay)(a:B16):List (Nat×Ent):=[(100000,.box 318 [.bool (a.1),.bool (a.2.1),.bool (a.2.2.1),.bool (a.2.2.2.1),.bool (a.2.2.2.2.1),.bool (a.2.2.2.2.2.1),.bool (a.2.2.2.2.2.2.1),.bool (a.2.2.2.2.2.2.2.1),.bool (a.2.2.2.2.2.2.2.2.1),.bool (a.2.2.2.2.2.2.2.2.2.1),.bool (a.2.2.2.2.2.2.2.2.2.2.1),.bool (a.2.2.2.2.2.2.2.2.2.2.2.1),.bool (a.2.2.2.2.2.2.2.2.2.2.2.2.1),.bool (a.2.2.2.2.2.2.2.2.2.2.2.2.2.1),.bool (a.2.2.2.2.2.2.2.2.2.2.2.2.2.2.1),.bool (a.2.2.2.2.2.2.2.2.2.2.2.2.2.2.2)])]
def M0 (r:Int×B16):List (Nat×Ent):=[(100000,.box 318 [.bool (r.2.1),.bool (r.2.2.1),.bool (r.2.2.2.1),.bool (r.2.2.2.2.1),.bool (r.2.2.2.2.2.1),.bool (r.2.2.2.2.2.2.1),.bool (r.2.2.2.2.2.2.2.1),.bool (r.2.2.2.2.2.2.2.2.1),.bool (r.2.2.2.2.2.2.2.2.2.1),.bool (r.2.2.2.2.2.2.2.2.2.2.1),.bool (r.2.2.2.2.2.2.2.2.2.2.2.1),.bool (r.2.2.2.2.2.2.2.2.2.2.2.2.1),.bool (r.2.2.2.2.2.2.2.2.2.2.2.2.2.1),.bool (r.2.2.2.2.2.2.2.2.2.2.2.2.2.2.1),.bool (r.2.2.2.2.2.2.2.2.2.2.2.2.2.2.2.1),.bool (r.2.2.2.2.2.2.2.2.2.2.2.2.2.2.2.2)])]
def Qv (r:Int×(Bool×Bool×Bool×Bool×Bool×Bool×Bool×Bool×Bool×Bool×Bool×Bool×Bool×Bool×Bool×Bool)):AV:=aI (r.1)
def zcm (r:Int×B16):AS:=⟨[(4,aI r.1),(1,.fn 263 [.ptr 100000 0])],M0 r⟩
theorem z2b {n c d r}(b:J1 n c d=some r):ConG E0.P none (CalF E0.P 237 0) [Au c,.fn 263 [.ptr 100000 0]] [] (zco c d) (Qv r) (M0 r):=by
 induction n generalizing c d r
 case zero=>cases b
 case succ n e =>
 unfold J1 at b;refine aV (E:=(E0p 2)) (caps:=[]) _ aU rfl rfl rfl rfl rfl ?_;repeat' first
  |refine aM ?_;conv=>whnf
  |refine aK b (fun b=>?_) fun b=>?_
  |refine aO ?_
  |refine aP ?_
  |refine B7.oM (Bg 11 b) [(100000,100000)] [(100000,100000)] _ _ V5 Yv [] (fun a h=>aN (z1n h)) (B0 bC rfl rfl) rfl rfl rfl ⟨⟨rfl,rfl⟩,trivial⟩ (fun a=>⟨rfl,rfl,rfl,rfl,rfl,rfl,rfl,rfl⟩) (fun a b=>?_)
  |refine bO (Bg 11 b) [(100000,100000)] [(100000,100000)] _ _ V5 Yv [] (fun a h=>aN (z1n h)) (B0 bC rfl rfl) rfl rfl rfl ⟨⟨rfl,rfl⟩,trivial⟩ (fun a=>⟨rfl,rfl,rfl,rfl,rfl,rfl,rfl,rfl⟩) (fun a b=>?_)
  |refine GX.o (res:=Qv) (meF:=M0) b ?_;exact GX.mk (zcm _) (aA []) rfl _ rfl (by repeat' first|exact Sub.nil _|exact Sub.refl _|refine Sub.agg ?_|refine Sub.tup ?_|refine Sub.fn ?_|exact SubL.nil|refine SubL.cons ?_ ?_|refine Sub.sl _ ?_|exact SubE.nil|refine SubE.cons ?_ ?_) [100000] ⟨bZ ⟨1,0,_,_,_,_,_,Nat.le_of_ble_eq_true rfl,rfl,rfl,rfl,rfl,rfl⟩,trivial⟩ rfl
  |refine bG b Dg (fun x b=>?_)
  |refine B7.oM (Bg 24 b) [(100000,100000)] [(100000,100000)] _ _ M0 Qv [] (fun a h=>aN (e h)) (B0 aU rfl rfl) rfl rfl rfl ⟨⟨rfl,rfl⟩,trivial⟩ (fun a=>⟨rfl,rfl,rfl,rfl,rfl,rfl,rfl,rfl⟩) (fun a b=>?_)
  |refine bO (Bg 24 b) [(100000,100000)] [(100000,100000)] _ _ M0 Qv [] (fun a h=>aN (e h)) (B0 aU rfl rfl) rfl rfl rfl ⟨⟨rfl,rfl⟩,trivial⟩ (fun a=>⟨rfl,rfl,rfl,rfl,rfl,rfl,rfl,rfl⟩) (fun a b=>?_)
  |exact ⟨_,b,aA []⟩
  |refine aQ b (aA []) fun m v b=>?_
  |refine AndA ?_
  |refine aF ?_
end
noncomputable section
abbrev z26 {n a a0f2 a0f1 a0f0}:=jf (Jr n a a0f2 a0f1 a0f0) (fun b=>⟨[(1,aI a),(2,.ptr 2 0),(14,.bool (b))],[(2,.box 359 [.sl 1 (List.map (fun q=>AV.sl 5 (List.map A7 q)) (a0f0.fVars)),aI a0f1,aI a0f2.fSource,aI a0f2.fSeq,aI a0f2.fType,aI a0f2.fTime,.sl 3 (a0f2.fValues.map Ac),.mapv [(aI 5,.fn 325 [.ref [.fn 324 []]]),(aI 6,.fn 326 [.ref [.fn 324 []]]),(aI 7,.fn 327 []),(aI 8,.fn 328 []),(aI 10,.fn 329 []),(aI 11,.fn 330 []),(aI 12,.fn 331 [])]])]⟩) fun _=>Jr.eq_1 ..
abbrev z3b {n d a b}:=li (O8 n d a b) (fun c=>⟨[(3,.ptr 3 0),(4,.ptr 4 0),(6,.row 7034),(14,.sl 5 (a.map A7)),(15,aI (((a.map A7).length:Int))),(16,aI c.1)],[(3,.box 146 (D0 d)),(4,.box 144 [aI 0,aI 0,.str (ByteArray.empty)]),(7034,.row 144 3 (c.2.map Ac))]⟩) fun _ _=>O8.eq_2 ..
abbrev z4c {n a}:=jt (K8 n a) (fun b=>⟨[(4,.ptr 4 0),(8,.ptr 8 0),(9,aI b)],[(4,.box 144 [aI 0,aI 0,.str (ByteArray.empty)]),(8,.box 144 (Ce a.1))]⟩) fun _=>K8.eq_1 ..
abbrev z4d {n a}:=jt (K9 n a) (fun b=>⟨[(3,.ptr 3 0),(4,.ptr 4 0),(7,.ptr 7 0)],[(3,.box 146 (D0 a)),(4,.box 144 [aI 0,aI 0,.str (ByteArray.empty)]),(7,.box 37 [aI b.1,aI b.2.1,aI b.2.2.1,aI b.2.2.2.1,.sl 3 (b.2.2.2.2.map Ac)])]⟩) fun _=>K9.eq_1 ..
abbrev zbo {n a f b c d}:=jt (Iw n a f b c d) (fun e=>⟨[(0,aI f),(1,.sl 1 (a.map aI)),(6,aI d),(7,.bool (true)),(8,.sl 1 (a.map aI)),(9,aI (((a.map aI).length:Int))),(10,aI b),(14,aI f),(22,.bool (e))],[]⟩) fun _=>Iw.eq_1 ..
abbrev zbp {n a f b c d}:=jt (Hf n a f b c d) (fun e=>⟨[(0,aI f),(1,.sl 1 (a.map aI)),(6,aI d),(7,.bool (true)),(8,.sl 1 (a.map aI)),(9,aI (((a.map aI).length:Int))),(10,aI b),(14,aI f),(15,.bool (e))],[]⟩) fun _=>Hf.eq_1 ..
abbrev zbn {n a d b}:=li (Ga n a d b) (fun c=>⟨[(0,aI d),(1,.sl 1 (a.map aI)),(8,.sl 1 (a.map aI)),(9,aI (((a.map aI).length:Int))),(10,aI c)],[]⟩) fun _ _=>Ga.eq_2 ..
abbrev z85 {n}:=jf (Lg n) (fun b=>⟨[(4,.ptr 4 0)],[(4,.box 144 [aI b.1,aI b.2.1,.str (b.2.2)])]⟩) fun _=>Lg.eq_1 ..
abbrev z84 {n}:=jf (Lf n) (fun b=>⟨[(4,.ptr 4 0)],[(4,.box 144 [aI b.1,aI b.2.1,.str (b.2.2)])]⟩) fun _=>Lf.eq_1 ..
abbrev z4e {n b a a0f2 a0f1 a0f0 d}:=li (Om n b a a0f2 a0f1 a0f0 d) (fun c=>⟨[(2,.ptr 2 0),(3,.ptr 3 0),(4,.ptr 4 0),(6,.row 7042),(7,.row 7047),(23,.sl 8 (a.fArgs.map idA)),(24,aI (((a.fArgs.map idA).length:Int))),(25,aI c.1)],[(2,.box 359 [.sl 1 (List.map (fun q=>AV.sl 5 (List.map A7 q)) (a0f0.fVars)),aI a0f1,aI a0f2.fSource,aI a0f2.fSeq,aI a0f2.fType,aI a0f2.fTime,.sl 3 (a0f2.fValues.map Ac),.mapv [(aI 5,.fn 325 [.ref [.fn 324 []]]),(aI 6,.fn 326 [.ref [.fn 324 []]]),(aI 7,.fn 327 []),(aI 8,.fn 328 []),(aI 10,.fn 329 []),(aI 11,.fn 330 []),(aI 12,.fn 331 [])]]),(3,.box 146 (D0 a)),(4,.box 144 [aI 0,aI 0,.str (ByteArray.empty)]),(7042,.row 144 3 (c.2.1.map Ac)),(7047,.row 3 1 (c.2.2.map aI))]⟩) fun _ _=>Om.eq_2 ..
attribute [instance] z26 z3b z4c z4d zbo zbp zbn z85 z84 z4e
instance ztg {n c}:CI E0 (Vo n c) false 211 [Au c] (fun r=>.sl 1 (r.map aI)):=⟨fun {r} b=>by
 unfold Vo at b;refine cw Tryz.func211 ?_;repeat' first
  |refine aE b fun b=>?_
  |refine aC [7] ?_;conv=>whnf
  |refine aK b (fun b=>?_) fun b=>?_
  |refine aO ?_
  |refine aP ?_
  |refine B7.oM (Bg 9 b) [(100000,3)] [(100000,3)] _ _ M0 Qv [] (fun a h=>aN (z2b h)) (B0 aU rfl rfl) rfl rfl rfl ⟨⟨rfl,rfl⟩,trivial⟩ (fun a=>⟨rfl,rfl,rfl,rfl,rfl,rfl,rfl,rfl⟩) (fun a b=>?_)
  |refine bO (Bg 9 b) [(100000,3)] [(100000,3)] _ _ M0 Qv [] (fun a h=>aN (z2b h)) (B0 aU rfl rfl) rfl rfl rfl ⟨⟨rfl,rfl⟩,trivial⟩ (fun a=>⟨rfl,rfl,rfl,rfl,rfl,rfl,rfl,rfl⟩) (fun a b=>?_)
  |refine NatX.oS b rfl (fun b=>?_) (fun b=>?_)
  |(cases b;done)
  |refine aR b fun l b=>?_
  |exact ⟨_,b,aA [(7019,19)]⟩
  |exact ⟨_,b,aA []⟩
  |refine aQ b ?_ fun m v b=>?_
  |exact aD (aH 4 7019 3 1 rfl rfl) (aA [])
  |refine AndA ?_
  |refine aF ?_
  |exact aB b⟩
theorem zas:Con E0 false 313 [] (.mapv [(aI 5,.fn 325 [.ref [.fn 324 []]]),(aI 6,.fn 326 [.ref [.fn 324 []]]),(aI 7,.fn 327 []),(aI 8,.fn 328 []),(aI 10,.fn 329 []),(aI 11,.fn 330 []),(aI 12,.fn 331 [])]):=by
 refine Con.walk _ cA rfl (B0 cA rfl rfl) rfl (bT rfl) ?_;repeat' first
  |refine AW.frb0 1 rfl rfl ?_
  |refine AW.into ?_
  |refine aC [2] ?_;conv=>whnf
  |refine UpX.mk _ _ (by first|rfl|kernel_rfl) (by first|rfl|kernel_rfl) (SubM.refl _) ?_
  |exact RetX.mk rfl
instance zg9 {n a0f0 a0f1 a0f2 b}:CI E0 (P8 n a0f0 a0f1 a0f2 b) false 339 [.agg [.sl 1 (List.map (fun q=>AV.sl 5 (List.map A7 q)) (a0f0.fVars)),aI a0f1,aI a0f2.fSource,aI a0f2.fSeq,aI a0f2.fType,aI a0f2.fTime,.sl 3 (a0f2.fValues.map Ac),.mapv [(aI 5,.fn 325 [.ref [.fn 324 []]]),(aI 6,.fn 326 [.ref [.fn 324 []]]),(aI 7,.fn 327 []),(aI 8,.fn 328 []),(aI 10,.fn 329 []),(aI 11,.fn 330 []),(aI 12,.fn 331 [])]],aI b] (fun r=>.sl 5 (r.map A7)):=⟨fun {r} a=>by
 unfold P8 at a;refine cw Tryz.func339 ?_;repeat' first
  |refine bM a (fun v a=>?_) fun a=>?_
  |refine aE a fun a=>?_
  |refine aC [1] ?_;conv=>whnf
  |refine aK a (fun a=>?_) fun a=>?_
  |refine IdxX.o (fun q=>AV.sl 5 (List.map A7 q)) a fun x a=>?_
  |exact ⟨_,a,aA []⟩
  |exact aB a⟩
instance zyj {n b a}:CI E0 (Mo n b a) true 341 [A7 b,aI a] (fun r=>.tup [Ac r.1,aI r.2]):=by unfold Mo;exact aS [] Tryz.func341
instance zhg {n a0f0 a0f1 a0f2 c}:CI E0 (Xx n a0f0 a0f1 a0f2 c) true 340 [.agg [.sl 1 (List.map (fun q=>AV.sl 5 (List.map A7 q)) (a0f0.fVars)),aI a0f1,aI a0f2.fSource,aI a0f2.fSeq,aI a0f2.fType,aI a0f2.fTime,.sl 3 (a0f2.fValues.map Ac),.mapv [(aI 5,.fn 325 [.ref [.fn 324 []]]),(aI 6,.fn 326 [.ref [.fn 324 []]]),(aI 7,.fn 327 []),(aI 8,.fn 328 []),(aI 10,.fn 329 []),(aI 11,.fn 330 []),(aI 12,.fn 331 [])]],Au c] (fun r=>.tup [Ac r.1,aI r.2]):=⟨fun {r} b=>by
 unfold Xx at b;refine cw Tryz.func340 ?_;repeat' first
  |refine aM ?_;conv=>whnf
  |refine aK b (fun b=>?_) fun b=>?_
  |refine aT b fun a b=>?_
  |refine B7.I b (fun a b=>?_) rfl rfl fun _=>bZ rfl
  |refine aJ b fun x b=>?_
  |refine aR b fun l b=>?_
  |exact ⟨_,b,aA [(7034,34)]⟩
  |refine aQ b ?_ fun m v b=>?_
  |exact aD (aH 6 7034 144 3 rfl rfl) (aA [])
  |exact aB b⟩
instance zis {n a0f0 a0f1 a0f2 a}:CI E0 (Px n a0f0 a0f1 a0f2 a) true 332 [.agg [.sl 1 (List.map (fun q=>AV.sl 5 (List.map A7 q)) (a0f0.fVars)),aI a0f1,aI a0f2.fSource,aI a0f2.fSeq,aI a0f2.fType,aI a0f2.fTime,.sl 3 (a0f2.fValues.map Ac),.mapv [(aI 5,.fn 325 [.ref [.fn 324 []]]),(aI 6,.fn 326 [.ref [.fn 324 []]]),(aI 7,.fn 327 []),(aI 8,.fn 328 []),(aI 10,.fn 329 []),(aI 11,.fn 330 []),(aI 12,.fn 331 [])]],Au a] (fun r=>.tup [Ac r.1,aI r.2]):=by unfold Px;exact aS [10,17] Tryz.func332
instance zup {n b a}:CI E0 (Z9 n b a) true 333 [aI b,.sl 1 (a.map aI)] aI:=by unfold Z9;exact aS [6,7,8,11,12,15] Tryz.func333
instance zya {n a}:CI E0 (Zj n a) true 315 [.bool (a)] Ac:=by unfold Zj;exact aS [] Tryz.func315
instance y0h {n a}:CI E0 (Dy n a) true 286 [.bool (a)] Ac:=by unfold Dy;exact aS [] Tryz.func286
instance zof {n a}:CI E0 (V1 n a) true 324 [aI a] Ac:=by unfold V1;exact aS [] Tryz.func324
instance zoe {n b a}:CI E0 (V0 n b a) true 325 [aI b,aI a,.ref [.fn 324 []]] Ac:=by unfold V0;exact aS [] Tryz.func325
instance zod {n b a}:CI E0 (Uz n b a) true 326 [aI b,aI a,.ref [.fn 324 []]] Ac:=by unfold Uz;exact aS [] Tryz.func326
instance zoc {n b a}:CI E0 (Uy n b a) true 327 [aI b,aI a] Ac:=by unfold Uy;exact aS [] Tryz.func327
instance zob {n b a}:CI E0 (Ux n b a) true 328 [aI b,aI a] Ac:=by unfold Ux;exact aS [] Tryz.func328
instance zoa {n b a}:CI E0 (Uw n b a) true 329 [aI b,aI a] Ac:=by unfold Uw;exact aS [1] Tryz.func329
instance zo9 {n b a}:CI E0 (Uv n b a) true 330 [aI b,aI a] Ac:=by unfold Uv;exact aS [1] Tryz.func330
instance zo8 {n b a}:CI E0 (Lw n b a) true 331 [aI b,aI a] Ac:=by unfold Lw;exact aS [] Tryz.func331
def z8d (r:A8×Int):AV:=.tup [.agg [aI (r.1.fKind),aI (r.1.fNum),.str (r.1.fText)],aI (r.2)]
end
noncomputable section
abbrev zfh {n}:=jf (Md n) (fun b=>⟨[(8,.bool (b))],[]⟩) fun _=>Md.eq_1 ..
abbrev z9s {n}:=jf (Lp n) (fun b=>⟨[(2,.bool (b))],[]⟩) fun _=>Lp.eq_1 ..
abbrev z48 {n}:=jf (K7 n) (fun b=>⟨[(3,.bool (b))],[]⟩) fun _=>K7.eq_1 ..
abbrev z2y {n b a c}:=li (O1 n b a c) (fun d=>⟨[(0,.sl 11 (a.map B8)),(1,.fn 234 [.ref (Bp b)]),(7,aI (((a.map B8).length:Int))),(8,aI d)],[]⟩) fun _ _=>O1.eq_2 ..
abbrev z6r {n d a b}:=li (Ph n d a b) (fun c=>⟨[(2,.ptr 2 0),(3,.ptr 3 0),(33,.sl 2 (d.fLimits.map Bu)),(34,aI (((d.fLimits.map Bu).length:Int))),(35,aI c)],[(2,.box 111 [.sl 2 (a.ftypes.map Bf),aI a.fa.fVars,aI a.fa.fScopes,.sl 1 (a.fa.fStates.map Ao),.sl 17 (a.fa.fEdges.map A9)]),(3,.box 149 (Bp d))]⟩) fun _ _=>Ph.eq_2 ..
abbrev z6s {n d a b}:=li (Pi n d a b) (fun c=>⟨[(2,.ptr 2 0),(3,.ptr 3 0),(22,.sl 8 (d.fChecks.map idA)),(23,aI (((d.fChecks.map idA).length:Int))),(24,aI c)],[(2,.box 111 [.sl 2 (a.ftypes.map Bf),aI a.fa.fVars,aI a.fa.fScopes,.sl 1 (a.fa.fStates.map Ao),.sl 17 (a.fa.fEdges.map A9)]),(3,.box 149 (Bp d))]⟩) fun _ _=>Pi.eq_2 ..
abbrev z6t {n c a}:=jf (Ic n c a) (fun b=>⟨[(2,.ptr 2 0),(3,.ptr 3 0),(20,.bool (b))],[(2,.box 111 [.sl 2 (a.ftypes.map Bf),aI a.fa.fVars,aI a.fa.fScopes,.sl 1 (a.fa.fStates.map Ao),.sl 17 (a.fa.fEdges.map A9)]),(3,.box 149 (Bp c))]⟩) fun _=>Ic.eq_1 ..
abbrev z5q {n a b}:=li (P7 n a b) (fun c=>⟨[(1,.fn 106 []),(2,.ptr 2 0),(5,.row 7027),(10,.sl 17 (a.fa.fEdges.map A9)),(11,aI (((a.fa.fEdges.map A9).length:Int))),(12,aI c.1)],[(2,.box 111 [.sl 2 (a.ftypes.map Bf),aI a.fa.fVars,aI a.fa.fScopes,.sl 1 (a.fa.fStates.map Ao),.sl 17 (a.fa.fEdges.map A9)]),(7027,.row 149 17 (c.2.map A9))]⟩) fun _ _=>P7.eq_2 ..
abbrev z6p {n b d}:=li (Pg n b d) (fun c=>⟨[(3,.sl 17 (b.1.map A9)),(4,.row 10),(5,.bool (c.1)),(13,.sl 17 (b.1.map A9)),(14,aI (((b.1.map A9).length:Int))),(15,aI c.2.1)],[(10,.mp (List.map (encM aI AV.bool) (c.2.2)))]⟩) fun _ _=>Pg.eq_2 ..
abbrev z6q {n c}:=li (Xv n c) (fun b=>⟨[(3,.sl 17 (b.1.map A9)),(4,.row 10),(5,.bool (b.2.1))],[(10,.mp (List.map (encM aI AV.bool) (b.2.2)))]⟩) fun _ _=>Xv.eq_2 ..
abbrev z2x {n b a c}:=li (Xh n b a c) (fun d=>⟨[(0,.sl 11 (a.map B8)),(1,.fn 176 [.ref [aI b]]),(7,aI (((a.map B8).length:Int))),(8,aI d)],[]⟩) fun _ _=>Xh.eq_2 ..
attribute [instance] zfh z9s z48 z2y z6r z6s z6t z5q z6p z6q z2x
theorem z3c {n a0f0 a0f1 a0f2 c r}(b:Gy n a0f0 a0f1 a0f2 c=some r):Con E0 true 314 [.agg [.sl 1 (List.map (fun q=>AV.sl 5 (List.map A7 q)) (a0f0.fVars)),aI a0f1,aI a0f2.fSource,aI a0f2.fSeq,aI a0f2.fType,aI a0f2.fTime,.sl 3 (a0f2.fValues.map Ac),.mapv [(aI 5,.fn 325 [.ref [.fn 324 []]]),(aI 6,.fn 326 [.ref [.fn 324 []]]),(aI 7,.fn 327 []),(aI 8,.fn 328 []),(aI 10,.fn 329 []),(aI 11,.fn 330 []),(aI 12,.fn 331 [])]],Au c] (.tup [Ac r.1,aI r.2]):=by
 induction n generalizing a0f0 a0f1 a0f2 c r
 case zero=>cases b
 case succ n d =>
 unfold Gy at b;refine cw Tryz.func314 ?_;repeat' first
  |refine aM ?_;conv=>whnf
  |refine aK b (fun b=>?_) fun b=>?_
  |refine aT b fun a b=>?_
  |refine B7.I b (fun a b=>?_) rfl rfl fun _=>bZ rfl
  |refine NatX.o b (fun m b=>?_)
  |refine EltX.o Ac b (fun x b=>?_)
  |refine OpX.lkc rfl rfl rfl rfl rfl rfl rfl rfl rfl rfl (by first|rfl|kernel_rfl) ?_
  |refine LkC.cons b (fun b=>?_) (fun b=>?_)
  |(cases b;done)
  |refine LtX.o b (fun b=>?_)
  |refine bG b Dg (fun x b=>?_)
  |refine Ab.o b z8d (fun a h=>d h) (fun a b=>?_)
  |refine aR b fun l b=>?_
  |exact ⟨_,b,aA [(7042,42),(7047,47)]⟩
  |refine aQ b ?_ fun m v b=>?_
  |exact aD (aH 6 7042 144 3 rfl rfl) (aD (aH 7 7047 3 1 rfl rfl) (aA []))
  |refine AndA ?_
  |refine aF ?_
  |exact aB b
instance zit {n a0f0 a0f1 a0f2 a}:CI E0 (Gy n a0f0 a0f1 a0f2 a) true 314 [.agg [.sl 1 (List.map (fun q=>AV.sl 5 (List.map A7 q)) (a0f0.fVars)),aI a0f1,aI a0f2.fSource,aI a0f2.fSeq,aI a0f2.fType,aI a0f2.fTime,.sl 3 (a0f2.fValues.map Ac),.mapv [(aI 5,.fn 325 [.ref [.fn 324 []]]),(aI 6,.fn 326 [.ref [.fn 324 []]]),(aI 7,.fn 327 []),(aI 8,.fn 328 []),(aI 10,.fn 329 []),(aI 11,.fn 330 []),(aI 12,.fn 331 [])]],Au a] (fun r=>.tup [Ac r.1,aI r.2]):=⟨z3c⟩
instance y0j {n f e d c}:CI E0 (Zo n f e d c) true 285 [Au f,Dn e,aI d,A7 c] (fun r=>.tup [Ac r.1,aI r.2]):=⟨fun {r} b=>by
 unfold Zo at b;refine cw Tryz.func285 ?_;repeat' first
  |refine aM ?_;conv=>whnf
  |refine aK b (fun b=>?_) fun b=>?_
  |refine aT b fun a b=>?_
  |refine Ab.mk _ _ zas ?_
  |refine AndA ?_
  |exact aB b⟩
def zp1 (r:Bool):AV:=.bool (r)
instance zhh {n d c b a}:CI E0 (Hl n d c b a) true 243 [Au d,Dn c,aI b,A7 a] (fun r=>.bool (r)):=by unfold Hl;exact aS [2] Tryz.func243
instance zr1 {n c}:CI E0 (R4 n c) true 233 [Au c] (fun r=>.bool (r)):=⟨fun {r} b=>by
 unfold R4 at b;refine cw Tryz.func233 ?_;repeat' first
  |refine bM b (fun v b=>?_) fun b=>?_
  |refine aE b fun b=>?_
  |refine aC [1] ?_;conv=>whnf
  |refine aK b (fun b=>?_) fun b=>?_
  |refine aO ?_
  |refine aP ?_
  |refine aT b fun a b=>?_
  |refine Ab.S b fun a b=>?_
  |exact ⟨_,b,aA []⟩
  |refine AndA ?_
  |refine aF ?_
  |exact aB b⟩
instance zir {n b a}:CI E0 (U4 n b a) true 234 [B8 b,.ref (Bp a)] (fun r=>.bool (r)):=by unfold U4;exact aS [1] Tryz.func234
instance zh5 {n a b}:CI E0 (Xu n a b) true 235 [.sl 11 (a.map B8),.fn 234 [.ref (Bp b)]] aI:=by unfold Xu;exact aS [] cB
instance zdz {n a b}:CI E0 (T8 n a b) true 175 [.sl 11 (a.map B8),.fn 234 [.ref (Bp b)]] (fun r=>.bool (r)):=by unfold T8;exact aS [] Tryz.func175
instance zlt {n c d}:CI E0 (H7 n c d) true 174 [.agg [.sl 2 (c.ftypes.map Bf),aI c.fa.fVars,aI c.fa.fScopes,.sl 1 (c.fa.fStates.map Ao),.sl 17 (c.fa.fEdges.map A9)],A9 d] (fun r=>.bool (r)):=⟨fun {r} b=>by
 unfold H7 at b;refine cw Tryz.func174 ?_;repeat' first
  |refine bM b (fun v b=>?_) fun b=>?_
  |refine aE b fun b=>?_
  |refine aC [1] ?_;conv=>whnf
  |refine aK b (fun b=>?_) fun b=>?_
  |refine aO ?_
  |refine aP ?_
  |refine aJ b fun x b=>?_
  |refine B7.I b (fun a b=>?_) rfl rfl fun _=>bZ rfl
  |refine aT b fun a b=>?_
  |exact ⟨_,b,aA []⟩
  |refine aQ b (aA []) fun m v b=>?_
  |refine bG b Dg (fun x b=>?_)
  |refine AndA ?_
  |refine aF ?_
  |exact aB b⟩
instance ziq {n a}:CI E0 (z0g n a) true 106 [A9 a] (fun r=>.bool (r)):=by unfold z0g;exact aS [] Tryz.func106
instance zkq {n c}:CI E0 (z0r n c) false 105 [.agg [.sl 2 (c.ftypes.map Bf),aI c.fa.fVars,aI c.fa.fScopes,.sl 1 (c.fa.fStates.map Ao),.sl 17 (c.fa.fEdges.map A9)],.fn 106 []] (fun r=>.sl 17 (r.map A9)):=⟨fun {r} b=>by
 unfold z0r at b;refine cw Tryz.func105 ?_;repeat' first
  |refine aE b fun b=>?_
  |refine aC [5] ?_;conv=>whnf
  |refine aK b (fun b=>?_) fun b=>?_
  |refine aO ?_
  |refine aP ?_
  |refine aJ b fun x b=>?_
  |refine aT b fun a b=>?_
  |refine aR b fun l b=>?_
  |exact ⟨_,b,aA [(7027,27)]⟩
  |exact ⟨_,b,aA []⟩
  |refine aQ b ?_ fun m v b=>?_
  |exact aD (aH 5 7027 149 17 rfl rfl) (aA [])
  |refine AndA ?_
  |refine aF ?_
  |exact aB b⟩
instance zls {n d}:CI E0 (Ys n d) false 50 [.agg [.sl 2 (d.ftypes.map Bf),aI d.fa.fVars,aI d.fa.fScopes,.sl 1 (d.fa.fStates.map Ao),.sl 17 (d.fa.fEdges.map A9)]] (fun r=>.mapv (List.map (encM aI AV.bool) (r))):=⟨fun {r} c=>by
 unfold Ys at c;refine cw Tryz.func50 ?_;repeat' first
  |refine aE c fun c=>?_
  |refine aC [9] ?_;conv=>whnf
  |refine aK c (fun c=>?_) fun c=>?_
  |refine aO ?_
  |refine aP ?_
  |refine aT c fun a c=>?_
  |refine UpX.o aI AV.bool c (by first|rfl|kernel_rfl) Dc (by repeat' first|exact Sub.nil _|exact Sub.refl _|refine Sub.agg ?_|refine Sub.tup ?_|refine Sub.fn ?_|exact SubL.nil|refine SubL.cons ?_ ?_|refine Sub.sl _ ?_|exact SubE.nil|refine SubE.cons ?_ ?_) (fun l c=>?_)
  |refine OpX.mde aI AV.bool c Dc rfl rfl rfl rfl rfl rfl rfl rfl rfl (by first|rfl|kernel_rfl) rfl (fun l c=>?_)
  |exact ⟨_,c,aA []⟩
  |refine aJ c fun x c=>?_
  |refine LkX.o aI AV.bool c (by first|rfl|kernel_rfl) Dc (by repeat' first|exact Sub.nil _|exact Sub.refl _|refine Sub.agg ?_|refine Sub.tup ?_|refine Sub.fn ?_|exact SubL.nil|refine SubL.cons ?_ ?_|refine Sub.sl _ ?_|exact SubE.nil|refine SubE.cons ?_ ?_) (fun v b c=>?_)
  |refine aQ c (aA []) fun m v c=>?_
  |refine AndA ?_
  |refine aF ?_
  |exact aB c⟩
instance zfp {n b a}:CI E0 (z06 n b a) true 176 [B8 b,.ref [aI a]] (fun r=>.bool (r)):=by unfold z06;exact aS [] Tryz.func176
instance zh4 {n a b}:CI E0 (z0a n a b) true 235 [.sl 11 (a.map B8),.fn 176 [.ref [aI b]]] aI:=by unfold z0a;exact aS [] cB
end
end Go.Proofs.YthbogefcfhmpgaaGreat
