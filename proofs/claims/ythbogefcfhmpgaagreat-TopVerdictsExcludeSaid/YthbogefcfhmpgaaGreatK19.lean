/- What some functions compute, over plain values. -/
import Derived.Test.YthbogefcfhmpgaaGreatK18
set_option linter.unusedVariables false
set_option linter.unusedSimpArgs false
set_option maxRecDepth 100000
set_option maxHeartbeats 8000000
namespace Go.Proofs.YthbogefcfhmpgaaGreat
open Go.RowKit List
open LeX renaming a->aA,trans->aK,adopt->aS,pa->bL,itc->bT
open RetX renaming oB->aB
open List renaming pairwise_cons->aC,mem_cons->aJ,length_cons->aT,mem_cons_of_mem->aW
open AW renaming stepU->aD,regO->aF,step->aQ,frzO->aV,jI->bA,frbO->bI
open Or renaming inl->aE,inr->aG
open IdxX renaming A->aH,o->bH
open CI renaming w->aL
open ConG renaming up->aM,walk->bG
open A3 renaming o->aN,f->aX,t->bB
open AppX renaming oA->aO
open EqX renaming A->aP
open Tryz renaming func222->aR,func69->bC,func225->bD,func105->bE,func147->bJ,func230->bK,func70->bM,func76->bQ
open Ab renaming I->aU,oM->bP
open Ap renaming I->aY
open SlsX renaming o->bF
noncomputable section
abbrev zeo {n d a b}:=li (Ro n d a b) (fun c=>⟨[(0,.sl 4 (a.map Az)),(1,.sl 4 (d.map Az)),(12,aI (((a.map Az).length:Int))),(13,aI c)],[]⟩) fun _ _=>Ro.eq_2 ..
abbrev z4m {n}:=jf (I0 n) (fun b=>⟨[(5,.bool (b))],[]⟩) fun _=>I0.eq_1 ..
abbrev z5t {n d a b g c e f}:=jf (Gk n d a b g c e f) (fun h=>⟨[(0,.sl 3 (a.map A5)),(1,.fn 137 [.ref [.sl 1 (List.map (fun q=>AV.mapv (List.map (encM aI AV.bool) q)) (d))]]),(5,.row 7053),(6,aI b.1),(7,.ptr 7 0),(8,aI ((-1))),(9,aI c),(11,.sl 3 (a.map A5)),(12,aI (((a.map A5).length:Int))),(13,aI b.1),(18,.sl 3 (a.map A5)),(19,aI (((a.map A5).length:Int))),(20,aI c),(45,.bool (h))],[(7,.box 90 (C2 g)),(7053,.row 90 3 (b.2.map A5))]⟩) fun _=>Gk.eq_1 ..
abbrev z5r {n c a b e d}:=li (Fp n c a b e d) (fun f=>⟨[(0,.sl 3 (a.map A5)),(1,.fn 137 [.ref [.sl 1 (List.map (fun q=>AV.mapv (List.map (encM aI AV.bool) q)) (c))]]),(5,.row 7053),(6,aI b.1),(7,.ptr 7 0),(8,aI ((-1))),(11,.sl 3 (a.map A5)),(12,aI (((a.map A5).length:Int))),(13,aI b.1),(18,.sl 3 (a.map A5)),(19,aI (((a.map A5).length:Int))),(20,aI f)],[(7,.box 90 (C2 e)),(7053,.row 90 3 (b.2.map A5))]⟩) fun _ _=>Fp.eq_2 ..
abbrev z5s {n b a c}:=li (Gj n b a c) (fun d=>⟨[(0,.sl 3 (a.map A5)),(1,.fn 137 [.ref [.sl 1 (List.map (fun q=>AV.mapv (List.map (encM aI AV.bool) q)) (b))]]),(5,.row 7053),(11,.sl 3 (a.map A5)),(12,aI (((a.map A5).length:Int))),(13,aI d.1)],[(7053,.row 90 3 (d.2.map A5))]⟩) fun _ _=>Gj.eq_2 ..
abbrev zd5 {n a b}:=li (R8 n a b) (fun c=>⟨[(3,.row 7023),(6,.sl 3 (a.map A5)),(7,aI (((a.map A5).length:Int))),(8,aI c.1)],[(7023,.row 90 3 (c.2.map A5))]⟩) fun _ _=>R8.eq_2 ..
abbrev z5q {n a2c0bc0 a d b}:=li (P5 n a2c0bc0 a d b) (fun c=>⟨[(1,.sl 5 (a.map A7)),(2,.fn 71 [.ref [.fn 137 [.ref [.sl 1 (List.map (fun q=>AV.mapv (List.map (encM aI AV.bool) q)) (a2c0bc0))]]]]),(3,.ptr 3 0),(8,.row 7016),(17,.sl 5 (a.map A7)),(18,aI (((a.map A7).length:Int))),(19,aI c.1)],[(3,.box 26 (B1 d)),(7016,.row 49 1 (List.map (fun q=>AV.sl 3 (List.map A5 q)) (c.2)))]⟩) fun _ _=>P5.eq_2 ..
abbrev za4 {n d a b}:=li (Qh n d a b) (fun c=>⟨[(0,.sl 2 (a.map Ah)),(1,.sl 2 (d.map Ah)),(12,aI (((a.map Ah).length:Int))),(13,aI c)],[]⟩) fun _ _=>Qh.eq_2 ..
abbrev zcc {n}:=jf (J0 n) (fun b=>⟨[(4,.bool (b))],[]⟩) fun _=>J0.eq_1 ..
abbrev z8k {n d a}:=jf (Gv n d a) (fun b=>⟨[(2,.ptr 2 0),(5,.sl 3 (a.1.map A5)),(14,.bool (b))],[(2,.box 90 (C2 d))]⟩) fun _=>Gv.eq_1 ..
abbrev zcg {n a g h b c d e}:=jf (J2 n a g h b c d e) (fun f=>⟨[(1,.sl 5 (g.map A7)),(3,.ptr 3 0),(7,aI b),(8,.sl 3 (c.map A5)),(20,.sl 1 (List.map (fun q=>AV.sl 3 (List.map A5 q)) (a.fSets))),(21,aI ((((List.map (fun q=>AV.sl 3 (List.map A5 q)) (a.fSets)).length:Nat):Int))),(22,aI b),(30,.sl 3 (c.map A5)),(31,aI (((c.map A5).length:Int))),(32,aI d),(57,.bool (f))],[(3,.box 26 (B1 h))]⟩) fun _=>J2.eq_1 ..
abbrev zce {n a f g b c d}:=li (Dn n a f g b c d) (fun e=>⟨[(1,.sl 5 (f.map A7)),(3,.ptr 3 0),(7,aI b),(8,.sl 3 (c.map A5)),(20,.sl 1 (List.map (fun q=>AV.sl 3 (List.map A5 q)) (a.fSets))),(21,aI ((((List.map (fun q=>AV.sl 3 (List.map A5 q)) (a.fSets)).length:Nat):Int))),(22,aI b),(30,.sl 3 (c.map A5)),(31,aI (((c.map A5).length:Int))),(32,aI e)],[(3,.box 26 (B1 g))]⟩) fun _ _=>Dn.eq_2 ..
abbrev zcf {n a d e b}:=li (J1 n a d e b) (fun c=>⟨[(1,.sl 5 (d.map A7)),(3,.ptr 3 0),(20,.sl 1 (List.map (fun q=>AV.sl 3 (List.map A5 q)) (a.fSets))),(21,aI ((((List.map (fun q=>AV.sl 3 (List.map A5 q)) (a.fSets)).length:Nat):Int))),(22,aI c)],[(3,.box 26 (B1 e))]⟩) fun _ _=>J1.eq_2 ..
attribute [instance] zeo z4m z5t z5r z5s zd5 z5q za4 zcc z8k zcg zce zcf
instance zyz {n b a}:CI E0 (S8 n b a) true 140 [.sl 4 (b.map Az),.sl 4 (a.map Az)] (fun r=>.bool (r)):=by unfold S8;exact aL [] Tryz.func140
instance zjz {n f e d}:CI E0 (Lf n f e d) true 137 [A5 f,A5 e,.ref [.sl 1 (List.map (fun q=>AV.mapv (List.map (encM aI AV.bool) q)) (d))]] (fun r=>.bool (r)):=⟨fun {r} b=>by
 unfold Lf at b;refine cw Tryz.func137 ?_;repeat' first
  |refine bA b (fun v b=>?_) fun b=>?_
  |refine aF b fun b=>?_
  |refine aD [1] ?_;conv=>whnf
  |refine aN b (fun b=>?_) fun b=>?_
  |refine bB ?_
  |refine aX ?_
  |refine aU b fun a b=>?_
  |refine bH (fun q=>AV.mapv (List.map (encM aI AV.bool) q)) b fun x b=>?_
  |exact ⟨_,b,aA []⟩
  |refine AndA ?_
  |refine aP ?_
  |exact aB b⟩
instance zli {n e b}:CI E0 (Ul n e b) false 73 [.sl 3 (e.map A5),.fn 137 [.ref [.sl 1 (List.map (fun q=>AV.mapv (List.map (encM aI AV.bool) q)) (b))]]] (fun r=>.sl 3 (r.map A5)):=⟨fun {r} d=>by
 unfold Ul at d;refine cw Tryz.func73 ?_;repeat' first
  |refine bA d (fun v d=>?_) fun d=>?_
  |refine aF d fun d=>?_
  |refine aD [9,12] ?_;conv=>whnf
  |refine aN d (fun d=>?_) fun d=>?_
  |refine bB ?_
  |refine aX ?_
  |refine aH d fun x d=>?_
  |refine aO d fun l d=>?_
  |exact ⟨_,d,aA [(7053,53)]⟩
  |exact ⟨_,d,aA []⟩
  |refine aU d fun a d=>?_
  |refine aY d ?_ fun m v d=>?_
  |exact aA []
  |exact aK (aS 5 7053 90 3 rfl rfl) (aA [])
  |refine AndA ?_
  |refine aP ?_
  |exact aB d⟩
instance zx1 {n d}:CI E0 (Wa n d) false 72 [.sl 3 (d.map A5)] (fun r=>.sl 3 (r.map A5)):=⟨fun {r} b=>by
 unfold Wa at b;refine cw Tryz.func72 ?_;repeat' first
  |refine aQ ?_;conv=>whnf
  |refine aN b (fun b=>?_) fun b=>?_
  |refine bB ?_
  |refine aX ?_
  |refine aH b fun x b=>?_
  |refine Ab.o b (fun q=>AV.sl 4 (List.map Az q)) (fun a h=>zrp h) (fun a b=>?_)
  |refine Ab.o b (fun q=>AV.sl 2 (List.map Ah q)) (fun a h=>zro h) (fun a b=>?_)
  |refine aO b fun l b=>?_
  |exact ⟨_,b,aA [(7023,23)]⟩
  |refine aY b ?_ fun m v b=>?_
  |exact aK (aS 3 7023 90 3 rfl rfl) (aA [])
  |refine AndA ?_
  |refine aP ?_
  |exact aB b⟩
instance znk {n a a1bc0}:CI E0 (Zd n a a1bc0) false 71 [.sl 3 (a.map A5),.ref [.fn 137 [.ref [.sl 1 (List.map (fun q=>AV.mapv (List.map (encM aI AV.bool) q)) (a1bc0))]]]] (fun r=>.sl 3 (r.map A5)):=by unfold Zd;exact aL [] Tryz.func71
instance zlh {n e d a2c0bc0}:CI E0 (Uk n e d a2c0bc0) false 70 [Bh e,.sl 5 (d.map A7),.fn 71 [.ref [.fn 137 [.ref [.sl 1 (List.map (fun q=>AV.mapv (List.map (encM aI AV.bool) q)) (a2c0bc0))]]]]] (fun r=>.tup [.sl 1 (List.map (fun q=>AV.sl 3 (List.map A5 q)) (r.1)),aI r.2]):=⟨fun {r} b=>by
 unfold Uk at b;refine Con.env (E:=E0b) rfl rfl ?_;refine Con.walk _ bM rfl (Av bM rfl rfl) rfl (aE rfl) ?_;repeat' first
  |refine aQ ?_;conv=>whnf
  |refine aN b (fun b=>?_) fun b=>?_
  |refine bB ?_
  |refine aX ?_
  |refine aU b fun a b=>?_
  |refine OpX.bldS A5 b rfl rfl rfl rfl rfl rfl rfl rfl rfl rfl rfl rfl rfl rfl (fun l b=>?_)
  |refine OpX.bldR (fun q=>AV.sl 3 (List.map A5 q)) b rfl rfl rfl rfl rfl rfl rfl rfl rfl rfl rfl rfl rfl rfl rfl rfl (by first|exact SubR.refl _|(repeat' first|exact SubR.nil|refine SubR.cons ?_ ?_|exact SubL.nil|refine SubL.cons ?_ ?_|exact Sub.refl _|exact Sub.nil _)) rfl (fun l b=>?_)
  |refine OpX.bld (fun q=>AV.sl 3 (List.map A5 q)) b rfl rfl rfl rfl rfl rfl rfl rfl rfl rfl rfl rfl rfl rfl rfl rfl (fun l b=>?_)
  |refine aH b fun x b=>?_
  |refine bF A7 b (fun l b=>?_)
  |refine NatX.o b (fun m b=>?_)
  |refine EltX.o (fun q=>AV.sl 3 (List.map A5 q)) b (fun x b=>?_)
  |refine OpX.bldS (fun q=>AV.sl 3 (List.map A5 q)) b rfl rfl rfl rfl rfl rfl rfl rfl rfl rfl rfl rfl rfl rfl (fun l b=>?_)
  |refine aO b fun l b=>?_
  |exact ⟨_,b,aA [(7016,51)]⟩
  |refine aY b ?_ fun m v b=>?_
  |exact aA [(7016,16)]
  |refine AndA ?_
  |refine aP ?_
  |exact aB b⟩
instance zrd {n e d}:CI E0 (R9 n e d) false 22 [Bh e,.sl 5 (d.map A7)] (fun r=>.tup [aI r.1,Ax r.2.1,.agg [.sl 1 (List.map (fun q=>AV.sl 3 (List.map A5 q)) (r.2.2.1.fSets))],aI r.2.2.2]):=⟨fun {r} b=>by
 unfold R9 at b;refine cw Tryz.func22 ?_;repeat' first
  |refine bI b 43000000 rfl rfl (fun b=>?_)
  |refine bI b 11 rfl rfl (fun b=>?_)
  |refine aF b fun b=>?_
  |refine aV b 43000000 rfl (fun b=>?_)
  |refine aV b 11 rfl (fun b=>?_)
  |refine aD [10] ?_;conv=>whnf
  |refine aN b (fun b=>?_) fun b=>?_
  |refine bB ?_
  |refine aX ?_
  |refine aU b fun a b=>?_
  |refine aH b fun x b=>?_
  |refine B3.oM (Bc 42 b) [] [(3,43000000)] _ _ Lu Qk [] (fun a h=>aM (Yo h)) (Av bC rfl rfl) rfl rfl rfl trivial (fun a=>⟨rfl,rfl,rfl,rfl,rfl,rfl,rfl,rfl⟩) (fun a b=>?_)
  |refine bP (Bc 42 b) [] [(3,43000000)] _ _ Lu Qk [] (fun a h=>aM (Yo h)) (Av bC rfl rfl) rfl rfl rfl trivial (fun a=>⟨rfl,rfl,rfl,rfl,rfl,rfl,rfl,rfl⟩) (fun a b=>?_)
  |refine AndA ?_
  |refine aP ?_
  |exact aB b⟩
instance y5c {n f e d}:CI E0 (N6 n f e d) true 145 [Bh f,.sl 5 (e.map A7),A5 d] aI:=⟨fun {r} b=>by
 unfold N6 at b;refine cw Tryz.func145 ?_;repeat' first
  |refine aQ ?_;conv=>whnf
  |refine aN b (fun b=>?_) fun b=>?_
  |refine Ab.oP b Em (fun u=>.tup [.nilp,aI (u.2)]) (fun u y=>.tup [.ref [aI (y.fa.fVars),aI (y.fa.fScopes),.sl 1 (y.fa.fStates.map Ao),.sl 17 (y.fa.fEdges.map Ac),.mapv (List.map (encM Bm A7) (y.fheld))],aI (u.2)]) (fun u h=>by simp only [Em,h,Ga]) (fun u y h=>by simp only [Em,h,Ga]) (fun a h=>z2x.h h) (fun a b=>?_) (fun a y b=>?_)
  |(cases b;done)
  |refine aU b fun a b=>?_
  |exact aB b⟩
instance zra {n b a}:CI E0 (Vg n b a) true 266 [.sl 2 (b.map Ah),.sl 2 (a.map Ah)] (fun r=>.bool (r)):=by unfold Vg;exact aL [] Tryz.func266
instance zud {n b a}:CI E0 (W6 n b a) true 215 [A5 b,A5 a] (fun r=>.bool (r)):=by unfold W6;exact aL [1] Tryz.func215
instance zol {n b a}:CI E0 (V3 n b a) true 146 [A5 b,A5 a] aI:=by unfold V3;exact aL [2] Tryz.func146
end
noncomputable section
abbrev z4a {n b a1c0bc0 a c}:=li (Ka n b a1c0bc0 a c) (fun d=>⟨[(0,.sl 3 (a.map A5)),(1,.fn 77 [.ref [.fn 137 [.ref [.sl 1 (List.map (fun q=>AV.mapv (List.map (encM aI AV.bool) q)) (a1c0bc0))]]],.ref (C2 b)]),(7,aI (((a.map A5).length:Int))),(8,aI d)],[]⟩) fun _ _=>Ka.eq_2 ..
abbrev z49 {n b c a1c0bc0bc0 a d}:=li (K9 n b c a1c0bc0bc0 a d) (fun e=>⟨[(0,.sl 3 (a.map A5)),(1,.fn 78 [.ref [.fn 75 [.ref [.fn 137 [.ref [.sl 1 (List.map (fun q=>AV.mapv (List.map (encM aI AV.bool) q)) (a1c0bc0bc0))]]]]],.ref [.sl 1 (List.map (fun q=>AV.sl 3 (List.map A5 q)) (c.fSets))],.ref [aI b]]),(7,aI (((a.map A5).length:Int))),(8,aI e)],[]⟩) fun _ _=>K9.eq_2 ..
abbrev zab {n h a i b f c d e}:=jf (Iu n h a i b f c d e) (fun g=>⟨[(1,.sl 5 (a.map A7)),(3,.ptr 3 0),(5,.ptr 5 0),(10,.ref [.fn 75 [.ref [.fn 137 [.ref [.sl 1 (List.map (fun q=>AV.mapv (List.map (encM aI AV.bool) q)) (b.1))]]]]]),(11,.ptr 11 0),(12,.ptr 12 0),(42,.sl 5 (a.map A7)),(43,aI (((a.map A7).length:Int))),(44,aI b.2),(53,.sl 3 (c.map A5)),(54,aI (((c.map A5).length:Int))),(55,aI d),(81,.bool (g))],[(3,.box 26 (B1 i)),(5,.box 57 [.sl 1 (List.map (fun q=>AV.sl 3 (List.map A5 q)) (h.fSets))]),(11,.box 3 [aI b.2]),(12,.box 37 (Bx f))]⟩) fun _=>Iu.eq_1 ..
abbrev za9 {n g a h b e c d}:=li (Gx n g a h b e c d) (fun f=>⟨[(1,.sl 5 (a.map A7)),(3,.ptr 3 0),(5,.ptr 5 0),(10,.ref [.fn 75 [.ref [.fn 137 [.ref [.sl 1 (List.map (fun q=>AV.mapv (List.map (encM aI AV.bool) q)) (b.1))]]]]]),(11,.ptr 11 0),(12,.ptr 12 0),(42,.sl 5 (a.map A7)),(43,aI (((a.map A7).length:Int))),(44,aI b.2),(53,.sl 3 (c.map A5)),(54,aI (((c.map A5).length:Int))),(55,aI f)],[(3,.box 26 (B1 h)),(5,.box 57 [.sl 1 (List.map (fun q=>AV.sl 3 (List.map A5 q)) (g.fSets))]),(11,.box 3 [aI b.2]),(12,.box 37 (Bx e))]⟩) fun _ _=>Gx.eq_2 ..
abbrev zaa {n d a e b}:=li (Ir n d a e b) (fun c=>⟨[(1,.sl 5 (a.map A7)),(3,.ptr 3 0),(5,.ptr 5 0),(10,.ref [.fn 75 [.ref [.fn 137 [.ref [.sl 1 (List.map (fun q=>AV.mapv (List.map (encM aI AV.bool) q)) (c.1))]]]]]),(42,.sl 5 (a.map A7)),(43,aI (((a.map A7).length:Int))),(44,aI c.2)],[(3,.box 26 (B1 e)),(5,.box 57 [.sl 1 (List.map (fun q=>AV.sl 3 (List.map A5 q)) (d.fSets))])]⟩) fun _ _=>Ir.eq_2 ..
abbrev zea {n}:=jf (J5 n) (fun b=>⟨[(12,.bool (b))],[]⟩) fun _=>J5.eq_1 ..
abbrev zeb {n a}:=jf (Rj n a) (fun b=>⟨[(1,.ptr 1 0),(3,.bool (b))],[(1,.box 37 (Bx a))]⟩) fun _=>Rj.eq_1 ..
abbrev zfy {n a d b}:=li (z1f n a d b) (fun c=>⟨[(6,.sl 2 (d.fFields.map El)),(38,.sl 3 (a.fValues.map Af)),(39,aI (((a.fValues.map Af).length:Int))),(40,aI c)],[]⟩) fun _ _=>z1f.eq_2 ..
abbrev zfz {n a d}:=jf (S4 n a d) (fun b=>⟨[(0,.sl 2 (d.map Bj)),(3,.ptr 3 0),(24,.bool (b))],[(3,.box 37 (Bx a))]⟩) fun _=>S4.eq_1 ..
abbrev zdt {n}:=jf (Re n) (fun b=>⟨[(31,.bool (b))],[]⟩) fun _=>Re.eq_1 ..
abbrev zdu {n a}:=jt (Rg n a) (fun b=>⟨[(1,.ptr 1 0),(3,aI b)],[(1,.box 39 [aI a.fVerdict,aI a.fBound,.sl 5 (a.fPrefix.map A7),aI a.fPeriod])]⟩) fun _=>Rg.eq_1 ..
attribute [instance] z4a z49 zab za9 zaa zea zeb zfy zfz zdt zdu
instance zuf {n f e d}:CI E0 (J7 n f e d) true 74 [Bh f,.sl 5 (e.map A7),.agg [.sl 1 (List.map (fun q=>AV.sl 3 (List.map A5 q)) (d.fSets))]] aI:=⟨fun {r} b=>by
 unfold J7 at b;refine cw Tryz.func74 ?_;repeat' first
  |refine bA b (fun v b=>?_) fun b=>?_
  |refine aF b fun b=>?_
  |refine aD [14] ?_;conv=>whnf
  |refine aN b (fun b=>?_) fun b=>?_
  |refine bB ?_
  |refine aX ?_
  |refine bH (fun q=>AV.sl 3 (List.map A5 q)) b fun x b=>?_
  |exact ⟨_,b,aA []⟩
  |refine aH b fun x b=>?_
  |refine bF A7 b (fun l b=>?_)
  |refine aU b fun a b=>?_
  |refine aY b (aA []) fun m v b=>?_
  |refine AndA ?_
  |refine aP ?_
  |exact aB b⟩
instance zk0 {n b a1bc0 a}:CI E0 (Yu n b a1bc0 a) true 77 [A5 b,.ref [.fn 137 [.ref [.sl 1 (List.map (fun q=>AV.mapv (List.map (encM aI AV.bool) q)) (a1bc0))]]],.ref (C2 a)] (fun r=>.bool (r)):=by unfold Yu;exact aL [] Tryz.func77
instance zjp {n a a1c0bc0 b}:CI E0 (Ys n a a1c0bc0 b) true 147 [.sl 3 (a.map A5),.fn 77 [.ref [.fn 137 [.ref [.sl 1 (List.map (fun q=>AV.mapv (List.map (encM aI AV.bool) q)) (a1c0bc0))]]],.ref (C2 b)]] aI:=by unfold Ys;exact aL [] bJ
instance zgi {n a a1c0bc0 b}:CI E0 (Y9 n a a1c0bc0 b) true 76 [.sl 3 (a.map A5),.fn 77 [.ref [.fn 137 [.ref [.sl 1 (List.map (fun q=>AV.mapv (List.map (encM aI AV.bool) q)) (a1c0bc0))]]],.ref (C2 b)]] (fun r=>.bool (r)):=by unfold Y9;exact aL [] bQ
instance znj {n e d a2bc0}:CI E0 (Qw n e d a2bc0) true 75 [.sl 3 (e.map A5),A5 d,.ref [.fn 137 [.ref [.sl 1 (List.map (fun q=>AV.mapv (List.map (encM aI AV.bool) q)) (a2bc0))]]]] (fun r=>.bool (r)):=⟨fun {r} b=>by
 unfold Qw at b;refine cw Tryz.func75 ?_;repeat' first
  |refine aQ ?_;conv=>whnf
  |refine aN b (fun b=>?_) fun b=>?_
  |refine bB ?_
  |refine aX ?_
  |refine B3.I b (fun a b=>?_) rfl rfl fun _=>aG rfl
  |refine AndA ?_
  |refine aP ?_
  |exact aB b⟩
instance y6h {n g f e d}:CI E0 (X6 n g f e d) false 40 [Bh g,.sl 5 (f.map A7),A5 e,A7 d] (fun r=>.tup [.sl 3 (r.1.map A5),.sl 1 (r.2.1.map Ax),aI r.2.2]):=⟨fun {r} b=>by
 unfold X6 at b;refine cw Tryz.func40 ?_;repeat' first
  |refine aQ ?_;conv=>whnf
  |refine aN b (fun b=>?_) fun b=>?_
  |refine bB ?_
  |refine aX ?_
  |refine Ab.oP b Em (fun u=>.tup [.nilp,aI (u.2)]) (fun u y=>.tup [.ref [aI (y.fa.fVars),aI (y.fa.fScopes),.sl 1 (y.fa.fStates.map Ao),.sl 17 (y.fa.fEdges.map Ac),.mapv (List.map (encM Bm A7) (y.fheld))],aI (u.2)]) (fun u h=>by simp only [Em,h,Ga]) (fun u y h=>by simp only [Em,h,Ga]) (fun a h=>z2x.h h) (fun a b=>?_) (fun a y b=>?_)
  |(cases b;done)
  |refine aU b fun a b=>?_
  |refine AndA ?_
  |refine aP ?_
  |exact aB b⟩
instance zni {n f a1bc0bc0 e d}:CI E0 (Zc n f a1bc0bc0 e d) true 78 [A5 f,.ref [.fn 75 [.ref [.fn 137 [.ref [.sl 1 (List.map (fun q=>AV.mapv (List.map (encM aI AV.bool) q)) (a1bc0bc0))]]]]],.ref [.sl 1 (List.map (fun q=>AV.sl 3 (List.map A5 q)) (e.fSets))],.ref [aI d]] (fun r=>.bool (r)):=⟨fun {r} b=>by
 unfold Zc at b;refine cw Tryz.func78 ?_;repeat' first
  |refine aQ ?_;conv=>whnf
  |refine aN b (fun b=>?_) fun b=>?_
  |refine bB ?_
  |refine aX ?_
  |refine bH (fun q=>AV.sl 3 (List.map A5 q)) b fun x b=>?_
  |refine aU b fun a b=>?_
  |refine AndA ?_
  |refine aP ?_
  |exact aB b⟩
instance zjo {n a a1c0bc0bc0 b c}:CI E0 (Yr n a a1c0bc0bc0 b c) true 147 [.sl 3 (a.map A5),.fn 78 [.ref [.fn 75 [.ref [.fn 137 [.ref [.sl 1 (List.map (fun q=>AV.mapv (List.map (encM aI AV.bool) q)) (a1c0bc0bc0))]]]]],.ref [.sl 1 (List.map (fun q=>AV.sl 3 (List.map A5 q)) (b.fSets))],.ref [aI c]]] aI:=by unfold Yr;exact aL [] bJ
instance zgh {n a a1c0bc0bc0 b c}:CI E0 (Tn n a a1c0bc0bc0 b c) true 76 [.sl 3 (a.map A5),.fn 78 [.ref [.fn 75 [.ref [.fn 137 [.ref [.sl 1 (List.map (fun q=>AV.mapv (List.map (encM aI AV.bool) q)) (a1c0bc0bc0))]]]]],.ref [.sl 1 (List.map (fun q=>AV.sl 3 (List.map A5 q)) (b.fSets))],.ref [aI c]]] (fun r=>.bool (r)):=by unfold Tn;exact aL [] bQ
instance zrc {n f e d}:CI E0 (F9 n f e d) true 23 [Bh f,.sl 5 (e.map A7),.agg [.sl 1 (List.map (fun q=>AV.sl 3 (List.map A5 q)) (d.fSets))]] aI:=⟨fun {r} b=>by
 unfold F9 at b;refine cw Tryz.func23 ?_;repeat' first
  |refine bI b 33000000 rfl rfl (fun b=>?_)
  |refine bI b 9 rfl rfl (fun b=>?_)
  |refine bA b (fun v b=>?_) fun b=>?_
  |refine aF b fun b=>?_
  |refine aV b 33000000 rfl (fun b=>?_)
  |refine aV b 9 rfl (fun b=>?_)
  |refine aV b 10 rfl (fun b=>?_)
  |refine aD [9,18] ?_;conv=>whnf
  |refine aN b (fun b=>?_) fun b=>?_
  |refine bB ?_
  |refine aX ?_
  |refine aU b fun a b=>?_
  |refine B3.oM (Bc 32 b) [] [(3,33000000)] _ _ Lu Qk [] (fun a h=>aM (Yo h)) (Av bC rfl rfl) rfl rfl rfl trivial (fun a=>⟨rfl,rfl,rfl,rfl,rfl,rfl,rfl,rfl⟩) (fun a b=>?_)
  |refine bP (Bc 32 b) [] [(3,33000000)] _ _ Lu Qk [] (fun a h=>aM (Yo h)) (Av bC rfl rfl) rfl rfl rfl trivial (fun a=>⟨rfl,rfl,rfl,rfl,rfl,rfl,rfl,rfl⟩) (fun a b=>?_)
  |refine bH (fun q=>AV.sl 3 (List.map A5 q)) b fun x b=>?_
  |refine aH b fun x b=>?_
  |exact ⟨_,b,aA []⟩
  |refine bF A7 b (fun l b=>?_)
  |refine B3.I b (fun a b=>?_) rfl rfl fun _=>aG rfl
  |refine aY b ?_ fun m v b=>?_
  |exact aA []
  |exact aK (LeX.frb 10 rfl rfl) (aA [])
  |refine AndA ?_
  |refine aP ?_
  |exact aB b⟩
instance zyl {n a}:CI E0 (z3s n a) true 270 [A7 a] aI:=by unfold z3s;exact aL [1,3] Tryz.func270
instance y2e {n b a}:CI E0 (z9c n b a) true 221 [.sl 2 (b.map Bj),A7 a] aI:=by unfold z9c;exact aL [4] Tryz.func221
instance y2f {n b a}:CI E0 (z9d n b a) true 162 [.sl 2 (b.map Bj),A7 a] aI:=by unfold z9d;exact aL [] Tryz.func162
end
noncomputable section
abbrev z48 {n c b a d}:=li (Y5 n c b a d) (fun e=>⟨[(0,.sl 1 (a.map aI)),(1,.fn 224 [.ref [.sl 2 (b.ftypes.map Bj),aI b.fa.fVars,aI b.fa.fScopes,.sl 1 (b.fa.fStates.map Ao),.sl 17 (b.fa.fEdges.map Ac)],.ref [aI c]]),(7,aI (((a.map aI).length:Int))),(8,aI e)],[]⟩) fun _ _=>Y5.eq_2 ..
abbrev z2l {n a c}:=li (O9 n a c) (fun b=>⟨[(1,.fn 225 [.ptr 100000 0,.ptr 100001 0]),(2,.ptr 2 0),(5,.row 7027),(10,.sl 17 (a.fa.fEdges.map Ac)),(11,aI (((a.fa.fEdges.map Ac).length:Int))),(12,aI b.1)],[(100000,.box 3 [aI b.2.1]),(100001,.box 113 [.row 200001]),(2,.box 111 [.sl 2 (a.ftypes.map Bj),aI a.fa.fVars,aI a.fa.fScopes,.sl 1 (a.fa.fStates.map Ao),.sl 17 (a.fa.fEdges.map Ac)]),(7027,.row 149 17 (b.2.2.1.map Ac)),(200001,.mp (List.map (encM aI AV.bool) (b.2.2.2)))]⟩) fun _ _=>O9.eq_2 ..
abbrev z7i {n c}:=li (Yl n c) (fun b=>⟨[(5,.fn 222 [.ptr 3 0,.ptr 2 0]),(49,.ptr 49 0)],[(3,.box 43 [.sl 1 (b.1.map aI)]),(2,.box 111 [.sl 2 (b.2.1.map Bj),aI b.2.2.1,aI b.2.2.2.1,.sl 1 (b.2.2.2.2.1.map Ao),.sl 17 (b.2.2.2.2.2.1.map Ac)]),(49,.it (List.map (encM aI AV.bool) (b.2.2.2.2.2.2)))]⟩) fun _ _=>Yl.eq_2 ..
abbrev z7h {n b d c e}:=li (Yk n b d c e) (fun f=>⟨[(2,.ptr 2 0),(5,.fn 222 [.ptr 3 0,.ptr 2 0]),(6,.ptr 6 0),(9,.row 30),(24,.sl 1 (b.2.2.2.2.2.2.map aI)),(25,aI (((b.2.2.2.2.2.2.map aI).length:Int))),(26,aI d.1),(33,.sl 17 (c.1.map Ac)),(34,aI (((c.1.map Ac).length:Int))),(35,aI f.1)],[(2,.box 111 [.sl 2 (b.2.1.map Bj),aI b.2.2.1,aI b.2.2.2.1,.sl 1 (b.2.2.2.2.1.map Ao),.sl 17 (b.2.2.2.2.2.1.map Ac)]),(3,.box 43 [.sl 1 (b.2.2.2.2.2.2.map aI)]),(6,.box 113 [.row 34000002]),(30,.mp (List.map (encM aI AV.bool) (f.2))),(34000002,.mp (List.map (encM aI AV.bool) (c.2.2)))]⟩) fun _ _=>Yk.eq_2 ..
abbrev z7j {n b c}:=li (Ym n b c) (fun d=>⟨[(2,.ptr 2 0),(5,.fn 222 [.ptr 3 0,.ptr 2 0]),(6,.ptr 6 0),(24,.sl 1 (b.2.2.2.2.2.2.map aI)),(25,aI (((b.2.2.2.2.2.2.map aI).length:Int))),(26,aI d.1)],[(2,.box 111 [.sl 2 (b.2.1.map Bj),aI b.2.2.1,aI b.2.2.2.1,.sl 1 (b.2.2.2.2.1.map Ao),.sl 17 (b.2.2.2.2.2.1.map Ac)]),(3,.box 43 [.sl 1 (b.2.2.2.2.2.2.map aI)]),(6,.box 113 [.row 7022]),(7022,.mp (List.map (encM aI AV.bool) (d.2)))]⟩) fun _ _=>Ym.eq_2 ..
abbrev z7k {n}:=jf (Pq n) (fun b=>⟨[(2,.ptr 2 0),(3,.ptr 3 0),(5,.fn 222 [.ptr 3 0,.ptr 2 0]),(21,.bool (b.1))],[(2,.box 111 [.sl 2 (b.2.1.map Bj),aI b.2.2.1,aI b.2.2.2.1,.sl 1 (b.2.2.2.2.1.map Ao),.sl 17 (b.2.2.2.2.2.1.map Ac)]),(3,.box 43 [.sl 1 (b.2.2.2.2.2.2.map aI)])]⟩) fun _=>Pq.eq_1 ..
abbrev z3d {n e f a b c}:=li (Y0 n e f a b c) (fun d=>⟨[(1,aI f),(3,.ptr 3 0),(5,.ptr 5 0),(8,.row 7038),(12,aI d)],[(3,.box 111 [.sl 2 (a.ftypes.map Bj),aI a.fa.fVars,aI a.fa.fScopes,.sl 1 (a.fa.fStates.map Ao),.sl 17 (a.fa.fEdges.map Ac)]),(5,.box 39 [aI e.fVerdict,aI e.fBound,.sl 5 (e.fPrefix.map A7),aI e.fPeriod]),(7038,.row 3 1 (b.map aI))]⟩) fun _ _=>Y0.eq_2 ..
abbrev z3e {n a e d b}:=li (Y1 n a e d b) (fun c=>⟨[(1,aI e),(3,.ptr 3 0),(5,.ptr 5 0),(8,.row 7038),(21,.sl 5 (a.fPrefix.map A7)),(22,aI (((a.fPrefix.map A7).length:Int))),(23,aI c.1)],[(3,.box 111 [.sl 2 (d.ftypes.map Bj),aI d.fa.fVars,aI d.fa.fScopes,.sl 1 (d.fa.fStates.map Ao),.sl 17 (d.fa.fEdges.map Ac)]),(5,.box 39 [aI a.fVerdict,aI a.fBound,.sl 5 (a.fPrefix.map A7),aI a.fPeriod]),(7038,.row 3 1 (c.2.map aI))]⟩) fun _ _=>Y1.eq_2 ..
abbrev zdw {n}:=jf (Rh n) (fun b=>⟨[(45,.bool (b))],[]⟩) fun _=>Rh.eq_1 ..
abbrev zdx {n a d e}:=jf (Ri n a d e) (fun b=>⟨[(2,aI d),(5,.ptr 5 0),(7,.ptr 7 0),(31,.bool (b))],[(5,.box 26 (B1 e)),(7,.box 39 [aI a.fVerdict,aI a.fBound,.sl 5 (a.fPrefix.map A7),aI a.fPeriod])]⟩) fun _=>Ri.eq_1 ..
attribute [instance] z48 z2l z7i z7h z7j z7k z3d z3e zdw zdx
instance zyf {n a}:CI E0 (z3p n a) true 163 [.agg [aI a.fVerdict,aI a.fBound,.sl 5 (a.fPrefix.map A7),aI a.fPeriod]] aI:=by unfold z3p;exact aL [3,5] Tryz.func163
instance zia {n d a b}:CI E0 (z08 n d a b) true 224 [aI d,.ref [.sl 2 (a.ftypes.map Bj),aI a.fa.fVars,aI a.fa.fScopes,.sl 1 (a.fa.fStates.map Ao),.sl 17 (a.fa.fEdges.map Ac)],.ref [aI b]] (fun r=>.bool (r)):=by unfold z08;exact aL [] Tryz.func224
instance zjn {n a b c}:CI E0 (z0b n a b c) true 272 [.sl 1 (a.map aI),.fn 224 [.ref [.sl 2 (b.ftypes.map Bj),aI b.fa.fVars,aI b.fa.fScopes,.sl 1 (b.fa.fStates.map Ao),.sl 17 (b.fa.fEdges.map Ac)],.ref [aI c]]] aI:=by unfold z0b;exact aL [] Tryz.func272
instance zgg {n a b c}:CI E0 (z02 n a b c) true 223 [.sl 1 (a.map aI),.fn 224 [.ref [.sl 2 (b.ftypes.map Bj),aI b.fa.fVars,aI b.fa.fScopes,.sl 1 (b.fa.fStates.map Ao),.sl 17 (b.fa.fEdges.map Ac)],.ref [aI c]]] (fun r=>.bool (r)):=by unfold z02;exact aL [] Tryz.func223
def z98 (d:Int)(b:(List Int))(a:Bg):List (Nat×Ent):=[(100000,.box 43 [.sl 1 (b.map aI)]),(100001,.box 111 [.sl 2 (a.ftypes.map Bj),aI a.fa.fVars,aI a.fa.fScopes,.sl 1 (a.fa.fStates.map Ao),.sl 17 (a.fa.fEdges.map Ac)])]
def L4 (r:Bool×(List Int)×Bg):List (Nat×Ent):=[(100000,.box 43 [.sl 1 (r.2.1.map aI)]),(100001,.box 111 [.sl 2 (r.2.2.ftypes.map Bj),aI r.2.2.fa.fVars,aI r.2.2.fa.fScopes,.sl 1 (r.2.2.fa.fStates.map Ao),.sl 17 (r.2.2.fa.fEdges.map Ac)])]
def Pv (r:Bool×(List Int)×Bg):AV:=.bool (r.1)
def z93 (r:Bool×(List Int)×Bg):AS:=⟨[(4,.bool (r.1)),(1,.ptr 100000 0),(2,.ptr 100001 0)],L4 r⟩
theorem Ye {n d f e r}(b:Yw n d f e=some r):ConG E0.P none (CalF E0.P 222 0) [aI d,.ptr 100000 0,.ptr 100001 0] [] (z98 d f e) (Pv r) (L4 r):=by
 unfold Yw at b;refine bG (E:=(E0p 3)) (caps:=[]) _ aR rfl rfl rfl rfl rfl ?_;repeat' first
  |refine aQ ?_;conv=>whnf
  |refine aN b (fun b=>?_) fun b=>?_
  |refine bB ?_
  |refine aX ?_
  |refine B3.I b (fun a b=>?_) rfl rfl fun _=>aG rfl
  |exact GX.A (res:=Pv) (meF:=L4) b z93
  |refine AndA ?_
  |refine aP ?_
def z97 (d:Ag)(b:Int)(a:(List (Int×Bool))):List (Nat×Ent):=[(100000,.box 3 [aI b]),(100001,.box 113 [.row 200001]),(200001,.mp (List.map (encM aI AV.bool) (a)))]
def U3 (r:Bool×Int×(List (Int×Bool))):List (Nat×Ent):=[(100000,.box 3 [aI r.2.1]),(100001,.box 113 [.row 250001]),(250001,.mp (List.map (encM aI AV.bool) (r.2.2)))]
def Yq (r:Bool×Int×(List (Int×Bool))):AV:=.bool (r.1)
def z92 (r:Bool×Int×(List (Int×Bool))):AS:=⟨[(4,.bool (r.1)),(1,.ptr 100000 0),(2,.ptr 100001 0)],U3 r⟩
theorem z1c {n d f e r}(a:z0f n d f e=some r):ConG E0.P none (CalF E0.P 225 0) [Ac d,.ptr 100000 0,.ptr 100001 0] [] (z97 d f e) (Yq r) (U3 r):=by
 unfold z0f at a;refine bG (E:=(E0p 3)) (caps:=[]) _ bD rfl rfl rfl rfl rfl ?_;repeat' first
  |refine aQ ?_;conv=>whnf
  |refine aN a (fun a=>?_) fun a=>?_
  |refine bB ?_
  |refine aX ?_
  |refine LkX.o aI AV.bool a (by first|rfl|kernel_rfl) Cz (.refl _) (fun v b a=>?_)
  |exact GX.A (res:=Yq) (meF:=U3) a z92 (h1:=aA [(250001,200001)])
  |refine AndA ?_
  |refine aP ?_
def z4y (d:Bg)(b:Int)(a:(List (Int×Bool))):List (Nat×Ent):=[(100000,.box 3 [aI b]),(100001,.box 113 [.row 200001]),(200001,.mp (List.map (encM aI AV.bool) (a)))]
def Tl (r:(List Ag)×Int×(List (Int×Bool))):List (Nat×Ent):=[(100000,.box 3 [aI r.2.1]),(100001,.box 113 [.row 250001]),(250001,.mp (List.map (encM aI AV.bool) (r.2.2)))]
def Y3 (r:(List Ag)×Int×(List (Int×Bool))):AV:=.sl 17 (r.1.map Ac)
def z4w (r:(List Ag)×Int×(List (Int×Bool))):AS:=⟨[(4,.sl 17 (r.1.map Ac)),(1,.fn 225 [.ptr 100000 0,.ptr 100001 0])],Tl r⟩
theorem z0q {n d f e r}(b:z05 n d f e=some r):ConG E0.P none (CalF E0.P 105 0) [.agg [.sl 2 (d.ftypes.map Bj),aI d.fa.fVars,aI d.fa.fScopes,.sl 1 (d.fa.fStates.map Ao),.sl 17 (d.fa.fEdges.map Ac)],.fn 225 [.ptr 100000 0,.ptr 100001 0]] [] (z4y d f e) (Y3 r) (Tl r):=by
 unfold z05 at b;refine bG (E:=(E0p 2)) (caps:=[]) _ bE rfl rfl rfl rfl rfl ?_;repeat' first
  |refine aF b fun b=>?_
  |refine aV b 7027 rfl (fun b=>?_)
  |refine aD [8] ?_;conv=>whnf
  |refine aN b (fun b=>?_) fun b=>?_
  |refine bB ?_
  |refine aX ?_
  |refine GX.o (res:=Y3) (meF:=Tl) b ?_;exact GX.mk (z4w _) (aA [(250001,200001)]) rfl _ rfl (by repeat' first|exact Sub.nil _|exact Sub.refl _|refine Sub.agg ?_|refine Sub.tup ?_|refine Sub.fn ?_|exact SubL.nil|refine SubL.cons ?_ ?_|refine Sub.sl _ ?_|exact SubE.nil|refine SubE.cons ?_ ?_) [100000,100001] ⟨aG ⟨1,0,_,_,_,_,_,Nat.le_of_ble_eq_true rfl,rfl,rfl,rfl,rfl,rfl⟩,⟨aG ⟨1,1,_,_,_,_,_,Nat.le_of_ble_eq_true rfl,rfl,rfl,rfl,rfl,rfl⟩,trivial⟩⟩ rfl
  |refine aH b fun x b=>?_
  |refine aU b fun a b=>?_
  |refine B3.oM (Bc 22 b) [(100000,100000),(100001,100001),(200001,200001)] [(100000,100000),(100001,100001),(250001,23000002)] _ _ U3 Yq [200001] (fun a h=>aM (z1c h)) (Av bD rfl rfl) rfl rfl rfl ⟨⟨rfl,rfl⟩,⟨⟨rfl,rfl⟩,⟨⟨rfl,rfl⟩,trivial⟩⟩⟩ (fun a=>⟨rfl,rfl,rfl,rfl,rfl,rfl,rfl,rfl⟩) (fun a b=>?_)
  |refine bP (Bc 22 b) [(100000,100000),(100001,100001),(200001,200001)] [(100000,100000),(100001,100001),(250001,23000002)] _ _ U3 Yq [200001] (fun a h=>aM (z1c h)) (Av bD rfl rfl) rfl rfl rfl ⟨⟨rfl,rfl⟩,⟨⟨rfl,rfl⟩,⟨⟨rfl,rfl⟩,trivial⟩⟩⟩ (fun a=>⟨rfl,rfl,rfl,rfl,rfl,rfl,rfl,rfl⟩) (fun a b=>?_)
  |refine aO b fun l b=>?_
  |exact ⟨_,b,aA [(7027,27),(200001,23000002)]⟩
  |exact ⟨_,b,aA [(200001,23000002)]⟩
  |exact ⟨_,b,aA []⟩
  |refine aY b ?_ fun m v b=>?_
  |exact aK (aS 5 7027 149 17 rfl rfl) (aA [])
  |refine AndA ?_
  |refine aP ?_
instance znl {n d e}:CI E0 (z0z n d e) true 164 [.agg [.sl 2 (d.ftypes.map Bj),aI d.fa.fVars,aI d.fa.fScopes,.sl 1 (d.fa.fStates.map Ao),.sl 17 (d.fa.fEdges.map Ac)],.sl 1 (e.map aI)] (fun r=>.bool (r)):=⟨fun {r} b=>by
 unfold z0z at b;refine cw Tryz.func164 ?_;repeat' first
  |refine AW.frsO AV.bool b 7022 rfl (fun b=>?_)
  |refine AW.pckO (encM aI AV.bool) b 49 rfl (fun x s b=>?_)
  |refine bA b (fun v b=>?_) fun b=>?_
  |refine aF b fun b=>?_
  |refine aV b 7022 rfl (fun b=>?_)
  |refine aD [16,2,18] ?_;conv=>whnf
  |refine aN b (fun b=>?_) fun b=>?_
  |refine bB ?_
  |refine aX ?_
  |refine UpX.o aI AV.bool b (by first|rfl|kernel_rfl) Cz (.refl _) (fun l b=>?_)
  |refine aU b fun a b=>?_
  |refine OpX.rng rfl rfl rfl rfl rfl rfl rfl rfl ?_
  |refine OpX.nxt (encM aI AV.bool) b rfl rfl rfl rfl rfl (fun b=>?_) (fun b=>?_)
  |refine OpX.ent rfl rfl rfl rfl rfl ?_
  |refine B3.oM (Bc 56 b) [(100000,3),(100001,2)] [(100000,3),(100001,2)] _ _ L4 Pv [] (fun a h=>aM (Ye h)) (Av aR rfl rfl) rfl rfl rfl ⟨⟨rfl,rfl⟩,⟨⟨rfl,rfl⟩,trivial⟩⟩ (fun a=>⟨rfl,rfl,rfl,rfl,rfl,rfl,rfl,rfl⟩) (fun a b=>?_)
  |refine bP (Bc 56 b) [(100000,3),(100001,2)] [(100000,3),(100001,2)] _ _ L4 Pv [] (fun a h=>aM (Ye h)) (Av aR rfl rfl) rfl rfl rfl ⟨⟨rfl,rfl⟩,⟨⟨rfl,rfl⟩,trivial⟩⟩ (fun a=>⟨rfl,rfl,rfl,rfl,rfl,rfl,rfl,rfl⟩) (fun a b=>?_)
  |exact ⟨_,b,aK (bT 49 rfl) (aA [])⟩
  |refine aY b ?_ fun m v b=>?_
  |exact aA []
  |refine aH b fun x b=>?_
  |refine B3.oM (Bc 33 b) [(100000,8),(100001,6),(200001,7022)] [(100000,8),(100001,6),(250001,34000002)] _ _ Tl Y3 [7022] (fun a h=>aM (z0q h)) (Av bE rfl rfl) rfl rfl rfl ⟨⟨rfl,rfl⟩,⟨⟨rfl,rfl⟩,⟨⟨rfl,rfl⟩,trivial⟩⟩⟩ (fun a=>⟨rfl,rfl,rfl,rfl,rfl,rfl,rfl,rfl⟩) (fun a b=>?_)
  |refine bP (Bc 33 b) [(100000,8),(100001,6),(200001,7022)] [(100000,8),(100001,6),(250001,34000002)] _ _ Tl Y3 [7022] (fun a h=>aM (z0q h)) (Av bE rfl rfl) rfl rfl rfl ⟨⟨rfl,rfl⟩,⟨⟨rfl,rfl⟩,⟨⟨rfl,rfl⟩,trivial⟩⟩⟩ (fun a=>⟨rfl,rfl,rfl,rfl,rfl,rfl,rfl,rfl⟩) (fun a b=>?_)
  |exact ⟨_,b,aK (bT 49 rfl) (aA [(7022,30)])⟩
  |exact ⟨_,b,aA [(7022,30)]⟩
  |exact ⟨_,b,aK (bT 49 rfl) (aA [])⟩
  |exact ⟨_,b,aA []⟩
  |exact aA [(7022,22)]
  |refine B3.oM (Bc 19 b) [(100000,3),(100001,2)] [(100000,3),(100001,2)] _ _ L4 Pv [] (fun a h=>aM (Ye h)) (Av aR rfl rfl) rfl rfl rfl ⟨⟨rfl,rfl⟩,⟨⟨rfl,rfl⟩,trivial⟩⟩ (fun a=>⟨rfl,rfl,rfl,rfl,rfl,rfl,rfl,rfl⟩) (fun a b=>?_)
  |refine bP (Bc 19 b) [(100000,3),(100001,2)] [(100000,3),(100001,2)] _ _ L4 Pv [] (fun a h=>aM (Ye h)) (Av aR rfl rfl) rfl rfl rfl ⟨⟨rfl,rfl⟩,⟨⟨rfl,rfl⟩,trivial⟩⟩ (fun a=>⟨rfl,rfl,rfl,rfl,rfl,rfl,rfl,rfl⟩) (fun a b=>?_)
  |refine AndA ?_
  |refine aP ?_
  |exact aB b⟩
instance zit {n d f e}:CI E0 (z09 n d f e) true 94 [.agg [.sl 2 (d.ftypes.map Bj),aI d.fa.fVars,aI d.fa.fScopes,.sl 1 (d.fa.fStates.map Ao),.sl 17 (d.fa.fEdges.map Ac)],aI f,.agg [aI e.fVerdict,aI e.fBound,.sl 5 (e.fPrefix.map A7),aI e.fPeriod]] aI:=⟨fun {r} b=>by
 unfold z09 at b;refine cw Tryz.func94 ?_;repeat' first
  |refine aQ ?_;conv=>whnf
  |refine aN b (fun b=>?_) fun b=>?_
  |refine bB ?_
  |refine aX ?_
  |refine aU b fun a b=>?_
  |refine B3.I b (fun a b=>?_) rfl rfl fun _=>aG rfl
  |refine aH b fun x b=>?_
  |exact ⟨_,b,aA []⟩
  |refine aY b ?_ fun m v b=>?_
  |exact aA []
  |refine aO b fun l b=>?_
  |exact ⟨_,b,aA [(7038,38)]⟩
  |exact aK (aS 8 7038 3 1 rfl rfl) (aA [])
  |refine AndA ?_
  |refine aP ?_
  |exact aB b⟩
end
noncomputable section
abbrev z34 {n}:=jf (Oe n) (fun b=>⟨[(0,.bool (b))],[]⟩) fun _=>Oe.eq_1 ..
abbrev z35 {n a d}:=jf (Hu n a d) (fun b=>⟨[(1,.sl 2 [.agg [.str ((ByteArray.mk #[65])),.nils],.agg [.str ((ByteArray.mk #[66])),.nils]]),(2,.sl 5 [.agg [aI 0,aI 0,aI 0,aI 0,.nils],.agg [aI 0,aI 1,aI 0,aI 1,.nils]]),(3,.ptr 3 0),(7,.ptr 7 0),(43,.bool (b))],[(3,.box 39 [aI a.1.fVerdict,aI a.1.fBound,.sl 5 (a.1.fPrefix.map A7),aI a.1.fPeriod]),(7,.box 57 [.sl 1 (List.map (fun q=>AV.sl 3 (List.map A5 q)) (d.2.2.1.fSets))])]⟩) fun _=>Hu.eq_1 ..
abbrev za0 {n}:=jf (Lp n) (fun b=>⟨[(2,.bool (b))],[]⟩) fun _=>Lp.eq_1 ..
abbrev z9s {n a b}:=li (Qc n a b) (fun c=>⟨[(0,.sl 11 (a.map B7)),(3,aI c)],[]⟩) fun _ _=>Qc.eq_2 ..
abbrev z9w {n}:=jf (Lm n) (fun b=>⟨[(2,.bool (b))],[]⟩) fun _=>Lm.eq_1 ..
abbrev z9t {n a b d c}:=li (Qd n a b d c) (fun e=>⟨[(1,.ptr 1 0),(4,aI b),(5,.ptr 5 0),(6,aI e)],[(1,.box 26 (B1 a)),(5,.box 149 (Bs d))]⟩) fun _ _=>Qd.eq_2 ..
abbrev z7z {n a b c e}:=jf (F6 n a b c e) (fun d=>⟨[(1,.ptr 1 0),(4,aI b),(5,.ptr 5 0),(105,.bool (d))],[(1,.box 26 (B1 a)),(5,.box 149 (Bs e))]⟩) fun _=>F6.eq_1 ..
abbrev z80 {n a b c d}:=jf (L8 n a b c d) (fun e=>⟨[(1,.ptr 1 0),(4,aI b),(64,.bool (e))],[(1,.box 26 (B1 a))]⟩) fun _=>L8.eq_1 ..
abbrev z9u {n a b}:=li (Il n a b) (fun c=>⟨[(1,.ptr 1 0),(4,aI c)],[(1,.box 26 (B1 a))]⟩) fun _ _=>Il.eq_2 ..
abbrev z7x {n a b c}:=jf (Fw n a b c) (fun d=>⟨[(1,.ptr 1 0),(3,aI b),(55,.bool (d))],[(1,.box 26 (B1 a))]⟩) fun _=>Fw.eq_1 ..
abbrev z7y {n a b c d}:=jf (L7 n a b c d) (fun e=>⟨[(1,.ptr 1 0),(3,aI b),(15,.bool (e))],[(1,.box 26 (B1 a))]⟩) fun _=>L7.eq_1 ..
abbrev z9v {n a b}:=li (Im n a b) (fun c=>⟨[(1,.ptr 1 0),(3,aI c)],[(1,.box 26 (B1 a))]⟩) fun _ _=>Im.eq_2 ..
abbrev za3 {n a b}:=li (Qg n a b) (fun c=>⟨[(0,.sl 3 (a.map Af)),(3,aI c)],[]⟩) fun _ _=>Qg.eq_2 ..
abbrev za2 {n a b}:=li (Qf n a b) (fun c=>⟨[(0,.sl 5 (a.map A7)),(3,aI c)],[]⟩) fun _ _=>Qf.eq_2 ..
abbrev z74 {n a b c}:=li (Pj n a b c) (fun d=>⟨[(0,.sl 5 (a.map A7)),(3,aI b),(4,aI d)],[]⟩) fun _ _=>Pj.eq_2 ..
abbrev z73 {n a b c}:=li (Pi n a b c) (fun d=>⟨[(0,.sl 5 (a.map A7)),(3,aI b),(4,aI d)],[]⟩) fun _ _=>Pi.eq_2 ..
abbrev z75 {n a b}:=li (Gq n a b) (fun c=>⟨[(0,.sl 5 (a.map A7)),(3,aI c)],[]⟩) fun _ _=>Gq.eq_2 ..
attribute [instance] z34 z35 za0 z9s z9w z9t z7z z80 z9u z7x z7y z9v za3 za2 z74 z73 z75
instance zyh {n e d b a}:CI E0 (z3q n e d b a) true 35 [.sl 2 (e.map Bj),Bh d,aI b,.agg [aI a.fVerdict,aI a.fBound,.sl 5 (a.fPrefix.map A7),aI a.fPeriod]] aI:=by unfold z3q;exact aL [6,9] Tryz.func35
instance zin {n}:CI E0 (Tz n) true 9 [] (fun r=>.bool (r)):=⟨fun {r} b=>by
 unfold Tz at b;refine cw Tryz.func9 ?_;repeat' first
  |refine bA b (fun v b=>?_) fun b=>?_
  |refine aF b fun b=>?_
  |refine aD [5,7] ?_;conv=>whnf
  |refine aN b (fun b=>?_) fun b=>?_
  |refine bB ?_
  |refine aX ?_
  |refine aU b fun a b=>?_
  |refine Ab.S b fun a b=>?_
  |exact ⟨_,b,aA []⟩
  |refine AndA ?_
  |refine aP ?_
  |exact aB b⟩
instance zr5 {n a}:CI E0 (M6 n a) true 81 [Ay a] (fun r=>.bool (r)):=by unfold M6;exact aL [1] Tryz.func81
instance zr2 {n a}:CI E0 (Vb n a) true 80 [.sl 11 (a.map B7)] (fun r=>.bool (r)):=by unfold Vb;exact aL [] Tryz.func80
instance zr3 {n d}:CI E0 (Vc n d) true 25 [Bh d] (fun r=>.bool (r)):=⟨fun {r} b=>by
 unfold Vc at b;refine cw Tryz.func25 ?_;repeat' first
  |refine bA b (fun v b=>?_) fun b=>?_
  |refine aF b fun b=>?_
  |refine aD [2,4,7,10,17] ?_;conv=>whnf
  |refine aN b (fun b=>?_) fun b=>?_
  |refine bB ?_
  |refine aX ?_
  |exact ⟨_,b,aA []⟩
  |refine aH b fun x b=>?_
  |refine IdxX.oD b D0 (fun x b=>?_)
  |refine aU b fun a b=>?_
  |refine aY b (aA []) fun m v b=>?_
  |exact aB b⟩
instance zr9 {n a}:CI E0 (Vf n a) true 93 [.sl 3 (a.map Af)] (fun r=>.bool (r)):=by unfold Vf;exact aL [] Tryz.func93
instance zr8 {n a}:CI E0 (Ve n a) true 34 [.sl 5 (a.map A7)] (fun r=>.bool (r)):=by unfold Ve;exact aL [] Tryz.func34
instance zld {n a}:CI E0 (Uf n a) true 36 [A7 a] (fun r=>.bool (r)):=by unfold Uf;exact aL [] Tryz.func36
instance zr7 {n a}:CI E0 (M7 n a) true 38 [A7 a] Bm:=by unfold M7;exact aL [] Tryz.func38
instance zoj {n b a}:CI E0 (R0 n b a) true 45 [A7 b,A7 a] (fun r=>.bool (r)):=by unfold R0;exact aL [] Tryz.func45
instance znc {n a}:CI E0 (Iv n a) true 12 [.sl 5 (a.map A7)] aI:=by unfold Iv;exact aL [] Tryz.func12
instance zo8 {n b a}:CI E0 (G6 n b a) true 46 [Bh b,.sl 5 (a.map A7)] aI:=by unfold G6;exact aL [] Tryz.func46
instance zmv {n}:CI E0 (Z9 n) false 101 [] A5:=by unfold Z9;exact aL [] Tryz.func101
end
noncomputable section
abbrev z6m {n a d b}:=li (Pf n a d b) (fun c=>⟨[(0,.sl 5 (d.map A7)),(3,.ptr 3 0),(4,.ptr 4 0),(6,aI c)],[(3,.box 86 (y2q a)),(4,.box 37 [aI 0,aI 0,aI 0,aI 0,.nils])]⟩) fun _ _=>Pf.eq_2 ..
abbrev z6n {n d e f a b}:=li (Ft n d e f a b) (fun c=>⟨[(0,.sl 5 (f.map A7)),(1,aI e),(2,.sl 4 (d.map Az)),(6,.ptr 6 0),(7,.ptr 7 0),(8,aI c.1)],[(6,.box 271 [.nils]),(7,.box 271 [.cont (a) 13]),(13,.nest 29 (List.map (enR A7 37 5) (c.2)))]⟩) fun _ _=>Ft.eq_2 ..
abbrev z36 {n}:=jf (K4 n) (fun b=>⟨[(6,.bool (b))],[]⟩) fun _=>K4.eq_1 ..
abbrev z6e {n e d a b}:=li (Pb n e d a b) (fun c=>⟨[(7,.ptr 7 0),(9,.ptr 9 0),(10,.sl 11 (a.fGuards.map B7)),(11,aI c)],[(7,.box 37 (Bx e)),(9,.box 271 (Dq d))]⟩) fun _ _=>Pb.eq_2 ..
abbrev z7w {n a d b}:=li (L6 n a d b) (fun c=>⟨[(1,aI a),(2,.ptr 2 0),(5,.row 7029),(6,aI c.1)],[(2,.box 26 (B1 d)),(7029,.row 149 17 (c.2.map Ac))]⟩) fun _ _=>L6.eq_2 ..
abbrev z9f {n a d b}:=li (Q6 n a d b) (fun c=>⟨[(0,.sl 1 (d.map aI)),(1,aI a),(5,aI c)],[]⟩) fun _ _=>Q6.eq_2 ..
abbrev z5a {n a d b}:=li (Kg n a d b) (fun c=>⟨[(0,.sl 2 (d.map Ah)),(1,aI a),(5,.row 7026),(6,aI c.1)],[(7026,.row 182 2 (c.2.map Ah))]⟩) fun _ _=>Kg.eq_2 ..
abbrev z59 {n f g a b c d}:=jf (Kf n f g a b c d) (fun e=>⟨[(0,.sl 2 (a.map Ah)),(1,aI g),(2,aI f),(7,.row 7031),(8,aI b.1),(24,.bool (e))],[(7031,.row 182 2 (b.2.map Ah))]⟩) fun _=>Kf.eq_1 ..
abbrev z58 {n d e a b}:=li (I1 n d e a b) (fun c=>⟨[(0,.sl 2 (a.map Ah)),(1,aI e),(2,aI d),(7,.row 7031),(8,aI c.1)],[(7031,.row 182 2 (c.2.map Ah))]⟩) fun _ _=>I1.eq_2 ..
abbrev z7t {n a d e b}:=li (Px n a d e b) (fun c=>⟨[(0,.sl 2 (e.map Ah)),(2,aI a),(4,.ptr 4 0),(7,aI c)],[(4,.box 230 (z8y d))]⟩) fun _ _=>Px.eq_2 ..
abbrev z3u {n a b c}:=li (Oh n a b c) (fun d=>⟨[(8,.ptr 8 0),(10,.ptr 10 0),(15,.ptr 15 0),(20,aI d.1)],[(8,.box 149 (Bs a)),(10,.box 90 [aI 0,.nils,.nils]),(15,.box 90 [aI a.fTo,.sl 4 (b.map Az),.sl 2 (d.2.map Ah)])]⟩) fun _ _=>Oh.eq_2 ..
abbrev z3v {n a b c d e}:=li (Oi n a b c d e) (fun f=>⟨[(8,.ptr 8 0),(10,.ptr 10 0),(15,.ptr 15 0),(18,.ptr 18 0),(19,aI f)],[(8,.box 149 (Bs a)),(10,.box 90 [aI 0,.nils,.nils]),(15,.box 90 [aI a.fTo,.sl 4 (c.map Az),.sl 2 (b.map Ah)]),(18,.box 271 (Dq d))]⟩) fun _ _=>Oi.eq_2 ..
abbrev z3w {n e a f g b c}:=li (Oj n e a f g b c) (fun d=>⟨[(1,.sl 5 (g.map A7)),(7,.ptr 7 0),(8,.ptr 8 0),(9,.ptr 9 0),(10,.ptr 10 0),(15,.ptr 15 0),(17,aI d)],[(7,.box 90 (C2 f)),(8,.box 149 (Bs a)),(9,.box 37 (Bx e)),(10,.box 90 [aI 0,.nils,.nils]),(15,.box 90 [aI a.fTo,.nils,.sl 2 (b.map Ah)])]⟩) fun _ _=>Oj.eq_2 ..
abbrev z3x {n d a e f b}:=li (Ok n d a e f b) (fun c=>⟨[(1,.sl 5 (f.map A7)),(7,.ptr 7 0),(8,.ptr 8 0),(9,.ptr 9 0),(10,.ptr 10 0),(15,.ptr 15 0),(16,aI c.1)],[(7,.box 90 (C2 e)),(8,.box 149 (Bs a)),(9,.box 37 (Bx d)),(10,.box 90 [aI 0,.nils,.nils]),(15,.box 90 [aI a.fTo,.nils,.sl 2 (c.2.map Ah)])]⟩) fun _ _=>Ok.eq_2 ..
abbrev z40 {n a d e f}:=jf (Eg n a d e f) (fun b=>⟨[(1,.sl 5 (f.map A7)),(7,.ptr 7 0),(8,.ptr 8 0),(9,.ptr 9 0),(10,.ptr 10 0),(70,.bool (b))],[(7,.box 90 (C2 e)),(8,.box 149 (Bs d)),(9,.box 37 (Bx a)),(10,.box 90 [aI 0,.nils,.nils])]⟩) fun _=>Eg.eq_1 ..
attribute [instance] z6m z6n z36 z6e z7w z9f z5a z59 z58 z7t z3u z3v z3w z3x z40
instance zmz {n b a}:CI E0 (Uq n b a) false 323 [.sl 5 (b.map A7),Bm a] (fun r=>.tup [A7 r.1,.bool (r.2)]):=by unfold Uq;exact aL [] Tryz.func323
instance zn0 {n f e d}:CI E0 (Za n f e d) false 311 [.sl 5 (f.map A7),aI e,.sl 4 (d.map Az)] Dp:=⟨fun {r} b=>by
 unfold Za at b;refine cw Tryz.func311 ?_;repeat' first
  |refine AW.nstO (er:=A7) 37 5 b 13 rfl (fun b=>?_)
  |refine AW.frrO (ety:=37) (sz:=5) A7 b 13 rfl (fun b=>?_)
  |refine aF b fun b=>?_
  |refine aD [9,7,2] ?_;conv=>whnf
  |refine aN b (fun b=>?_) fun b=>?_
  |refine aX ?_
  |refine MakX.on b (fun m b=>?_)
  |refine aH b fun x b=>?_
  |refine aU b fun a b=>?_
  |refine OpX.ixc b rfl rfl rfl rfl rfl rfl rfl rfl (fun b=>?_)
  |refine OpX.ntk A7 b rfl rfl rfl rfl rfl rfl rfl rfl rfl rfl (fun q b=>?_)
  |refine aO b fun l b=>?_
  |refine OpX.npt A7 b rfl rfl rfl rfl rfl rfl rfl rfl rfl rfl rfl (fun l b=>?_)
  |exact ⟨_,b,aA []⟩
  |refine aY b (aA []) fun m v b=>?_
  |refine AndA ?_
  |refine aP ?_
  |exact aB b⟩
def zdj (r:Aq):AV:=.agg [.sl 1 (List.map (fun q=>AV.sl 5 (List.map A7 q)) (r.fVars))]
instance zb2 {n b a}:CI E0 (M4 n b a) false 274 [.sl 5 (b.map A7),A5 a] Dp:=by unfold M4;exact aL [] Tryz.func274
instance zio {n d b a}:CI E0 (Pa n d b a) true 275 [B7 d,Dp b,A7 a] (fun r=>.bool (r)):=by unfold Pa;exact aL [1] Tryz.func275
instance zmu {n e d b a}:CI E0 (Uo n e d b a) true 229 [Bh e,.sl 5 (d.map A7),A5 b,A7 a] (fun r=>.bool (r)):=by unfold Uo;exact aL [] Tryz.func229
instance zoa {n d b}:CI E0 (Uy n d b) false 153 [Bh d,aI b] (fun r=>.sl 17 (r.map Ac)):=⟨fun {r} a=>by
 unfold Uy at a;refine cw Tryz.func153 ?_;repeat' first
  |refine aF a fun a=>?_
  |refine aD [5] ?_;conv=>whnf
  |refine aN a (fun a=>?_) fun a=>?_
  |refine aH a fun x a=>?_
  |refine aO a fun l a=>?_
  |exact ⟨_,a,aA [(7029,29)]⟩
  |exact ⟨_,a,aA []⟩
  |refine aY a ?_ fun m v a=>?_
  |exact aK (aS 5 7029 149 17 rfl rfl) (aA [])
  |exact aB a⟩
instance zqw {n b a}:CI E0 (V6 n b a) true 276 [.sl 1 (b.map aI),aI a] (fun r=>.bool (r)):=by unfold V6;exact aL [] Tryz.func276
instance zl7 {n d b}:CI E0 (Q7 n d b) false 279 [.sl 2 (d.map Ah),aI b] (fun r=>.sl 2 (r.map Ah)):=⟨fun {r} a=>by
 unfold Q7 at a;refine cw Tryz.func279 ?_;repeat' first
  |refine aF a fun a=>?_
  |refine aD [5] ?_;conv=>whnf
  |refine aN a (fun a=>?_) fun a=>?_
  |refine aH a fun x a=>?_
  |refine aO a fun l a=>?_
  |exact ⟨_,a,aA [(7026,26)]⟩
  |exact ⟨_,a,aA []⟩
  |refine aY a ?_ fun m v a=>?_
  |exact aK (aS 5 7026 182 2 rfl rfl) (aA [])
  |exact aB a⟩
instance zl6 {n f e d}:CI E0 (Uc n f e d) false 277 [.sl 2 (f.map Ah),aI e,aI d] (fun r=>.sl 2 (r.map Ah)):=⟨fun {r} b=>by
 unfold Uc at b;refine cw Tryz.func277 ?_;repeat' first
  |refine bA b (fun v b=>?_) fun b=>?_
  |refine aF b fun b=>?_
  |refine aD [4] ?_;conv=>whnf
  |refine aN b (fun b=>?_) fun b=>?_
  |refine aU b fun a b=>?_
  |refine aO b fun l b=>?_
  |refine bF Ah b (fun l b=>?_)
  |refine aH b fun x b=>?_
  |exact ⟨_,b,aA [(7031,31)]⟩
  |exact ⟨_,b,aA []⟩
  |refine aY b ?_ fun m v b=>?_
  |exact aK (aS 7 7031 182 2 rfl rfl) (aA [])
  |exact aB b⟩
instance zo7 {n d b a}:CI E0 (Uw n d b a) true 278 [.sl 2 (d.map Ah),Bw b,aI a] (fun r=>.bool (r)):=by unfold Uw;exact aL [] Tryz.func278
end
noncomputable section
abbrev z3z {n f g h i e a b c}:=jf (K6 n f g h i e a b c) (fun d=>⟨[(1,.sl 5 (i.map A7)),(7,.ptr 7 0),(8,.ptr 8 0),(9,.ptr 9 0),(10,.ptr 10 0),(12,.ptr 12 0),(13,.sl 11 (a.fGuards.map B7)),(14,aI b),(54,.bool (d))],[(7,.box 90 (C2 h)),(8,.box 149 (Bs g)),(9,.box 37 (Bx f)),(10,.box 90 [aI 0,.nils,.nils]),(12,.box 271 (Dq e))]⟩) fun _=>K6.eq_1 ..
abbrev z3y {n e f g h d a b}:=li (Hw n e f g h d a b) (fun c=>⟨[(1,.sl 5 (h.map A7)),(7,.ptr 7 0),(8,.ptr 8 0),(9,.ptr 9 0),(10,.ptr 10 0),(12,.ptr 12 0),(13,.sl 11 (a.fGuards.map B7)),(14,aI c)],[(7,.box 90 (C2 g)),(8,.box 149 (Bs f)),(9,.box 37 (Bx e)),(10,.box 90 [aI 0,.nils,.nils]),(12,.box 271 (Dq d))]⟩) fun _ _=>Hw.eq_2 ..
abbrev z9z {n a d b}:=jf (Lo n a d b) (fun c=>⟨[(0,.sl 1 (d.map Ax)),(3,.ptr 3 0),(5,aI b),(34,.bool (c))],[(3,.box 64 (Hd a))]⟩) fun _=>Lo.eq_1 ..
abbrev z9y {n a f b c d}:=jf (Ln n a f b c d) (fun e=>⟨[(0,.sl 1 (f.map Ax)),(3,.ptr 3 0),(5,aI b),(19,.bool (e))],[(3,.box 64 (Hd a))]⟩) fun _=>Ln.eq_1 ..
abbrev z9x {n a d b}:=li (Io n a d b) (fun c=>⟨[(0,.sl 1 (d.map Ax)),(3,.ptr 3 0),(5,aI c)],[(3,.box 64 (Hd a))]⟩) fun _ _=>Io.eq_2 ..
abbrev z9j {n d e f g a c}:=li (Ij n d e f g a c) (fun b=>⟨[(1,.sl 5 (f.map A7)),(4,.ptr 4 0),(6,.ptr 6 0),(7,.ptr 7 0),(10,.sl 3 (b.1.map A5)),(11,.sl 1 (b.2.1.map Ax)),(12,.sl 17 (a.map Ac)),(13,aI b.2.2)],[(4,.box 26 (B1 g)),(6,.box 90 (C2 e)),(7,.box 37 (Bx d))]⟩) fun _ _=>Ij.eq_2 ..
abbrev z9k {n a d e f}:=jt (Li n a d e f) (fun b=>⟨[(1,.sl 5 (e.map A7)),(4,.ptr 4 0),(6,.ptr 6 0),(7,.ptr 7 0),(10,.sl 3 (b.map A5)),(11,.nils)],[(4,.box 26 (B1 f)),(6,.box 90 (C2 d)),(7,.box 37 (Bx a))]⟩) fun _=>Li.eq_1 ..
abbrev z9o {n a g h i d b c e}:=li (Q8 n a g h i d b c e) (fun f=>⟨[(1,.sl 5 (h.map A7)),(2,.sl 3 (g.map A5)),(4,.ptr 4 0),(7,.ptr 7 0),(10,.sl 3 (b.map A5)),(11,.sl 1 (f.1.map Ax)),(12,aI d.2.2),(14,.sl 1 (c.map Ax)),(16,aI f.2)],[(4,.box 26 (B1 i)),(7,.box 37 (Bx a))]⟩) fun _ _=>Q8.eq_2 ..
abbrev z9p {n a f g h b c d}:=li (Q9 n a f g h b c d) (fun e=>⟨[(1,.sl 5 (g.map A7)),(2,.sl 3 (f.map A5)),(4,.ptr 4 0),(7,.ptr 7 0),(10,.sl 3 (e.1.map A5)),(11,.sl 1 (b.2.1.map Ax)),(12,aI b.2.2),(13,.sl 3 (c.1.map A5)),(14,.sl 1 (c.2.map Ax)),(15,aI e.2)],[(4,.box 26 (B1 h)),(7,.box 37 (Bx a))]⟩) fun _ _=>Q9.eq_2 ..
abbrev z9q {n a d e f c}:=li (Qa n a d e f c) (fun b=>⟨[(1,.sl 5 (e.map A7)),(2,.sl 3 (d.map A5)),(4,.ptr 4 0),(7,.ptr 7 0),(10,.sl 3 (b.1.map A5)),(11,.sl 1 (b.2.1.map Ax)),(12,aI b.2.2)],[(4,.box 26 (B1 f)),(7,.box 37 (Bx a))]⟩) fun _ _=>Qa.eq_2 ..
abbrev z5d {n a g h d e b c}:=jf (Kh n a g h d e b c) (fun f=>⟨[(1,.sl 5 (g.map A7)),(2,aI a),(3,.ptr 3 0),(10,.sl 1 (b.map Ax)),(11,aI d.2.2),(12,.sl 3 (c.map A5)),(55,.bool (f))],[(3,.box 26 (B1 h))]⟩) fun _=>Kh.eq_1 ..
abbrev z5b {n a f g b c d}:=li (Ow n a f g b c d) (fun e=>⟨[(1,.sl 5 (f.map A7)),(2,aI a),(3,.ptr 3 0),(10,.sl 1 (e.1.map Ax)),(11,aI b.2.2),(12,.sl 3 (c.1.map A5)),(13,.sl 1 (c.2.map Ax)),(14,aI e.2)],[(3,.box 26 (B1 g))]⟩) fun _ _=>Ow.eq_2 ..
abbrev z5c {n a d e c}:=li (I2 n a d e c) (fun b=>⟨[(1,.sl 5 (d.map A7)),(2,aI a),(3,.ptr 3 0),(9,.sl 3 (b.1.map A5)),(10,.sl 1 (b.2.1.map Ax)),(11,aI b.2.2)],[(3,.box 26 (B1 e))]⟩) fun _ _=>I2.eq_2 ..
attribute [instance] z3z z3y z9z z9y z9x z9j z9k z9o z9p z9q z5d z5b z5c
instance zjj {n i g f e d}:CI E0 (L5 n i g f e d) false 230 [Bh i,.sl 5 (g.map A7),A5 f,Ac e,A7 d] (fun r=>.tup [A5 r.1,.bool (r.2)]):=⟨fun {r} b=>by
 unfold L5 at b;refine Con.env (E:=E0b) rfl rfl ?_;refine Con.walk _ bK rfl (Av bK rfl rfl) rfl (aE rfl) ?_;repeat' first
  |refine bA b (fun v b=>?_) fun b=>?_
  |refine aF b fun b=>?_
  |refine aV b 125 rfl (fun b=>?_)
  |refine aD [21,6,8] ?_;conv=>whnf
  |refine aN b (fun b=>?_) fun b=>?_
  |refine aU b fun a b=>?_
  |refine aH b fun x b=>?_
  |refine AppX.oA0 b fun l b=>?_
  |refine OpX.bldS Az b rfl rfl rfl rfl rfl rfl rfl rfl rfl rfl rfl rfl rfl rfl (fun l b=>?_)
  |refine aO b fun l b=>?_
  |refine OpX.bldR A7 b rfl rfl rfl rfl rfl rfl rfl rfl rfl rfl rfl rfl rfl rfl rfl rfl (by first|exact SubR.refl _|(repeat' first|exact SubR.nil|refine SubR.cons ?_ ?_|exact SubL.nil|refine SubL.cons ?_ ?_|exact Sub.refl _|exact Sub.nil _)) rfl (fun l b=>?_)
  |refine B3.oE b 130 zdj rfl (fun a h=>Con.env rfl rfl (zb2.h h)) rfl rfl (fun a b=>?_)
  |exact ⟨_,b,aA []⟩
  |refine aY b (aA []) fun m v b=>?_
  |refine IdxX.oD b D0 (fun x b=>?_)
  |refine Ab.S b fun a b=>?_
  |refine AndA ?_
  |exact aB b⟩
instance zr4 {n e d}:CI E0 (M5 n e d) false 103 [.sl 1 (e.map Ax),Ax d] (fun r=>.sl 1 (r.map Ax)):=⟨fun {r} b=>by
 unfold M5 at b;refine cw Tryz.func103 ?_;repeat' first
  |refine bA b (fun v b=>?_) fun b=>?_
  |refine aF b fun b=>?_
  |refine aD [2,4] ?_;conv=>whnf
  |refine aN b (fun b=>?_) fun b=>?_
  |refine bF Ax b (fun l b=>?_)
  |refine AppX.oA0 b fun l b=>?_
  |refine aO b fun l b=>?_
  |refine aH b fun x b=>?_
  |refine aU b fun a b=>?_
  |exact ⟨_,b,aA []⟩
  |refine aY b (aA []) fun m v b=>?_
  |refine AndA ?_
  |exact aB b⟩
instance zqy {n g f e d}:CI E0 (V7 n g f e d) false 171 [Bh g,.sl 5 (f.map A7),A5 e,A7 d] (fun r=>.tup [.sl 3 (r.1.map A5),.sl 1 (r.2.map Ax)]):=⟨fun {r} b=>by
 unfold V7 at b;refine cw Tryz.func171 ?_;repeat' first
  |refine AW.jI2 b (fun v b=>?_) fun b=>?_
  |refine aF b fun b=>?_
  |refine aD [3,11] ?_;conv=>whnf
  |refine aN b (fun b=>?_) fun b=>?_
  |refine aU b fun a b=>?_
  |refine aH b fun x b=>?_
  |exact ⟨_,b,aA []⟩
  |refine aY b ?_ fun m v b=>?_
  |exact bL 11 (aA [])
  |refine Ab.S b fun a b=>?_
  |exact ⟨_,b,bL 10 (aA [])⟩
  |refine AndA ?_
  |exact aB b⟩
instance zr0 {n g f e d}:CI E0 (V9 n g f e d) false 102 [Bh g,.sl 5 (f.map A7),.sl 3 (e.map A5),A7 d] (fun r=>.tup [.sl 3 (r.1.map A5),.sl 1 (r.2.map Ax)]):=⟨fun {r} b=>by
 unfold V9 at b;refine cw Tryz.func102 ?_;repeat' first
  |refine aQ ?_;conv=>whnf
  |refine aN b (fun b=>?_) fun b=>?_
  |refine aH b fun x b=>?_
  |refine aU b fun a b=>?_
  |exact ⟨_,b,aA []⟩
  |refine aY b ?_ fun m v b=>?_
  |exact aA []
  |exact bL 10 (bL 11 (aA []))
  |refine AndA ?_
  |exact aB b⟩
end
noncomputable section
abbrev z6d {n a d}:=jf (Kt n a d) (fun b=>⟨[(1,.sl 5 (a.map A7)),(2,.ptr 2 0),(15,.bool (b))],[(2,.box 26 (B1 d))]⟩) fun _=>Kt.eq_1 ..
abbrev z9m {n a b c}:=jf (Lj n a b c) (fun d=>⟨[(0,.sl 3 (a.map A5)),(3,aI b),(29,.bool (d))],[]⟩) fun _=>Lj.eq_1 ..
abbrev z9n {n a b c d}:=jf (Lk n a b c d) (fun e=>⟨[(0,.sl 3 (a.map A5)),(3,aI b),(11,.bool (e))],[]⟩) fun _=>Lk.eq_1 ..
abbrev z9l {n a b}:=li (Ik n a b) (fun c=>⟨[(0,.sl 3 (a.map A5)),(3,aI c)],[]⟩) fun _ _=>Ik.eq_2 ..
abbrev z1k {n}:=jf (Hr n) (fun b=>⟨[(6,.bool (b))],[]⟩) fun _=>Hr.eq_1 ..
abbrev z1h {n a e c b}:=li (O6 n a e c b) (fun d=>⟨[(1,.sl 5 (a.map A7)),(3,.ptr 3 0),(13,.ptr 13 0),(117,aI (((a.map A7).length:Int))),(118,aI d)],[(3,.box 26 (B1 e)),(13,.box 57 [.sl 1 (List.map (fun q=>AV.sl 3 (List.map A5 q)) (c.2.2.1.fSets))])]⟩) fun _ _=>O6.eq_2 ..
abbrev z1j {n a d b}:=jf (Hq n a d b) (fun c=>⟨[(1,.sl 5 (a.map A7)),(3,.ptr 3 0),(13,.ptr 13 0),(115,.bool (c))],[(3,.box 26 (B1 d)),(13,.box 57 [.sl 1 (List.map (fun q=>AV.sl 3 (List.map A5 q)) (b.2.2.1.fSets))])]⟩) fun _=>Hq.eq_1 ..
abbrev z1l {n a e c b}:=jf (Jy n a e c b) (fun d=>⟨[(1,.sl 5 (a.map A7)),(3,.ptr 3 0),(9,.sl 1 (c.1.map Ax)),(11,aI b.1),(12,.ptr 12 0),(13,.ptr 13 0),(78,.bool (d))],[(3,.box 26 (B1 e)),(12,.box 64 (Hd b.2.1)),(13,.box 57 [.sl 1 (List.map (fun q=>AV.sl 3 (List.map A5 q)) (b.2.2.1.fSets))])]⟩) fun _=>Jy.eq_1 ..
abbrev z1m {n a e f c b}:=jf (Jz n a e f c b) (fun d=>⟨[(1,.sl 5 (e.map A7)),(3,.ptr 3 0),(5,.ptr 5 0),(9,.sl 1 (c.1.map Ax)),(11,aI b.1),(12,.ptr 12 0),(13,.ptr 13 0),(68,.bool (d))],[(3,.box 26 (B1 f)),(5,.box 57 [.sl 1 (List.map (fun q=>AV.sl 3 (List.map A5 q)) (a.fSets))]),(12,.box 64 (Hd b.2.1)),(13,.box 57 [.sl 1 (List.map (fun q=>AV.sl 3 (List.map A5 q)) (b.2.2.1.fSets))])]⟩) fun _=>Jz.eq_1 ..
abbrev z1i {n a d e b}:=li (O7 n a d e b) (fun c=>⟨[(1,.sl 5 (d.map A7)),(3,.ptr 3 0),(5,.ptr 5 0),(39,.sl 1 (List.map (fun q=>AV.sl 3 (List.map A5 q)) (a.fSets))),(40,aI ((((List.map (fun q=>AV.sl 3 (List.map A5 q)) (a.fSets)).length:Nat):Int))),(41,aI c)],[(3,.box 26 (B1 e)),(5,.box 57 [.sl 1 (List.map (fun q=>AV.sl 3 (List.map A5 q)) (a.fSets))])]⟩) fun _ _=>O7.eq_2 ..
abbrev z1n {n a d e}:=jf (F4 n a d e) (fun b=>⟨[(1,.sl 5 (d.map A7)),(3,.ptr 3 0),(5,.ptr 5 0),(37,.bool (b))],[(3,.box 26 (B1 e)),(5,.box 57 [.sl 1 (List.map (fun q=>AV.sl 3 (List.map A5 q)) (a.fSets))])]⟩) fun _=>F4.eq_1 ..
attribute [instance] z6d z9m z9n z9l z1k z1h z1j z1l z1m z1i z1n
instance zl8 {n f e d}:CI E0 (Ud n f e d) false 47 [Bh f,.sl 5 (e.map A7),aI d] (fun r=>.tup [.sl 3 (r.1.map A5),.sl 1 (r.2.1.map Ax),.bool (r.2.2)]):=⟨fun {r} b=>by
 unfold Ud at b;refine cw Tryz.func47 ?_;repeat' first
  |refine bA b (fun v b=>?_) fun b=>?_
  |refine aF b fun b=>?_
  |refine aD [11] ?_;conv=>whnf
  |refine aN b (fun b=>?_) fun b=>?_
  |refine aU b fun a b=>?_
  |refine aH b fun x b=>?_
  |exact ⟨_,b,aA []⟩
  |refine aY b ?_ fun m v b=>?_
  |exact aA []
  |exact bL 10 (aA [])
  |refine AndA ?_
  |exact aB b⟩
instance zmt {n b a}:CI E0 (Ql n b a) true 13 [Bh b,.sl 5 (a.map A7)] (fun r=>.bool (r)):=by unfold Ql;exact aL [1] Tryz.func13
instance zqz {n a}:CI E0 (V8 n a) true 20 [.sl 3 (a.map A5)] (fun r=>.bool (r)):=by unfold V8;exact aL [2,4] Tryz.func20
theorem z1r {n f e d r}(b:Xw n f e d=some r):Con E0 true 4 [Bh f,.sl 5 (e.map A7),.agg [.sl 1 (List.map (fun q=>AV.sl 3 (List.map A5 q)) (d.fSets))]] (.bool (r)):=by
 unfold Xw at b;refine cw Tryz.func4 ?_;repeat' first
  |refine bA b (fun v b=>?_) fun b=>?_
  |refine aF b fun b=>?_
  |refine aD [3,13,15,18,19] ?_;conv=>whnf
  |refine aN b (fun b=>?_) fun b=>?_
  |refine bB ?_
  |refine aX ?_
  |refine aU b fun a b=>?_
  |refine aH b fun x b=>?_
  |exact ⟨_,b,aA []⟩
  |refine bF A7 b (fun l b=>?_)
  |refine bF (fun q=>AV.sl 3 (List.map A5 q)) b (fun l b=>?_)
  |refine aY b (aA []) fun m v b=>?_
  |refine bH (fun q=>AV.sl 3 (List.map A5 q)) b fun x b=>?_
  |refine AndA ?_
  |refine aP ?_
  |exact aB b
end
section
variable {α:Type} {c:α->α->Int}
theorem TO.asym (h:TO c){a b:α}(k:c a b<0):¬c b a<0:=by have:=h.neg a b;omega
theorem TO.lt_ne (h:TO c){a b:α}(k:c a b<0):a≠b:=fun e=>by subst e;exact h.irr _ k
def Str (c:α->α->Int)(l:List α):Prop:=l.Pairwise (fun x y=>c x y<0)
theorem Str.uniq (h:TO c):∀ {l m:List α},Str c l->Str c m->(∀ x,x∈l ↔ x∈m)->l=m
 |[],[],_,_,_=>rfl
 |[],y::m,_,_,hm=>by have:=(hm y).2 (by simp);simp at this
 |x::l,[],_,_,hm=>by have:=(hm x).1 (by simp);simp at this
 |x::l,y::m,h1,i,hm=>by
  obtain ⟨g,k⟩:=aC.1 h1;obtain ⟨f,j⟩:=aC.1 i;have b:x=y:=by
   rcases aJ.1 ((hm x).1 (by simp)) with e|e
   ·exact e
   ·rcases aJ.1 ((hm y).2 (by simp)) with d|d
    ·exact d.symm
    ·exact absurd (g y d) (h.asym (f x e))
  subst b;congr 1;refine Str.uniq h k j (fun z=>⟨fun a=>?_,fun a=>?_⟩)
  ·rcases aJ.1 ((hm z).1 (aW _ a)) with e|e
   ·exact absurd e.symm (h.lt_ne (g z a))
   ·exact e
  ·rcases aJ.1 ((hm z).2 (aW _ a)) with e|e
   ·exact absurd e.symm (h.lt_ne (f z a))
   ·exact e
def insU (c:α->α->Int)(x:α):List α->List α
 |[]=>[x]
 |y::l=>if c y x<0 then y::insU c x l else if c y x=0 then y::l else x::y::l
theorem Xg (h:TO c)(x z:α):∀ l:List α,z∈insU c x l ↔ z=x\/z∈l
 |[]=>by simp [insU]
 |y::l=>by
  unfold insU;split
  ·simp only [aJ,Xg h x z l];constructor
   ·rintro (h|h|h)<;>simp [h]
   ·rintro (h|h|h)<;>simp [h]
  ·split
   ·rename_i e;have:=(h.zero _ _).1 e;subst this;simp only [aJ];constructor
    ·intro k;exact aG k
    ·rintro (k|k)
     ·exact aE k
     ·exact k
   ·simp only [aJ]
theorem zwn (h:TO c)(x:α):∀ l:List α,Str c l->Str c (insU c x l)
 |[],_=>by simp [insU,Str]
 |y::l,b=>by
  obtain ⟨h1,f⟩:=aC.1 b;unfold insU;split
  ·rename_i k;refine aC.2 ⟨fun z a=>?_,zwn h x l f⟩;rcases (Xg h x z l).1 a with e|e
   ·rw [e];exact k
   ·exact h1 z e
  ·split
   ·exact b
   ·rename_i i g;have d:c x y<0:=by have:=h.neg y x;have:=h.one y x;omega
    refine aC.2 ⟨fun z a=>?_,b⟩;rcases aJ.1 a with e|e
    ·rw [e];exact d
    ·exact h.trans _ _ _ d (h1 z e)
theorem Ni (c:α->α->Int)(x:α):∀ l:List α,(insU c x l).length<=l.length+1
 |[]=>by simp [insU]
 |y::l=>by
  unfold insU;have:=Ni c x l;split
  ·simp only [aT];omega
  ·split<;>simp only [aT]<;>omega
theorem zqk (c:α->α->Int)(x:α):∀ l:List α,l.length<=(insU c x l).length
 |[]=>by simp [insU]
 |y::l=>by
  unfold insU;have:=zqk c x l;split
  ·simp only [aT];omega
  ·split<;>simp only [aT]<;>omega
def puts (c:α->α->Int)(s:List α)(l:List α):List α:=l.foldl (fun s x=>insU c x s) s
def setL (c:α->α->Int)(l:List α):List α:=puts c [] l
theorem Hi (s:List α)(x:α)(l:List α):puts c s (x::l)=puts c (insU c x s) l:=rfl
theorem Ww (s l m:List α):puts c s (l++m)=puts c (puts c s l) m:=by simp [puts,foldl_append]
theorem Ji (h:TO c)(z:α):∀ (l s:List α),z∈puts c s l ↔ z∈s\/z∈l
 |[],s=>by simp [puts]
 |x::l,s=>by
  rw [Hi,Ji h z l,Xg h];simp only [aJ];constructor
  ·rintro ((k|k)|k)<;>simp [k]
  ·rintro (k|k|k)<;>simp [k]
theorem zg7 (h:TO c):∀ (l s:List α),Str c s->Str c (puts c s l)
 |[],_,a=>a
 |x::l,s,a=>by rw [Hi];exact zg7 h l _ (zwn h x s a)
theorem zg8:∀ (l s:List α),(puts c s l).length<=s.length+l.length
 |[],s=>by simp [puts]
 |x::l,s=>by
  rw [Hi];have:=zg8 l (insU c x s);have:=Ni c x s;simp only [aT];omega
theorem zpa:∀ (l s:List α),s.length<=(puts c s l).length
 |[],s=>by simp [puts]
 |x::l,s=>by
  rw [Hi];have:=zpa l (insU c x s);have:=zqk c x s;omega
theorem Di (h:TO c)(z:α)(l:List α):z∈setL c l ↔ z∈l:=by unfold setL;rw [Ji h];simp
theorem Jh (h:TO c)(l:List α):Str c (setL c l):=zg7 h l [] (by simp [Str])
theorem zg5 (l:List α):(setL c l).length<=l.length:=by have:=zg8 (c:=c) l [];simpa [setL] using this
theorem zzn (h:TO c){l m:List α}(hm:∀ x,x∈l ↔ x∈m):setL c l=setL c m:=Str.uniq h (Jh h l) (Jh h m) (fun x=>by rw [Di h,Di h,hm])
theorem zsw (h:TO c){l:List α}(a:Str c l):setL c l=l:=Str.uniq h (Jh h l) a (fun x=>Di h x l)
variable [DecidableEq α]
def ddA (p:α):List α->List α
 |[]=>[]
 |y::l=>if y=p then ddA p l else y::ddA y l
def dd:List α->List α |[]=>[] |x::l=>x::ddA x l
theorem zmr (p z:α):∀ l:List α,ddA p (l++[z])=ddA p l++(if z=(p::l).getLast (by simp) then [] else [z])
 |[]=>by by_cases h:z=p<;>simp [ddA,h]
 |y::l=>by
  have e:(p::y::l).getLast (by simp)=(y::l).getLast (by simp):=by rw [getLast_cons (by simp)]
  simp only [cons_append,ddA];rw [e];by_cases h:y=p
  ·subst h;rw [if_pos rfl,if_pos rfl,zmr y z l]
  ·rw [if_neg h,if_neg h,zmr y z l];rfl
theorem Jn (l:List α)(z:α)(h:l≠[]):dd (l++[z])=dd l++(if z=l.getLast h then [] else [z]):=by
 cases l with
 |nil=>exact absurd rfl h
 |cons x l =>
  show x::ddA x (l++[z])=_;rw [zmr];rfl
theorem zu7 (x:α):∀ (l:List α) (p:α),x∈ddA p l\/x=p ↔ x∈l\/x=p
 |[],p=>by simp [ddA]
 |y::l,p=>by
  unfold ddA;split
  ·rename_i h;subst h;rw [zu7 x l y];simp only [aJ];constructor
   ·rintro (k|k)<;>simp [k]
   ·rintro ((k|k)|k)<;>simp [k]
  ·have:=zu7 x l y;simp only [aJ];constructor
   ·rintro ((k|k)|k)
    ·exact aE (aE k)
    ·rcases this.1 (aE k) with q|q
     ·exact aE (aG q)
     ·exact aE (aE q)
    ·exact aG k
   ·rintro ((k|k)|k)
    ·exact aE (aE k)
    ·rcases this.2 (aE k) with q|q
     ·exact aE (aG q)
     ·exact aE (aE q)
    ·exact aG k
theorem yaq (x:α)(l:List α):x∈dd l ↔ x∈l:=by
 cases l with
 |nil=>simp [dd]
 |cons y l =>
  simp only [dd,aJ];have:=zu7 x l y;constructor
  ·rintro (k|k)
   ·exact aE k
   ·rcases this.1 (aE k) with q|q
    ·exact aG q
    ·exact aE q
  ·rintro (k|k)
   ·exact aE k
   ·rcases this.2 (aE k) with q|q
    ·exact aG q
    ·exact aE q
theorem zu6 (h:TO c):∀ (l:List α) (p:α),(p::l).Pairwise (fun x y=>ltOf c y x=false)->Str c (p::ddA p l)
 |[],p,_=>by simp [ddA,Str]
 |y::l,p,i=>by
  obtain ⟨h1,g⟩:=aC.1 i;have d:∀ z,z∈y::l->¬c z p<0:=fun z a=>of_decide_eq_false (h1 z a)
  unfold ddA;split
  ·rename_i e;refine zu6 h l p (aC.2 ⟨fun z a=>h1 z (aW _ a),(aC.1 g).2⟩)
  ·rename_i e;have f:=zu6 h l y g;have b:c p y<0:=by
    rcases h.tri p y with k|k|k
    ·exact k
    ·exact absurd k.symm e
    ·exact absurd k (d y (by simp))
   refine aC.2 ⟨fun z a=>?_,f⟩;rcases aJ.1 a with k|k
   ·rw [k];exact b
   ·exact h.trans _ _ _ b ((aC.1 f).1 z k)
theorem y23 (h:TO c)(l:List α):dd (Ew c l)=setL c l:=by
 have a:=zaq h.swo l;refine Str.uniq h ?_ (Jh h l) (fun x=>by rw [yaq,Di h];exact (N7 c l).mem_iff);cases b:Ew c l with
 |nil=>simp [dd,Str]
 |cons x q=>rw [b] at a;exact zu6 h q x a
end
abbrev Va:=A9
abbrev Ev:=A8
abbrev Exn:=B2
abbrev be:ByteArray:=ByteArray.empty
abbrev va0:Va:=⟨0,0,ByteArray.empty⟩
def vcP (v:Va):Int :=
 if v.fKind<0 then 1 else if 2<v.fKind then 1 else if v.fKind=2 then (if v.fNum=0 then (if 64<v.fText.size then 13 else 0) else 3) else
 if v.fText=be then (if v.fKind=1 then (if v.fNum<0 then 2 else if 1<v.fNum then 2 else 0) else if v.fNum < -1099511627776 then 2 else if 1099511627776<v.fNum then 2 else 0) else 3
theorem y47 (n:Nat)(v:Va):H0 n v=some (vcP v):=by
 unfold H0 vcP;simp only [A4,Am,Jf];grind
theorem zuv {α a:Type}(p:Prop)[Decidable p](x y:Option α)(k:α->Option a):bnd (if p then x else y) k=if p then bnd x k else bnd y k:=by split<;>rfl
theorem p_vc (n:Nat)(v:Va):Gb n v=some (vcP v):=by
 obtain ⟨k,x,t⟩:=v;unfold Gb N1 vcP;simp only [A4,Am,Jf];by_cases f:k=0
 ·subst f;by_cases a:t=be
  ·subst a;have b:be.size=0:=rfl;simp [b,A0,zuv];grind
  ·simp [a]
 ·by_cases e:k=1
  ·subst e;by_cases a:t=be
   ·subst a;have b:be.size=0:=rfl;simp [b,A0,zuv];grind
   ·simp [a]
  ·by_cases d:k=2
   ·subst d;simp [A0,zuv];grind
   grind
theorem y94 (x y:Va):(decide (x.fKind=y.fKind) && (decide (x.fNum=y.fNum) && ((x.fText.toList == y.fText.toList) && true)))=decide (x=y):=by
 cases x;cases y;simp [Jf]
theorem zls (x:Va):(decide (x.fKind=0) && (decide (x.fNum=0) && ((x.fText.toList == ByteArray.empty.toList) && true)))=decide (x=va0):=y94 x va0
def arP (op:Int):Int:=if op<0 then -1 else if 12<op then -1 else if op<5 then 0 else if op=12 then 1 else 2
theorem y4c (n:Nat)(op:Int):Ur n op=some (arP op):=by
 unfold Ur arP;simp only [B5,Ar,Fu,Eh,A4,B0,decide_eq_true_eq];by_cases h1:op<0
 ·simp [h1,show op≠0 by omega,show op≠1 by omega,show op≠2 by omega,show op≠3 by omega,show op≠4 by omega,show op≠5 by omega,show op≠6 by omega,show op≠7 by omega,show op≠8 by omega,show op≠9 by omega,show op≠10 by omega,show op≠11 by omega,show op≠12 by omega]
 ·by_cases a:12<op
  ·simp [h1,a,show op≠0 by omega,show op≠1 by omega,show op≠2 by omega,show op≠3 by omega,show op≠4 by omega,show op≠5 by omega,show op≠6 by omega,show op≠7 by omega,show op≠8 by omega,show op≠9 by omega,show op≠10 by omega,show op≠11 by omega,show op≠12 by omega]
  ·have:op=0\/op=1\/op=2\/op=3\/op=4\/op=5\/op=6\/op=7\/op=8\/op=9\/op=10\/op=11\/op=12:=by omega
   rcases this with rfl|rfl|rfl|rfl|rfl|rfl|rfl|rfl|rfl|rfl|rfl|rfl|rfl<;>rfl
theorem y7m (n:Nat)(op:Int):Wv n op=some (if op<0 then (0,false) else if 12<op then (0,false) else (arP op,true)):=by
 unfold Wv arP;simp only [B5,Ar,Ms,A4,B0,decide_eq_true_eq,if_true];grind
def usV (op:Int):Bool:=decide (op=1) || decide (op=2) || decide (op=3) || decide (op=4)
def usF (op:Int):Bool:=decide (op=1) || decide (op=4)
theorem y78 (n:Nat)(op:Int):Uz n op=some (usV op,usF op):=by
 unfold Uz;simp only [B5,Ar,L9,I7,A4,B0,decide_eq_true_eq,if_true];by_cases h1:op=1
 ·subst h1;rfl
 ·by_cases d:op=2
  ·subst d;rfl
  ·by_cases b:op=3
   ·subst b;rfl
   ·by_cases a:op=4
    ·subst a;rfl
    ·simp [usV,usF,h1,d,b,a]
theorem y5v (n:Nat)(op:Int):Sk n op=some (usV op,usF op):=by
 unfold Sk;simp only [B5,Ar,Mx,Mw,A4,B0,decide_eq_true_eq,if_true];by_cases h1:op=1
 ·subst h1;rfl
 ·by_cases d:op=2
  ·subst d;rfl
  ·by_cases b:op=3
   ·subst b;rfl
   ·by_cases a:op=4
    ·subst a;rfl
    ·simp [usV,usF,h1,d,b,a]
def suP (k:Int)(v:Va):Bool:=decide (v.fKind=0) || decide (k=4) || decide (k=5)
theorem y76 (n:Nat)(k:Int)(v:Va):Wu n k v=some (suP k v):=by
 unfold Wu;simp only [B5,Ar,Jb,A4];by_cases h1:v.fKind=0
 ·simp [suP,h1]
 ·by_cases a:k=4
  ·simp [suP,h1,a]
  ·simp [suP,h1,a]
theorem zm2 (n:Nat)(k:Int)(v:Va):Lw n k v=some (decide (k=0) || suP k v):=by
 unfold Lw;simp only [B5,Ar,Gn,A4];by_cases h1:v.fKind=0
 ·simp [suP,h1]
 ·by_cases b:k=4
  ·by_cases a:k=0
   ·simp [suP,h1,b,a]
   ·simp [suP,h1,b]
  ·by_cases a:k=0
   ·simp [suP,h1,b,a]
   ·simp [suP,h1,b,a]
def ndP (e:Exn):Int :=
 if arP e.fOp<0 then 1 else if (e.fArgs.length:Int)≠arP e.fOp then 15 else
 if (usV e.fOp && (decide (e.fVar<0) || decide (16<=e.fVar))) || (usF e.fOp && (decide (e.fField<0) || decide (8<=e.fField))) then 2 else
 if decide (e.fOp=4) && (decide (e.fKind<1) || decide (5<e.fKind)) then 1 else
 if (decide (e.fOp=4) || decide (e.fOp=0)) && !decide (vcP e.fValue=0) then vcP e.fValue else
 if decide (e.fOp=4) && (!(suP e.fKind e.fValue) || (decide (e.fKind=1) && !decide (e.fValue=va0))) then 9 else
 if (!(usV e.fOp) && !decide (e.fVar=0)) || (!(usF e.fOp) && !decide (e.fField=0)) || (!decide (e.fOp=4) && !decide (e.fKind=0)) || (!(decide (e.fOp=4) || decide (e.fOp=0)) && !decide (e.fValue=va0)) then 3 else 0
theorem zxf (op:Int)(h:¬arP op<0):op=0\/op=1\/op=2\/op=3\/op=4\/(usV op=false/\usF op=false/\op≠0/\op≠4):=by
 unfold arP at h;by_cases d:op=0
 ·exact aE d
 by_cases h1:op=1
 ·exact aG (aE h1)
 by_cases b:op=2
 ·exact aG (aG (aE b))
 by_cases e:op=3
 ·omega
 by_cases a:op=4
 ·omega
 exact aG (aG (aG (aG (aG ⟨by simp [usV,h1,b,e,a],by simp [usF,h1,a],d,a⟩))))
theorem us0:usV 0=false/\usF 0=false:=by decide
theorem us1:usV 1=true/\usF 1=true:=by decide
theorem us2:usV 2=true/\usF 2=false:=by decide
theorem us3:usV 3=true/\usF 3=false:=by decide
theorem us4:usV 4=true/\usF 4=true:=by decide
theorem y79 (n:Nat)(e:Exn):V0 n e=some (ndP e):=by
 unfold V0;rw [y4c,A0,y78];simp only [A0,length_map,A4,Am,y47,zm2,B5,Ar,E7,I8,Lb,La,Gu,Cc,zls];unfold ndP;by_cases a:arP e.fOp<0
 ·rw [if_pos a,if_pos a]
 rw [if_neg a,if_neg a];by_cases b:(e.fArgs.length:Int)=arP e.fOp;rotate_left
 ·rw [if_neg b,if_pos b]
 rw [if_pos b,if_neg (show ¬((e.fArgs.length:Int)≠arP e.fOp) from fun h=>h b)];have d:=zxf e.fOp a;obtain ⟨op,args,var,field,kind,val⟩:=e;simp only at *;clear b a;rcases d with rfl|rfl|rfl|rfl|rfl|⟨h1,i,g,f⟩
 ·simp [us0,B0];grind
 ·simp [us1,B0];grind
 ·simp [us2,B0];grind
 ·simp [us3,B0];grind
 ·simp [us4,B0];grind
 ·simp [h1,i,g,f,B0];grind
end Go.Proofs.YthbogefcfhmpgaaGreat
