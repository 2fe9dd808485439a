/- What some functions compute, over plain values. -/
import Derived.Test.YthbogefcfhmpgaaGreatK19
set_option linter.unusedVariables false
set_option linter.unusedSimpArgs false
set_option maxRecDepth 100000
set_option maxHeartbeats 8000000
namespace Go.Proofs.YthbogefcfhmpgaaGreat
open Go.RowKit List
open List renaming length_map->aA,pairwise_cons->aC,mem_cons->aD,take_succ_eq_append_getElem->aK,length_cons->aM,getElem_mem->aN,drop_eq_nil_of_le->aO,mem_cons_of_mem->aR
open Or renaming inl->aB,inr->aE
open LeX renaming a->aF,pa->aZ
open Int renaming natCast_zero->aG
open RetX renaming oB->aH
open IntKind renaming wrap->aJ
open AW renaming stepU->aL,regO->aQ,step->bA,jI->bD
open SubL renaming refl->aP
open Tryz renaming func83->aS,func230->aX
open IdxX renaming A->aT
open A1 renaming o->aV,t->bF,f->bG
noncomputable section
abbrev z2n {n f g h j e a b c}:=jf (Js n f g h j e a b c) (fun d=>⟨[(1,.sl 5 (j.map A7)),(7,.ptr 7 0),(8,.ptr 8 0),(9,.ptr 9 0),(10,.ptr 10 0),(12,.ptr 12 0),(13,.sl 11 (a.fGuards.map B8)),(14,aI b),(54,.bool (d))],[(7,.box 90 (C7 h)),(8,.box 149 (Bp g)),(9,.box 37 (Bo f)),(10,.box 90 [aI 0,.nils,.nils]),(12,.box 271 (Dp e))]⟩) fun _=>Js.eq_1 ..
abbrev z2m {n e f g h d a b}:=li (Hy n e f g h d a b) (fun c=>⟨[(1,.sl 5 (h.map A7)),(7,.ptr 7 0),(8,.ptr 8 0),(9,.ptr 9 0),(10,.ptr 10 0),(12,.ptr 12 0),(13,.sl 11 (a.fGuards.map B8)),(14,aI c)],[(7,.box 90 (C7 g)),(8,.box 149 (Bp f)),(9,.box 37 (Bo e)),(10,.box 90 [aI 0,.nils,.nils]),(12,.box 271 (Dp d))]⟩) fun _ _=>Hy.eq_2 ..
abbrev z7t {n a d b}:=jf (L9 n a d b) (fun c=>⟨[(0,.sl 1 (d.map Az)),(3,.ptr 3 0),(5,aI b),(34,.bool (c))],[(3,.box 64 (Mq a))]⟩) fun _=>L9.eq_1 ..
abbrev z7s {n a f b c d}:=jf (L8 n a f b c d) (fun e=>⟨[(0,.sl 1 (f.map Az)),(3,.ptr 3 0),(5,aI b),(19,.bool (e))],[(3,.box 64 (Mq a))]⟩) fun _=>L8.eq_1 ..
abbrev z7r {n a d b}:=li (Ik n a d b) (fun c=>⟨[(0,.sl 1 (d.map Az)),(3,.ptr 3 0),(5,aI c)],[(3,.box 64 (Mq a))]⟩) fun _ _=>Ik.eq_2 ..
abbrev z7g {n d e f g a c}:=li (Ih n d e f g a c) (fun b=>⟨[(1,.sl 5 (f.map A7)),(4,.ptr 4 0),(6,.ptr 6 0),(7,.ptr 7 0),(10,.sl 3 (b.1.map Ai)),(11,.sl 1 (b.2.1.map Az)),(12,.sl 17 (a.map A9)),(13,aI b.2.2)],[(4,.box 26 (B3 g)),(6,.box 90 (C7 e)),(7,.box 37 (Bo d))]⟩) fun _ _=>Ih.eq_2 ..
abbrev z7h {n a d e f}:=jt (L5 n a d e f) (fun b=>⟨[(1,.sl 5 (e.map A7)),(4,.ptr 4 0),(6,.ptr 6 0),(7,.ptr 7 0),(10,.sl 3 (b.map Ai)),(11,.nils)],[(4,.box 26 (B3 f)),(6,.box 90 (C7 d)),(7,.box 37 (Bo a))]⟩) fun _=>L5.eq_1 ..
abbrev z7i {n a g h j d b c e}:=li (Pm n a g h j d b c e) (fun f=>⟨[(1,.sl 5 (h.map A7)),(2,.sl 3 (g.map Ai)),(4,.ptr 4 0),(7,.ptr 7 0),(10,.sl 3 (b.map Ai)),(11,.sl 1 (f.1.map Az)),(12,aI d.2.2),(14,.sl 1 (c.map Az)),(16,aI f.2)],[(4,.box 26 (B3 j)),(7,.box 37 (Bo a))]⟩) fun _ _=>Pm.eq_2 ..
abbrev z7j {n a f g h b c d}:=li (Pn n a f g h b c d) (fun e=>⟨[(1,.sl 5 (g.map A7)),(2,.sl 3 (f.map Ai)),(4,.ptr 4 0),(7,.ptr 7 0),(10,.sl 3 (e.1.map Ai)),(11,.sl 1 (b.2.1.map Az)),(12,aI b.2.2),(13,.sl 3 (c.1.map Ai)),(14,.sl 1 (c.2.map Az)),(15,aI e.2)],[(4,.box 26 (B3 h)),(7,.box 37 (Bo a))]⟩) fun _ _=>Pn.eq_2 ..
abbrev z7k {n a d e f c}:=li (Po n a d e f c) (fun b=>⟨[(1,.sl 5 (e.map A7)),(2,.sl 3 (d.map Ai)),(4,.ptr 4 0),(7,.ptr 7 0),(10,.sl 3 (b.1.map Ai)),(11,.sl 1 (b.2.1.map Az)),(12,aI b.2.2)],[(4,.box 26 (B3 f)),(7,.box 37 (Bo a))]⟩) fun _ _=>Po.eq_2 ..
abbrev z3p {n a g h d e b c}:=jf (K1 n a g h d e b c) (fun f=>⟨[(1,.sl 5 (g.map A7)),(2,aI a),(3,.ptr 3 0),(10,.sl 1 (b.map Az)),(11,aI d.2.2),(12,.sl 3 (c.map Ai)),(55,.bool (f))],[(3,.box 26 (B3 h))]⟩) fun _=>K1.eq_1 ..
abbrev z3n {n a f g b c d}:=li (Oa n a f g b c d) (fun e=>⟨[(1,.sl 5 (f.map A7)),(2,aI a),(3,.ptr 3 0),(10,.sl 1 (e.1.map Az)),(11,aI b.2.2),(12,.sl 3 (c.1.map Ai)),(13,.sl 1 (c.2.map Az)),(14,aI e.2)],[(3,.box 26 (B3 g))]⟩) fun _ _=>Oa.eq_2 ..
abbrev z3o {n a d e c}:=li (I4 n a d e c) (fun b=>⟨[(1,.sl 5 (d.map A7)),(2,aI a),(3,.ptr 3 0),(9,.sl 3 (b.1.map Ai)),(10,.sl 1 (b.2.1.map Az)),(11,aI b.2.2)],[(3,.box 26 (B3 e))]⟩) fun _ _=>I4.eq_2 ..
attribute [instance] z2n z2m z7t z7s z7r z7g z7h z7i z7j z7k z3p z3n z3o
instance zgx {n j g f e d}:CI E0 (Kp n j g f e d) false 230 [Bi j,.sl 5 (g.map A7),Ai f,A9 e,A7 d] (fun r=>.tup [Ai r.1,.bool (r.2)]):=⟨fun {r} b=>by
 unfold Kp at b;refine Con.env (E:=E0b) rfl rfl ?_;refine Con.walk _ aX rfl (B0 aX rfl rfl) rfl (aB rfl) ?_;repeat' first
  |refine bD b (fun v b=>?_) fun b=>?_
  |refine aQ b fun b=>?_
  |refine AW.frzO b 125 rfl (fun b=>?_)
  |refine aL [21,6,8] ?_;conv=>whnf
  |refine aV b (fun b=>?_) fun b=>?_
  |refine Ab.I b fun a b=>?_
  |refine aT b fun x b=>?_
  |refine AppX.oA0 b fun l b=>?_
  |refine OpX.bldS B6 b rfl rfl rfl rfl rfl rfl rfl rfl rfl rfl rfl rfl rfl rfl (fun l b=>?_)
  |refine AppX.oA b fun l b=>?_
  |refine OpX.bldR A7 b rfl rfl rfl rfl rfl rfl rfl rfl rfl rfl rfl rfl rfl rfl rfl rfl (by first|exact SubR.refl _|(repeat' first|exact SubR.nil|refine SubR.cons ?_ ?_|exact SubL.nil|refine SubL.cons ?_ ?_|exact Sub.refl _|exact Sub.nil _)) rfl (fun l b=>?_)
  |refine B7.oE b 130 zax rfl (fun a h=>Con.env rfl rfl (z8v.h h)) rfl rfl (fun a b=>?_)
  |exact ⟨_,b,aF []⟩
  |refine Av.I b (aF []) fun m v b=>?_
  |refine IdxX.oD b Dg (fun x b=>?_)
  |refine Ab.S b fun a b=>?_
  |refine AndA ?_
  |exact aH b⟩
instance znz {n e d}:CI E0 (Lu n e d) false 103 [.sl 1 (e.map Az),Az d] (fun r=>.sl 1 (r.map Az)):=⟨fun {r} b=>by
 unfold Lu at b;refine cw Tryz.func103 ?_;repeat' first
  |refine bD b (fun v b=>?_) fun b=>?_
  |refine aQ b fun b=>?_
  |refine aL [2,4] ?_;conv=>whnf
  |refine aV b (fun b=>?_) fun b=>?_
  |refine SlsX.o Az b (fun l b=>?_)
  |refine AppX.oA0 b fun l b=>?_
  |refine AppX.oA b fun l b=>?_
  |refine aT b fun x b=>?_
  |refine Ab.I b fun a b=>?_
  |exact ⟨_,b,aF []⟩
  |refine Av.I b (aF []) fun m v b=>?_
  |refine AndA ?_
  |exact aH b⟩
instance znu {n g f e d}:CI E0 (Ul n g f e d) false 171 [Bi g,.sl 5 (f.map A7),Ai e,A7 d] (fun r=>.tup [.sl 3 (r.1.map Ai),.sl 1 (r.2.map Az)]):=⟨fun {r} b=>by
 unfold Ul at b;refine cw Tryz.func171 ?_;repeat' first
  |refine AW.jI2 b (fun v b=>?_) fun b=>?_
  |refine aQ b fun b=>?_
  |refine aL [3,11] ?_;conv=>whnf
  |refine aV b (fun b=>?_) fun b=>?_
  |refine Ab.I b fun a b=>?_
  |refine aT b fun x b=>?_
  |exact ⟨_,b,aF []⟩
  |refine Av.I b ?_ fun m v b=>?_
  |exact aZ 11 (aF [])
  |refine Ab.S b fun a b=>?_
  |exact ⟨_,b,aZ 10 (aF [])⟩
  |refine AndA ?_
  |exact aH b⟩
instance znv {n g f e d}:CI E0 (Um n g f e d) false 102 [Bi g,.sl 5 (f.map A7),.sl 3 (e.map Ai),A7 d] (fun r=>.tup [.sl 3 (r.1.map Ai),.sl 1 (r.2.map Az)]):=⟨fun {r} b=>by
 unfold Um at b;refine cw Tryz.func102 ?_;repeat' first
  |refine bA ?_;conv=>whnf
  |refine aV b (fun b=>?_) fun b=>?_
  |refine aT b fun x b=>?_
  |refine Ab.I b fun a b=>?_
  |exact ⟨_,b,aF []⟩
  |refine Av.I b ?_ fun m v b=>?_
  |exact aF []
  |exact aZ 10 (aZ 11 (aF []))
  |refine AndA ?_
  |exact aH b⟩
end
noncomputable section
abbrev z4m {n a d}:=jf (Kc n a d) (fun b=>⟨[(1,.sl 5 (a.map A7)),(2,.ptr 2 0),(15,.bool (b))],[(2,.box 26 (B3 d))]⟩) fun _=>Kc.eq_1 ..
attribute [instance] z4m          
instance zid {n f e d}:CI E0 (Tx n f e d) false 47 [Bi f,.sl 5 (e.map A7),aI d] (fun r=>.tup [.sl 3 (r.1.map Ai),.sl 1 (r.2.1.map Az),.bool (r.2.2)]):=⟨fun {r} b=>by
 unfold Tx at b;refine cw Tryz.func47 ?_;repeat' first
  |refine bD b (fun v b=>?_) fun b=>?_
  |refine aQ b fun b=>?_
  |refine aL [11] ?_;conv=>whnf
  |refine aV b (fun b=>?_) fun b=>?_
  |refine Ab.I b fun a b=>?_
  |refine aT b fun x b=>?_
  |exact ⟨_,b,aF []⟩
  |refine Av.I b ?_ fun m v b=>?_
  |exact aF []
  |exact aZ 10 (aF [])
  |refine AndA ?_
  |exact aH b⟩
instance zjz {n b a}:CI E0 (Q1 n b a) true 13 [Bi b,.sl 5 (a.map A7)] (fun r=>.bool (r)):=by unfold Q1;exact CI.w [1] Tryz.func13
end
noncomputable section
abbrev z7z {n d a b}:=li (Y3 n d a b) (fun c=>⟨[(0,.sl 1 (a.map aI)),(1,.sl 1 (d.map aI)),(12,aI (((a.map aI).length:Int))),(13,aI c)],[]⟩) fun _ _=>Y3.eq_2 ..
abbrev z7y {n d a b}:=li (Y2 n d a b) (fun c=>⟨[(0,.sl 1 (a.map AV.bool)),(1,.sl 1 (d.map AV.bool)),(12,aI (((a.map AV.bool).length:Int))),(13,aI c)],[]⟩) fun _ _=>Y2.eq_2 ..
abbrev z5h {n}:=jf (Kl n) (fun b=>⟨[(1,.sl 2 [.agg [.str ((ByteArray.mk #[65])),.sl 2 [.agg [.str ((ByteArray.mk #[120])),aI 0]]]]),(9,.ptr 9 0),(129,.bool (b))],[(9,.box 37 [aI 0,aI 0,aI 0,aI 0,.sl 3 [.agg [aI 0,aI 0,.str (ByteArray.empty)]]])]⟩) fun _=>Kl.eq_1 ..
abbrev z5i {n d a}:=jf (Dk n d a) (fun b=>⟨[(1,.sl 2 [.agg [.str ((ByteArray.mk #[65])),.sl 2 [.agg [.str ((ByteArray.mk #[120])),aI 0]]]]),(2,.sl 1 (d.1.map aI)),(3,.sl 1 (d.2.1.map AV.bool)),(7,.ptr 7 0),(9,.ptr 9 0),(111,.bool (b))],[(7,.box 39 [aI a.1.fVerdict,aI a.1.fBound,.sl 5 (a.1.fPrefix.map A7),aI a.1.fPeriod]),(9,.box 37 [aI 0,aI 0,aI 0,aI 0,.sl 3 [.agg [aI 0,aI 0,.str (ByteArray.empty)]]])]⟩) fun _=>Dk.eq_1 ..
attribute [instance]    z7z z7y z5h z5i     
instance zkk {n}:CI E0 (H3 n) false 84 [] Au:=by unfold H3;exact CI.w [] Tryz.func84
def za7 (a:Ay):List (Nat×Ent):=[]
def Ua (r:Ad):List (Nat×Ent):=[(261002,.row 140 1 (r.fStates.map Ao)),(261003,.row 149 17 (r.fEdges.map A9)),(2,.box 26 [aI r.fVars,aI r.fScopes,.row 261002,.row 261003])]
def Ym (r:Ad):AV:=.agg [aI (r.fVars),aI (r.fScopes),.row 261002,.row 261003]
def za5 (r:Ad):AS:=⟨[(2,.ptr 2 0)],Ua r⟩
theorem z19 {n d r}(b:z0t n d=some r):ConG E0.P none (CalF E0.P 83 0) [Au d] [] (za7 d) (Ym r) (Ua r):=by
 unfold z0t at b;refine ConG.walk (E:=(E0q 1)) (caps:=[]) _ aS rfl rfl rfl rfl rfl ?_;repeat' first
  |refine bA ?_;conv=>whnf
  |refine aV b (fun b=>?_) fun b=>?_
  |refine bF ?_
  |refine bG ?_
  |refine MakX.o Ao b (by first|exact aP _|(repeat' first|exact SubL.nil|refine SubL.cons ?_ ?_|exact Sub.refl _|exact Sub.nil _|refine Sub.agg ?_)) (fun l b=>?_)
  |refine Ab.I b fun a b=>?_
  |refine OpX.bldR A9 b rfl rfl rfl rfl rfl rfl rfl rfl rfl rfl rfl rfl rfl rfl rfl rfl (by first|exact SubR.refl _|(repeat' first|exact SubR.nil|refine SubR.cons ?_ ?_|exact SubL.nil|refine SubL.cons ?_ ?_|exact Sub.refl _|exact Sub.nil _)) rfl (fun l b=>?_)
  |refine OpX.bld A9 b rfl rfl rfl rfl rfl rfl rfl rfl rfl rfl rfl rfl rfl rfl rfl rfl (fun l b=>?_)
  |exact GX.A (res:=Ym) (meF:=Ua) b za5 (h1:=aF [(261002,3),(261003,8)])
  |refine AndA ?_
  |refine EqX.A ?_
instance zh2 {n}:CI E0 (Xt n) false 82 [] Bi:=⟨fun {r} b=>by
 unfold Xt at b;refine cw Tryz.func82 ?_;repeat' first
  |refine bA ?_;conv=>whnf
  |refine aV b (fun b=>?_) fun b=>?_
  |refine bF ?_
  |refine bG ?_
  |refine Ab.I b fun a b=>?_
  |refine B7.oM (Bg 3 b) [] [(261002,4000000),(261003,4000001),(2,4000002)] _ _ Ua Ym [] (fun a h=>ConG.up (z19 h)) (B0 aS rfl rfl) rfl rfl rfl trivial (fun a=>⟨rfl,rfl,rfl,rfl,rfl,rfl,rfl,rfl⟩) (fun a b=>?_)
  |refine Ab.oM (Bg 3 b) [] [(261002,4000000),(261003,4000001),(2,4000002)] _ _ Ua Ym [] (fun a h=>ConG.up (z19 h)) (B0 aS rfl rfl) rfl rfl rfl trivial (fun a=>⟨rfl,rfl,rfl,rfl,rfl,rfl,rfl,rfl⟩) (fun a b=>?_)
  |refine NatX.o b (fun m b=>?_)
  |refine LtX.o b (fun b=>?_)
  |refine SetX.o A9 b (fun x=>rfl) (fun x=>(by first|exact aP _|(repeat' first|exact SubL.nil|refine SubL.cons ?_ ?_|exact Sub.refl _|exact Sub.nil _|refine Sub.agg ?_))) (fun l b=>?_)
  |refine AndA ?_
  |refine EqX.A ?_
  |exact aH b⟩
instance zfj {n d}:CI E0 (Od n d) false 83 [Au d] Bi:=⟨fun {r} b=>by
 unfold Od at b;refine cw aS ?_;repeat' first
  |refine bA ?_;conv=>whnf
  |refine aV b (fun b=>?_) fun b=>?_
  |refine bF ?_
  |refine bG ?_
  |refine MakX.o Ao b (by first|exact aP _|(repeat' first|exact SubL.nil|refine SubL.cons ?_ ?_|exact Sub.refl _|exact Sub.nil _|refine Sub.agg ?_)) (fun l b=>?_)
  |refine Ab.I b fun a b=>?_
  |refine AndA ?_
  |refine EqX.A ?_
  |exact aH b⟩
instance zo6 {n b a}:CI E0 (z0y n b a) true 28 [.sl 1 (b.map aI),.sl 1 (a.map aI)] (fun r=>.bool (r)):=by unfold z0y;exact CI.w [] Tryz.func28
instance zo5 {n b a}:CI E0 (z0x n b a) true 29 [.sl 1 (b.map AV.bool),.sl 1 (a.map AV.bool)] (fun r=>.bool (r)):=by unfold z0x;exact CI.w [] Tryz.func29
instance zkl {n}:CI E0 (Ip n) true 26 [] (fun r=>.bool (r)):=⟨fun {r} b=>by
 unfold Ip at b;refine cw Tryz.func26 ?_;repeat' first
  |refine bD b (fun v b=>?_) fun b=>?_
  |refine aQ b fun b=>?_
  |refine AW.frzO b 53 rfl (fun b=>?_)
  |refine aL [9,10,12] ?_;conv=>whnf
  |refine aV b (fun b=>?_) fun b=>?_
  |refine bF ?_
  |refine bG ?_
  |refine Ab.I b fun a b=>?_
  |refine Ab.S b fun a b=>?_
  |refine MakX.o Ao b (by first|exact aP _|(repeat' first|exact SubL.nil|refine SubL.cons ?_ ?_|exact Sub.refl _|exact Sub.nil _|refine Sub.agg ?_)) (fun l b=>?_)
  |exact ⟨_,b,aF []⟩
  |refine AndA ?_
  |refine EqX.A ?_
  |exact aH b⟩
end
noncomputable section
abbrev z2s {n a b c}:=li (Gm n a b c) (fun d=>⟨[(1,.ptr 1 0),(3,.row 10),(4,aI b.1),(5,aI d.1)],[(1,.box 26 (B3 a)),(10,.row 4 1 (d.2.map AV.bool))]⟩) fun _ _=>Gm.eq_2 ..
abbrev z2t {n a b}:=li (Ju n a b) (fun c=>⟨[(1,.ptr 1 0),(3,.row 10),(4,aI c.1)],[(1,.box 26 (B3 a)),(10,.row 4 1 (c.2.map AV.bool))]⟩) fun _ _=>Ju.eq_2 ..
abbrev z3s {n a b}:=li (K3 n a b) (fun c=>⟨[(0,.sl 1 (a.map AV.bool)),(3,.row 7018),(4,aI c.1)],[(7018,.row 3 1 (c.2.map aI))]⟩) fun _ _=>K3.eq_2 ..
attribute [instance] z2s z2t z3s               
instance zgz {n b}:CI E0 (Xs n b) false 59 [Bi b] (fun r=>.sl 1 (r.map AV.bool)):=⟨fun {r} a=>by
 unfold Xs at a;refine cw Tryz.func59 ?_;repeat' first
  |refine aQ a fun a=>?_
  |refine aL [9] ?_;conv=>whnf
  |refine aV a (fun a=>?_) fun a=>?_
  |refine bF ?_
  |refine bG ?_
  |refine MakX.o AV.bool a (by first|exact aP _|(repeat' first|exact SubL.nil|refine SubL.cons ?_ ?_|exact Sub.refl _|exact Sub.nil _|refine Sub.agg ?_)) (fun l a=>?_)
  |exact ⟨_,a,aF []⟩
  |refine aT a fun x a=>?_
  |refine NatX.o a (fun m a=>?_)
  |refine SetX.o AV.bool a (fun x=>rfl) (fun x=>(by first|exact aP _|(repeat' first|exact SubL.nil|refine SubL.cons ?_ ?_|exact Sub.refl _|exact Sub.nil _|refine Sub.agg ?_))) (fun l a=>?_)
  |refine EltX.o AV.bool a (fun x a=>?_)
  |refine Av.I a (aF []) fun m v a=>?_
  |refine AndA ?_
  |refine EqX.A ?_
  |exact aH a⟩
instance zif {n b}:CI E0 (Y0 n b) false 58 [.sl 1 (b.map AV.bool)] (fun r=>.sl 1 (r.map aI)):=⟨fun {r} a=>by
 unfold Y0 at a;refine cw Tryz.func58 ?_;repeat' first
  |refine aQ a fun a=>?_
  |refine aL [5] ?_;conv=>whnf
  |refine aV a (fun a=>?_) fun a=>?_
  |refine bF ?_
  |refine bG ?_
  |refine aT a fun x a=>?_
  |refine AppX.oA a fun l a=>?_
  |exact ⟨_,a,aF [(7018,18)]⟩
  |exact ⟨_,a,aF []⟩
  |refine Av.I a ?_ fun m v a=>?_
  |exact LeX.trans (LeX.adopt 3 7018 3 1 rfl rfl) (aF [])
  |refine AndA ?_
  |refine EqX.A ?_
  |exact aH a⟩
instance zih {n a}:CI E0 (Tz n a) false 16 [Bi a] (fun r=>.tup [.sl 1 (r.1.map aI),aI r.2]):=by unfold Tz;exact CI.w [] Tryz.func16
end
noncomputable section
end
noncomputable section
abbrev z14 {n a h j b c f d e}:=jf (Fn n a h j b c f d e) (fun g=>⟨[(1,.sl 5 (h.map A7)),(3,.ptr 3 0),(5,.ptr 5 0),(8,.sl 1 (b.1.map aI)),(9,.sl 1 (b.2.1.map AV.bool)),(14,.sl 1 (f.1.map aI)),(107,.sl 3 (c.1.map Ai)),(108,aI (((c.1.map Ai).length:Int))),(109,aI d),(182,.bool (g))],[(3,.box 26 (B3 j)),(5,.box 37 (Bo a))]⟩) fun _=>Fn.eq_1 ..
abbrev z15 {n a j m b c f d e g}:=jf (Ez n a j m b c f d e g) (fun h=>⟨[(1,.sl 5 (j.map A7)),(3,.ptr 3 0),(5,.ptr 5 0),(8,.sl 1 (b.1.map aI)),(9,.sl 1 (b.2.1.map AV.bool)),(14,.sl 1 (f.1.map aI)),(17,.ptr 17 0),(107,.sl 3 (c.1.map Ai)),(108,aI (((c.1.map Ai).length:Int))),(109,aI d),(148,.bool (h))],[(3,.box 26 (B3 m)),(5,.box 37 (Bo a)),(17,.box 90 (C7 g))]⟩) fun _=>Ez.eq_1 ..
abbrev z13 {n a g h b c e d}:=li (Ey n a g h b c e d) (fun f=>⟨[(1,.sl 5 (g.map A7)),(3,.ptr 3 0),(5,.ptr 5 0),(8,.sl 1 (b.1.map aI)),(9,.sl 1 (b.2.1.map AV.bool)),(14,.sl 1 (e.1.map aI)),(107,.sl 3 (c.1.map Ai)),(108,aI (((c.1.map Ai).length:Int))),(109,aI f)],[(3,.box 26 (B3 h)),(5,.box 37 (Bo a))]⟩) fun _ _=>Ey.eq_2 ..
abbrev z16 {n a f g b c d}:=jf (Fo n a f g b c d) (fun e=>⟨[(1,.sl 5 (f.map A7)),(3,.ptr 3 0),(5,.ptr 5 0),(8,.sl 1 (b.1.map aI)),(9,.sl 1 (b.2.1.map AV.bool)),(11,.sl 3 (c.1.map Ai)),(14,.sl 1 (d.1.map aI)),(106,.bool (e))],[(3,.box 26 (B3 g)),(5,.box 37 (Bo a))]⟩) fun _=>Fo.eq_1 ..
abbrev z17 {n a d e}:=jf (F0 n a d e) (fun b=>⟨[(1,.sl 5 (d.map A7)),(3,.ptr 3 0),(5,.ptr 5 0),(62,.bool (b))],[(3,.box 26 (B3 e)),(5,.box 37 (Bo a))]⟩) fun _=>F0.eq_1 ..
abbrev z18 {n a d e}:=jf (Eh n a d e) (fun b=>⟨[(1,.sl 5 (d.map A7)),(3,.ptr 3 0),(5,.ptr 5 0),(45,.bool (b))],[(3,.box 26 (B3 e)),(5,.box 37 (Bo a))]⟩) fun _=>Eh.eq_1 ..
attribute [instance] z14 z15 z13 z16 z17 z18
theorem z1f {n f e d r}(b:X9 n f e d=some r):Con E0 true 8 [Bi f,.sl 5 (e.map A7),A7 d] (.bool (r)):=by
 unfold X9 at b;refine cw Tryz.func8 ?_;repeat' first
  |refine bD b (fun v b=>?_) fun b=>?_
  |refine aQ b fun b=>?_
  |refine aL [1,4,9,14,16] ?_;conv=>whnf
  |refine aV b (fun b=>?_) fun b=>?_
  |refine bF ?_
  |refine bG ?_
  |refine Ab.I b fun a b=>?_
  |refine aT b fun x b=>?_
  |exact ⟨_,b,aF []⟩
  |refine Av.I b (aF []) fun m v b=>?_
  |refine AndA ?_
  |refine EqX.A ?_
  |exact aH b
end
section
variable {α:Type} {c:α->α->Int}
theorem TO.asym (h:TO c){a b:α}(k:c a b<0):¬c b a<0:=by have:=h.neg a b;omega
theorem TO.lt_ne (h:TO c){a b:α}(k:c a b<0):a≠b:=fun e=>by subst e;exact h.irr _ k
def Str (c:α->α->Int)(l:List α):Prop:=l.Pairwise (fun x y=>c x y<0)
theorem Str.uniq (h:TO c):∀ {l m:List α},Str c l->Str c m->(∀ x,x∈l ↔ x∈m)->l=m
 |[],[],_,_,_=>rfl
 |[],y::m,_,_,hm=>by have:=(hm y).2 (by simp);simp at this
 |x::l,[],_,_,hm=>by have:=(hm x).1 (by simp);simp at this
 |x::l,y::m,h1,j,hm=>by
  obtain ⟨g,o⟩:=aC.1 h1;obtain ⟨f,n⟩:=aC.1 j;have b:x=y:=by
   rcases aD.1 ((hm x).1 (by simp)) with e|e
   ·exact e
   ·rcases aD.1 ((hm y).2 (by simp)) with d|d
    ·exact d.symm
    ·exact absurd (g y d) (h.asym (f x e))
  subst b;congr 1;refine Str.uniq h o n (fun z=>⟨fun a=>?_,fun a=>?_⟩)
  ·rcases aD.1 ((hm z).1 (aR _ a)) with e|e
   ·exact absurd e.symm (h.lt_ne (g z a))
   ·exact e
  ·rcases aD.1 ((hm z).2 (aR _ a)) with e|e
   ·exact absurd e.symm (h.lt_ne (f z a))
   ·exact e
def insU (c:α->α->Int)(x:α):List α->List α
 |[]=>[x]
 |y::l=>if c y x<0 then y::insU c x l else if c y x=0 then y::l else x::y::l
theorem Ws (h:TO c)(x z:α):∀ l:List α,z∈insU c x l ↔ z=x\/z∈l
 |[]=>by simp [insU]
 |y::l=>by
  unfold insU;split
  ·simp only [aD,Ws h x z l];constructor
   ·rintro (h|h|h)<;>simp [h]
   ·rintro (h|h|h)<;>simp [h]
  ·split
   ·rename_i e;have:=(h.zero _ _).1 e;subst this;simp only [aD];constructor
    ·intro k;exact aE k
    ·rintro (k|k)
     ·exact aB k
     ·exact k
   ·simp only [aD]
theorem zsy (h:TO c)(x:α):∀ l:List α,Str c l->Str c (insU c x l)
 |[],_=>by simp [insU,Str]
 |y::l,b=>by
  obtain ⟨h1,f⟩:=aC.1 b;unfold insU;split
  ·rename_i k;refine aC.2 ⟨fun z a=>?_,zsy h x l f⟩;rcases (Ws h x z l).1 a with e|e
   ·rw [e];exact k
   ·exact h1 z e
  ·split
   ·exact b
   ·rename_i j g;have d:c x y<0:=by have:=h.neg y x;have:=h.one y x;omega
    refine aC.2 ⟨fun z a=>?_,b⟩;rcases aD.1 a with e|e
    ·rw [e];exact d
    ·exact h.trans _ _ _ d (h1 z e)
theorem N1 (c:α->α->Int)(x:α):∀ l:List α,(insU c x l).length<=l.length+1
 |[]=>by simp [insU]
 |y::l=>by
  unfold insU;have:=N1 c x l;split
  ·simp only [aM];omega
  ·split<;>simp only [aM]<;>omega
theorem zni (c:α->α->Int)(x:α):∀ l:List α,l.length<=(insU c x l).length
 |[]=>by simp [insU]
 |y::l=>by
  unfold insU;have:=zni c x l;split
  ·simp only [aM];omega
  ·split<;>simp only [aM]<;>omega
def puts (c:α->α->Int)(s:List α)(l:List α):List α:=l.foldl (fun s x=>insU c x s) s
def setL (c:α->α->Int)(l:List α):List α:=puts c [] l
theorem Ho (s:List α)(x:α)(l:List α):puts c s (x::l)=puts c (insU c x s) l:=rfl
theorem W9 (s l m:List α):puts c s (l++m)=puts c (puts c s l) m:=by simp [puts,foldl_append]
theorem S5 (h:TO c)(z:α):∀ (l s:List α),z∈puts c s l ↔ z∈s\/z∈l
 |[],s=>by simp [puts]
 |x::l,s=>by
  rw [Ho,S5 h z l,Ws h];simp only [aD];constructor
  ·rintro ((k|k)|k)<;>simp [k]
  ·rintro (k|k|k)<;>simp [k]
theorem zdm (h:TO c):∀ (l s:List α),Str c s->Str c (puts c s l)
 |[],_,hs=>hs
 |x::l,s,hs=>by rw [Ho];exact zdm h l _ (zsy h x s hs)
theorem zdn:∀ (l s:List α),(puts c s l).length<=s.length+l.length
 |[],s=>by simp [puts]
 |x::l,s=>by
  rw [Ho];have:=zdn l (insU c x s);have:=N1 c x s;simp only [aM];omega
theorem zma:∀ (l s:List α),s.length<=(puts c s l).length
 |[],s=>by simp [puts]
 |x::l,s=>by
  rw [Ho];have:=zma l (insU c x s);have:=zni c x s;omega
theorem Fd (h:TO c)(z:α)(l:List α):z∈setL c l ↔ z∈l:=by unfold setL;rw [S5 h];simp
theorem S4 (h:TO c)(l:List α):Str c (setL c l):=zdm h l [] (by simp [Str])
theorem zdk (l:List α):(setL c l).length<=l.length:=by have:=zdn (c:=c) l [];simpa [setL] using this
theorem y1y (h:TO c){l m:List α}(hm:∀ x,x∈l ↔ x∈m):setL c l=setL c m:=Str.uniq h (S4 h l) (S4 h m) (fun x=>by rw [Fd h,Fd h,hm])
variable [DecidableEq α]
def ddA (p:α):List α->List α
 |[]=>[]
 |y::l=>if y=p then ddA p l else y::ddA y l
def dd:List α->List α |[]=>[] |x::l=>x::ddA x l
theorem zjy (p z:α):∀ l:List α,ddA p (l++[z])=ddA p l++(if z=(p::l).getLast (by simp) then [] else [z])
 |[]=>by by_cases h:z=p<;>simp [ddA,h]
 |y::l=>by
  have e:(p::y::l).getLast (by simp)=(y::l).getLast (by simp):=by rw [getLast_cons (by simp)]
  simp only [cons_append,ddA];rw [e];by_cases h:y=p
  ·subst h;rw [if_pos rfl,if_pos rfl,zjy y z l]
  ·rw [if_neg h,if_neg h,zjy y z l];rfl
theorem Jf (l:List α)(z:α)(h:l≠[]):dd (l++[z])=dd l++(if z=l.getLast h then [] else [z]):=by
 cases l with
 |nil=>exact absurd rfl h
 |cons x l =>
  show x::ddA x (l++[z])=_;rw [zjy];rfl
theorem zqv (x:α):∀ (l:List α) (p:α),x∈ddA p l\/x=p ↔ x∈l\/x=p
 |[],p=>by simp [ddA]
 |y::l,p=>by
  unfold ddA;split
  ·rename_i h;subst h;rw [zqv x l y];simp only [aD];constructor
   ·rintro (k|k)<;>simp [k]
   ·rintro ((k|k)|k)<;>simp [k]
  ·have:=zqv x l y;simp only [aD];constructor
   ·rintro ((k|k)|k)
    ·exact aB (aB k)
    ·rcases this.1 (aB k) with q|q
     ·exact aB (aE q)
     ·exact aB (aB q)
    ·exact aE k
   ·rintro ((k|k)|k)
    ·exact aB (aB k)
    ·rcases this.2 (aB k) with q|q
     ·exact aB (aE q)
     ·exact aB (aB q)
    ·exact aE k
theorem y5i (x:α)(l:List α):x∈dd l ↔ x∈l:=by
 cases l with
 |nil=>simp [dd]
 |cons y l =>
  simp only [dd,aD];have:=zqv x l y;constructor
  ·rintro (k|k)
   ·exact aB k
   ·rcases this.1 (aB k) with q|q
    ·exact aE q
    ·exact aB q
  ·rintro (k|k)
   ·exact aB k
   ·rcases this.2 (aB k) with q|q
    ·exact aE q
    ·exact aB q
theorem zqu (h:TO c):∀ (l:List α) (p:α),(p::l).Pairwise (fun x y=>ltOf c y x=false)->Str c (p::ddA p l)
 |[],p,_=>by simp [ddA,Str]
 |y::l,p,j=>by
  obtain ⟨h1,g⟩:=aC.1 j;have d:∀ z,z∈y::l->¬c z p<0:=fun z a=>of_decide_eq_false (h1 z a)
  unfold ddA;split
  ·rename_i e;refine zqu h l p (aC.2 ⟨fun z a=>h1 z (aR _ a),(aC.1 g).2⟩)
  ·rename_i e;have f:=zqu h l y g;have b:c p y<0:=by
    rcases h.tri p y with k|k|k
    ·exact k
    ·exact absurd k.symm e
    ·exact absurd k (d y (by simp))
   refine aC.2 ⟨fun z a=>?_,f⟩;rcases aD.1 a with k|k
   ·rw [k];exact b
   ·exact h.trans _ _ _ b ((aC.1 f).1 z k)
theorem zxi (h:TO c)(l:List α):dd (Es c l)=setL c l:=by
 have hs:=z8i h.swo l;refine Str.uniq h ?_ (S4 h l) (fun x=>by rw [y5i,Fd h];exact (Ms c l).mem_iff);cases a:Es c l with
 |nil=>simp [dd,Str]
 |cons x q=>rw [a] at hs;exact zqu h q x hs
end
abbrev Va:=A8
abbrev Ev:=A6
abbrev Exn:=Ay
abbrev be:ByteArray:=ByteArray.empty
abbrev va0:Va:=⟨0,0,ByteArray.empty⟩
def vcP (v:Va):Int :=
 if v.fKind<0 then 1 else if 2<v.fKind then 1 else if v.fKind=2 then (if v.fNum=0 then (if 64<v.fText.size then 13 else 0) else 3) else
 if v.fText=be then (if v.fKind=1 then (if v.fNum<0 then 2 else if 1<v.fNum then 2 else 0) else if v.fNum < -1099511627776 then 2 else if 1099511627776<v.fNum then 2 else 0) else 3
theorem zz8 (n:Nat)(v:Va):H0 n v=some (vcP v):=by
 unfold H0 vcP;simp only [A3,Aw,J9];grind
variable {β:Type}
theorem zrf {α:Type}(p:Prop)[Decidable p](x y:Option α)(k:α->Option β):bnd (if p then x else y) k=if p then bnd x k else bnd y k:=by split<;>rfl
theorem p_vc (n:Nat)(v:Va):Gc n v=some (vcP v):=by
 obtain ⟨k,x,t⟩:=v;unfold Gc Ml vcP;simp only [A3,Aw,J9];by_cases e:k=0
 ·subst e;by_cases a:t=be
  ·subst a;have hs:be.size=0:=rfl;simp [hs,A0,zrf];grind
  ·simp [a]
 ·by_cases d:k=1
  ·subst d;by_cases a:t=be
   ·subst a;have hs:be.size=0:=rfl;simp [hs,A0,zrf];grind
   ·simp [a]
  ·by_cases b:k=2
   ·subst b;simp [A0,zrf];grind
   grind
theorem y41 (x y:Va):(decide (x.fKind=y.fKind) && (decide (x.fNum=y.fNum) && ((x.fText.toList == y.fText.toList) && true)))=decide (x=y):=by
 cases x;cases y;simp [J9]
theorem ziz (x:Va):(decide (x.fKind=0) && (decide (x.fNum=0) && ((x.fText.toList == ByteArray.empty.toList) && true)))=decide (x=va0):=y41 x va0
def arP (op:Int):Int:=if op<0 then -1 else if 12<op then -1 else if op<5 then 0 else if op=12 then 1 else 2
theorem zzd (n:Nat)(op:Int):U8 n op=some (arP op):=by
 unfold U8 arP;simp only [B2,Ak,Fy,Ej,A3,Ax,decide_eq_true_eq];by_cases h1:op<0
 ·simp [h1,show op≠0 by omega,show op≠1 by omega,show op≠2 by omega,show op≠3 by omega,show op≠4 by omega,show op≠5 by omega,show op≠6 by omega,show op≠7 by omega,show op≠8 by omega,show op≠9 by omega,show op≠10 by omega,show op≠11 by omega,show op≠12 by omega]
 ·by_cases a:12<op
  ·simp [h1,a,show op≠0 by omega,show op≠1 by omega,show op≠2 by omega,show op≠3 by omega,show op≠4 by omega,show op≠5 by omega,show op≠6 by omega,show op≠7 by omega,show op≠8 by omega,show op≠9 by omega,show op≠10 by omega,show op≠11 by omega,show op≠12 by omega]
  ·have:op=0\/op=1\/op=2\/op=3\/op=4\/op=5\/op=6\/op=7\/op=8\/op=9\/op=10\/op=11\/op=12:=by omega
   rcases this with rfl|rfl|rfl|rfl|rfl|rfl|rfl|rfl|rfl|rfl|rfl|rfl|rfl<;>rfl
theorem y2q (n:Nat)(op:Int):W8 n op=some (if op<0 then (0,false) else if 12<op then (0,false) else (arP op,true)):=by
 unfold W8 arP;simp only [B2,Ak,Mc,A3,Ax,decide_eq_true_eq,if_true];grind
def usV (op:Int):Bool:=decide (op=1) || decide (op=2) || decide (op=3) || decide (op=4)
def usF (op:Int):Bool:=decide (op=1) || decide (op=4)
theorem y2a (n:Nat)(op:Int):Uf n op=some (usV op,usF op):=by
 unfold Uf;simp only [B2,Ak,Ku,I8,A3,Ax,decide_eq_true_eq,if_true];by_cases h1:op=1
 ·subst h1;rfl
 ·by_cases d:op=2
  ·subst d;rfl
  ·by_cases b:op=3
   ·subst b;rfl
   ·by_cases a:op=4
    ·subst a;rfl
    ·simp [usV,usF,h1,d,b,a]
theorem y0w (n:Nat)(op:Int):Rv n op=some (usV op,usF op):=by
 unfold Rv;simp only [B2,Ak,Mg,Mf,A3,Ax,decide_eq_true_eq,if_true];by_cases h1:op=1
 ·subst h1;rfl
 ·by_cases d:op=2
  ·subst d;rfl
  ·by_cases b:op=3
   ·subst b;rfl
   ·by_cases a:op=4
    ·subst a;rfl
    ·simp [usV,usF,h1,d,b,a]
def suP (k:Int)(v:Va):Bool:=decide (v.fKind=0) || decide (k=4) || decide (k=5)
theorem y28 (n:Nat)(k:Int)(v:Va):W7 n k v=some (suP k v):=by
 unfold W7;simp only [B2,Ak,J5,A3];by_cases h1:v.fKind=0
 ·simp [suP,h1]
 ·by_cases a:k=4
  ·simp [suP,h1,a]
  ·simp [suP,h1,a]
theorem zj7 (n:Nat)(k:Int)(v:Va):Lk n k v=some (decide (k=0) || suP k v):=by
 unfold Lk;simp only [B2,Ak,Gs,A3];by_cases h1:v.fKind=0
 ·simp [suP,h1]
 ·by_cases b:k=4
  ·by_cases a:k=0
   ·simp [suP,h1,b,a]
   ·simp [suP,h1,b]
  ·by_cases a:k=0
   ·simp [suP,h1,b,a]
   ·simp [suP,h1,b,a]
def ndP (e:Exn):Int :=
 if arP e.fOp<0 then 1 else if (e.fArgs.length:Int)≠arP e.fOp then 15 else
 if (usV e.fOp && (decide (e.fVar<0) || decide (16<=e.fVar))) || (usF e.fOp && (decide (e.fField<0) || decide (8<=e.fField))) then 2 else
 if decide (e.fOp=4) && (decide (e.fKind<1) || decide (5<e.fKind)) then 1 else
 if (decide (e.fOp=4) || decide (e.fOp=0)) && !decide (vcP e.fValue=0) then vcP e.fValue else
 if decide (e.fOp=4) && (!(suP e.fKind e.fValue) || (decide (e.fKind=1) && !decide (e.fValue=va0))) then 9 else
 if (!(usV e.fOp) && !decide (e.fVar=0)) || (!(usF e.fOp) && !decide (e.fField=0)) || (!decide (e.fOp=4) && !decide (e.fKind=0)) || (!(decide (e.fOp=4) || decide (e.fOp=0)) && !decide (e.fValue=va0)) then 3 else 0
theorem zto (op:Int)(h:¬arP op<0):op=0\/op=1\/op=2\/op=3\/op=4\/(usV op=false/\usF op=false/\op≠0/\op≠4):=by
 unfold arP at h;by_cases d:op=0
 ·exact aB d
 by_cases h1:op=1
 ·exact aE (aB h1)
 by_cases b:op=2
 ·exact aE (aE (aB b))
 by_cases e:op=3
 ·omega
 by_cases a:op=4
 ·omega
 exact aE (aE (aE (aE (aE ⟨by simp [usV,h1,b,e,a],by simp [usF,h1,a],d,a⟩))))
theorem us0:usV 0=false/\usF 0=false:=by decide
theorem us1:usV 1=true/\usF 1=true:=by decide
theorem us2:usV 2=true/\usF 2=false:=by decide
theorem us3:usV 3=true/\usF 3=false:=by decide
theorem us4:usV 4=true/\usF 4=true:=by decide
theorem y2c (n:Nat)(e:Exn):Ug n e=some (ndP e):=by
 unfold Ug;rw [zzd,A0,y2a];simp only [A0,aA,A3,Aw,zz8,zj7,B2,Ak,E5,I9,Kw,Kv,Gv,C9,ziz];unfold ndP;by_cases a:arP e.fOp<0
 ·rw [if_pos a,if_pos a]
 rw [if_neg a,if_neg a];by_cases b:(e.fArgs.length:Int)=arP e.fOp;rotate_left
 ·rw [if_neg b,if_pos b]
 rw [if_pos b,if_neg (show ¬((e.fArgs.length:Int)≠arP e.fOp) from fun h=>h b)];have d:=zto e.fOp a;obtain ⟨op,args,var,field,kind,val⟩:=e;simp only at *;clear b a;rcases d with rfl|rfl|rfl|rfl|rfl|⟨h1,j,g,f⟩
 ·simp [us0,Ax];grind
 ·simp [us1,Ax];grind
 ·simp [us2,Ax];grind
 ·simp [us3,Ax];grind
 ·simp [us4,Ax];grind
 ·simp [h1,j,g,f,Ax];grind
theorem zqb (n:Nat)(e:Exn):Vn n e=some (if vcP e.fValue=0 then (if decide (e.fOp=4) && (!(suP e.fKind e.fValue) || (decide (e.fKind=1) && !decide (e.fValue=va0))) then 9 else 0) else vcP e.fValue):=by
 unfold Vn;rw [p_vc,A0];simp only [A3,Aw,y28,A0,B2,Ak,Hd,ziz];obtain ⟨op,args,var,field,kind,val⟩:=e;simp only;by_cases h:op=4
 ·subst h;simp [Ax];grind
 ·simp [h,Ax];split<;>rfl
theorem y4j (n:Nat)(e:Exn):Wd n e=some (ndP e):=by
 unfold Wd;rw [y2q,A0,y0w];simp only [A0,aA,A3,Aw,zqb,B2,Ak,E7,J6,Mi,Mh,Ca,ziz];unfold ndP;by_cases a:arP e.fOp<0
 ·rw [if_pos a];have:e.fOp<0\/12<e.fOp:=by
   unfold arP at a;by_cases h1:e.fOp<0
   ·exact aB h1
   ·omega
  rcases this with h|h
  ·rw [if_pos h,Ar]
  ·by_cases f:e.fOp<0
   ·rw [if_pos f,Ar]
   ·rw [if_neg f,if_pos h,Ar]
 have d:¬e.fOp<0/\¬12<e.fOp:=by
  unfold arP at a;refine ⟨fun h=>a (by rw [if_pos h];decide),fun h=>a ?_⟩;by_cases h1:e.fOp<0
  ·rw [if_pos h1];decide
  ·rw [if_neg h1,if_pos h];decide
 rw [if_neg d.1,if_neg d.2,if_neg a,Am];by_cases b:(e.fArgs.length:Int)=arP e.fOp;rotate_left
 ·rw [if_neg b,if_pos b]
 rw [if_pos b,if_neg (show ¬((e.fArgs.length:Int)≠arP e.fOp) from fun h=>h b)];have g:=zto e.fOp a;obtain ⟨op,args,var,field,kind,val⟩:=e;simp only at *;clear b a d;rcases g with rfl|rfl|rfl|rfl|rfl|⟨h1,o,m,j⟩
 ·simp [us0,Ax];grind
 ·simp [us1,Ax];grind
 ·simp [us2,Ax];grind
 ·simp [us3,Ax];grind
 ·simp [us4,Ax];grind
 ·simp [h1,o,m,j,Ax];grind
inductive ETr:Nat->Exn->Prop
 |mk (l:List (Nat×Exn)) (e:Exn) (h:∀ p∈l,ETr p.1 p.2) (ha:e.fArgs=l.map (fun p=>Au p.2)):ETr (1+(l.map (·.1)).sum) e
inductive ETrO:Nat->Exn->Prop
 |mk (l:List (Nat×Exn)) (e:Exn) (hn:ndP e=0) (h:∀ p∈l,ETrO p.1 p.2) (ha:e.fArgs=l.map (fun p=>Au p.2)):ETrO (1+(l.map (·.1)).sum) e
theorem ETr.pos {s:Nat}{e:Exn}(h:ETr s e):1<=s:=by cases h;omega
variable {l:List (Nat×Exn)}
theorem Jc {p:Nat×Exn}(h:p∈l):p.1<=(l.map (·.1)).sum:=by
 induction l with
 |nil=>cases h
 |cons x l ih =>
  grind
theorem S9 (h:∀ p∈l,1<=p.1):l.length<=(l.map (·.1)).sum:=by
 induction l with
 |nil=>simp
 |cons x l ih =>
  grind
def preS (l:List (Nat×Exn))(k:Nat):Nat:=((l.take k).map (·.1)).sum
theorem zmc {k:Nat}(h:k<l.length):preS l (k+1)=preS l k+l[k].1:=by
 unfold preS;rw [aK h,map_append,sum_append];simp_all
theorem zs0 {k:Nat}(h:l.length<=k):preS l k=(l.map (·.1)).sum:=by unfold preS;rw [take_of_length_le h]
theorem zvy (l:List (Nat×Exn))(k:Nat):preS l k<=(l.map (·.1)).sum:=by
 unfold preS;conv=>rhs;rw [<-take_append_drop k l]
 grind
theorem Hp {k:Nat}(h:k<l.length)(K:Exn->Option β):idxD Cb (l.map fun p=>Au p.2) (k:Int) K=K l[k].2:=by
 unfold idxD;rw [if_pos (by omega)];simp only [Int.toNat_natCast,getElem?_map,getElem?_eq_getElem h,Option.map_some,Re]
theorem zhx (most:Int)(hm:0<=most)(a:most<=1000000)(n:Nat)(l:List (Nat×Exn))(e:Exn)(f:e.fArgs=l.map (fun p=>Au p.2))(hs:(l.map (·.1)).sum<=4000000)(q:l.length<=4000000)
  (b:∀ p∈l,∃ c:Int,G6 n p.2 most=some c/\1<=c/\c<=p.1/\(c<=most->c=p.1)) :
  ∀ (m k:Nat) (v:Int),k<=l.length->l.length<m+k->1<=v->v<=1+preS l k->(v<=most->v=1+preS l k) ->
   ∃ c:Int,I6 n (G6 n) most e (fun y=>some y) m (v,(k:Int))=some c/\1<=c/\c<=1+(l.map (·.1)).sum/\(c<=most->c=1+(l.map (·.1)).sum)
 |0,k,v,h1,s,_,_,_=>by omega
 |m+1,k,v,h1,s,z,x,r=>by
  unfold I6;simp only [B2,Ak,Kh,f,aA,A3,Ar];have o:=zvy l k;by_cases h:k<l.length
  ·rw [if_pos (by omega)];by_cases d:v<=most
   ·rw [if_pos d,Hp h];obtain ⟨c,u,B,A,t⟩:=b l[k] (aN h);rw [u,A0,Ag k (by omega),Cl _ (by have:=Jc (aN h);omega)];have j:=zmc h;have g:=r d;exact zhx most hm a n l e f hs q b m (k+1) (v+c) (by omega) (by omega) (by omega) (by omega) (fun w=>by have:=t (by omega);omega)
   grind
  ·rw [if_neg (by omega)];have j:=zs0 (l:=l) (k:=k) (by omega);grind
theorem zwh (most:Int)(hm:0<=most)(d:most<=1000000):∀ (s:Nat) (e:Exn),ETr s e->s<=4000000->∀ n,s+1<n->∃ c:Int,G6 n e most=some c/\1<=c/\c<=s/\(c<=most->c=s):=by
 intro s
 induction s using Nat.strongRecOn with
 |ind s IH =>
  intro e f hs n j;cases f with
  |mk l e h g =>
   obtain ⟨a,rfl⟩:∃ a,n=a + 1:=⟨n-1,by omega⟩;have m:=S9 (l:=l) (fun p b=>(h p b).pos);simp only [G6];obtain ⟨c,t,r,q,o⟩:=zhx most hm d a l e g (by omega) (by omega) (fun p b=>by
    have:=Jc b;exact IH p.1 (by omega) p.2 (h p b) (by omega) a (by omega)) a 0 1 (by omega) (by omega) (by omega) (by omega) (fun _=>by simp [preS])
   grind
theorem zmg (n:Nat)(l:List (Nat×Exn))(e:Exn)(f:e.fArgs=l.map (fun p=>Au p.2))(hs:(l.map (·.1)).sum<=4000000)(q:l.length<=4000000)
  (a:∀ p∈l,∃ d:Int,G5 n p.2=some d/\Hn n p.2=some ((p.1:Int),d)/\0<=d/\d<=p.1) :
  ∀ (m k:Nat) (d:Int),k<=l.length->l.length<m+k->0<=d->d<=preS l k ->
   ∃ D:Int,P0 n (G5 n) e (fun y=>some (aJ .i64 (y+1))) m (d,(k:Int))=some (D+1)/\Rp n (Hn n) e (fun j g=>some (j,(aJ .i64 (g+1)))) m (((1+preS l k:Nat):Int),d,(k:Int))=some (((1+(l.map (·.1)).sum:Nat):Int),D+1)/\0<=D/\D<=(l.map (·.1)).sum
 |0,k,d,h1,s,_,_=>by omega
 |m+1,k,d,h1,s,r,w=>by
  unfold P0 Rp;simp only [f,aA,A3];have o:=zvy l k;by_cases h:k<l.length
  ·rw [if_pos (by omega),if_pos (by omega),Hp h,Hp h];obtain ⟨c,v,u,z,x⟩:=a l[k] (aN h);have b:=zmc h;have hm:=Jc (aN h);rw [v,u,A0,A0,Ag k (by omega),Cl _ (by omega)];have t:(((1+preS l k:Nat):Int)+((l[k].1:Nat):Int))=((1+preS l (k+1):Nat):Int):=by omega
   simp only;rw [t];exact zmg n l e f hs q a m (k+1) (max d c) (by omega) (by omega) (by omega) (by omega)
  ·rw [if_neg (by omega),if_neg (by omega)];have b:=zs0 (l:=l) (k:=k) (by omega);refine ⟨d,by rw [Cl _ (by omega)],?_,r,by omega⟩;rw [Cl _ (by omega),b]
theorem y0y:∀ (s:Nat) (e:Exn),ETr s e->s<=4000000->∀ n,s+1<n->∃ d:Int,G5 n e=some d/\Hn n e=some ((s:Int),d)/\0<=d/\d<=s:=by
 intro s
 induction s using Nat.strongRecOn with
 |ind s IH =>
  intro e f hs n o;cases f with
  |mk l e h g =>
   obtain ⟨a,rfl⟩:∃ a,n=a + 1:=⟨n-1,by omega⟩;have q:=S9 (l:=l) (fun p b=>(h p b).pos);simp only [G5,Hn];obtain ⟨D,m,j,t,r⟩:=zmg a l e g (by omega) (by omega) (fun p b=>by
    have:=Jc b;exact IH p.1 (by omega) p.2 (h p b) (by omega) a (by omega)) a 0 0 (by omega) (by omega) (by omega) (by simp)
   exact ⟨D+1,m,j,by omega,by push_cast;omega⟩
theorem zhr (n:Nat)(l:List (Nat×Exn))(e:Exn)(d:e.fArgs=l.map (fun p=>Au p.2))(o:l.length<=4000000)
  (a:∀ p∈l,∃ r:Int,Gz n p.2=some r/\Hk n p.2=some r/\(r=0->ETrO p.1 p.2)) :
  ∀ (m k:Nat),k<=l.length->l.length<m+k->(∀ p∈l.take k,ETrO p.1 p.2) ->
   ∃ r:Int,Oz n (Gz n) e (some 0) m (k:Int)=some r/\Rj n (Hk n) e (some 0) m (k:Int)=some r/\(r=0->∀ p∈l,ETrO p.1 p.2)
 |0,k,h1,q,_=>by omega
 |m+1,k,h1,q,t=>by
  unfold Oz Rj;simp only [d,aA,A3,Aw];by_cases h:k<l.length
  ·rw [if_pos (by omega),if_pos (by omega),Hp h,Hp h];obtain ⟨r,g,f,s⟩:=a l[k] (aN h);rw [g,f,A0,A0,Ag k (by omega)];by_cases b:r=0
   ·rw [if_pos b,if_pos b];refine zhr n l e d o a m (k+1) (by omega) (by omega) (fun p j=>?_);rw [aK h,mem_append,mem_singleton] at j;grind
   simp_all
  ·rw [if_neg (by omega),if_neg (by omega)];grind
theorem y26:∀ (s:Nat) (e:Exn),ETr s e->s<=4000000->∀ n,s+1<n->∃ r:Int,Gz n e=some r/\Hk n e=some r/\(r=0->ETrO s e):=by
 intro s
 induction s using Nat.strongRecOn with
 |ind s IH =>
  intro e o hs n t;cases o with
  |mk l e h f =>
   obtain ⟨b,rfl⟩:∃ b,n=b + 1:=⟨n-1,by omega⟩;have u:=S9 (l:=l) (fun p d=>(h p d).pos);simp only [Gz,Hk,y2c,y4j,A0,Aw,A3];by_cases a:ndP e=0
   ·rw [if_pos a,if_pos a];obtain ⟨r,m,j,g⟩:=zhr b l e f (by omega) (fun p d=>by
     have:=Jc d;exact IH p.1 (by omega) p.2 (h p d) (by omega) b (by omega)) b 0 (by omega) (by omega) (by simp)
    exact ⟨r,m,j,fun q=>.mk l e a (g q) f⟩
   simp_all
theorem zwj (s:Nat)(e:Exn)(a:ETr s e)(hs:s<=4000000)(n:Nat)(b:s+1<n):∃ r:Int,G7 n e=some r/\Hm n e=some r/\(r=0->ETrO s e):=by
 obtain ⟨c,m,v,u,t⟩:=zwh 64 (by omega) (by omega) s e a hs n b;obtain ⟨d,j,h,q,p⟩:=y0y s e a hs n b;obtain ⟨r,g,f,o⟩:=y26 s e a hs n b;unfold G7 Hm;rw [m,j,h,g,f];simp only [A0,A3];grind
def wrP (k:Int)(v:Va):Int:=if vcP v=0 then (if suP k v=true then 0 else 9) else vcP v
theorem zq2 (n:Nat)(k:Int)(e:1<=k/\k<=5)(v:Va):M4 n k v=some (wrP k v):=by
 unfold M4 R5 wrP suP;simp only [p_vc,A0,A3,Aw,B2,Ak,Ha];by_cases h:vcP v=0
 ·rw [if_pos h,if_pos h];by_cases a:v.fKind=0
  ·simp [a,Ax,A0]
  ·by_cases h1:k=1
   ·simp [a,h1,Ax,A0]
   ·by_cases b:k=2
    ·simp [a,h1,b,Ax,A0]
    ·by_cases d:k=3
     ·simp [a,h1,b,d,Ax,A0]
     ·have:k=4\/k=5:=by omega
      rcases this with rfl|rfl<;>simp [a,Ax,A0]
 ·rw [if_neg h,if_neg h]
theorem zs1 (n:Nat)(k:Int)(b:1<=k/\k<=5)(v:Va):Q3 n k v=some (wrP k v):=by
 unfold Q3 wrP;simp only [zz8,zj7,A0,A3,Aw];have a:decide (k=0)=false:=by rw [decide_eq_false];omega
 simp only [a,Bool.false_or];by_cases h:vcP v=0
 ·rw [if_pos h,if_pos h];cases suP k v<;>simp [Ax]
 ·rw [if_neg h,if_neg h]
def comb (k:Int)(a b:Va):Va:=if k=1 then ⟨0,aJ .i64 (a.fNum+b.fNum),be⟩ else if k=2 then ⟨0,min a.fNum b.fNum,be⟩ else if k=3 then ⟨0,max a.fNum b.fNum,be⟩ else if k=4 then a else b
theorem y2f (n:Nat)(k:Int)(d:1<=k/\k<=5)(a b:Va):Tk n k a b=some (comb k a b):=by
 unfold Tk comb;simp only [A3];grind
theorem y52 (n:Nat)(k:Int)(d:1<=k/\k<=5)(a b:Va):V4 n k a b=some (comb k a b):=by
 unfold V4 comb;simp only [N9,Ct,A0,Yl,Yk,Yj,Yi,Yh,Yg];grind
def AInv (k:Int)(i:Nat)(V:Va):Prop:=if i=0 then V=va0 else if k=1 then V.fKind=0/\V.fText=be/\-((i:Int)*1099511627776)<=V.fNum/\V.fNum<=(i:Int)*1099511627776 else vcP V=0/\suP k V=true
variable {k:Int}{i:Nat}{V:Va}
theorem AInv.check (n:Nat)(f:1<=k/\k<=5)(hi:i<=4096)(h:AInv k i V):Q5 n ⟨k,(i:Int),V⟩=some 0/\Vm n ⟨k,(i:Int),V⟩=some 0:=by
 have w1:aJ .i64 ((i:Int)*1099511627776)=(i:Int)*1099511627776:=Cl _ (by omega);have j:aJ .i64 (0-(i:Int)*1099511627776)=-((i:Int)*1099511627776):=by rw [Cl _ (by omega)];omega
 have m:¬k=0:=by omega
 have ka:(0:Int)<=k:=by omega
 have p:¬(i:Int)<0:=by omega
 have o:¬4096<(i:Int):=by omega
 unfold Q5 Vm Qe R6;simp only [A0,A3,Aw,B2,Ak,Ia,Iv,Kk,Kj,Gt,Ki,Lq,ziz,p_vc,zz8,w1,j,ka,f.2,if_true,decide_true,Am,p,o,if_false,decide_false,Ar,m,J9];unfold AInv at h;by_cases a:i=0
 ·rw [if_pos a] at h;subst a;subst h;simp [Ax]
 ·rw [if_neg a] at h;have d:¬(i:Int)=0:=by omega
  simp only [d,if_false,decide_false,Ar];by_cases e:k=1
  ·grind
  ·rw [if_neg e] at h;obtain ⟨h1,g⟩:=h;simp only [e,if_false,h1,zj7,g,A0,if_true,Bool.or_true];refine ⟨by simp [Ax],?_⟩;have:=zq2 n k f V;unfold M4 wrP at this;rw [p_vc,A0] at this;simp only [h1,g,if_true,decide_true,Bool.not_true,Ar] at this;cases hs:R5 n k V with
   |none=>rw [hs] at this;unfold bnd at this;cases this
   |some b =>
    rw [hs,A0] at this;cases b with
    |true=>simp [A0,Ax]
    |false=>simp [Ax] at this
def Fk (k:Int)(i:Nat)(V x:Va):Va:=if i=0 then x else comb k V x
theorem AInv.step (v:1<=k/\k<=5)(hi:i<=4096){x:Va}(h:AInv k i V)(t:wrP k x=0):AInv k (i+1) (Fk k i V x):=by
 have r:vcP x=0/\suP k x=true:=by
  unfold wrP at t;by_cases h1:vcP x=0
  ·simp_all
  ·omega
 have o:x.fKind=0->x.fText=be/\-1099511627776<=x.fNum/\x.fNum<=1099511627776:=fun u=>by
  have:=r.1;unfold vcP at this;grind
 have hs:k=1\/k=2\/k=3->x.fKind=0:=fun h=>by
  have:=r.2;simp only [suP,Bool.or_eq_true,decide_eq_true_eq] at this;omega
 have nv:∀ q:Int,-1099511627776<=q->q<=1099511627776->vcP ⟨0,q,be⟩=0:=fun q h1 p=>by
  unfold vcP;grind
 unfold AInv at h ⊢;rw [if_neg (by omega)];unfold Fk;by_cases g:i=0
 ·simp_all
 ·rw [if_neg g] at h;rw [if_neg g];by_cases f:k=1
  ·rw [if_pos f] at h ⊢;obtain ⟨h1,p,y,w⟩:=h;obtain ⟨a,b,c⟩:=o (hs (aB f));unfold comb;rw [if_pos f];rw [Cl _ (by omega)];grind
  ·rw [if_neg f] at h ⊢;obtain ⟨h1,p⟩:=h;have s:V.fKind=0->-1099511627776<=V.fNum/\V.fNum<=1099511627776:=fun u=>by
    unfold vcP at h1;omega
   have j:k=2\/k=3->V.fKind=0:=fun h=>by
    simp only [suP,Bool.or_eq_true,decide_eq_true_eq] at p;omega
   unfold comb;rw [if_neg f];by_cases m:k=2
   ·rw [if_pos m];obtain ⟨a,b,c⟩:=o (hs (aE (aB m)));obtain ⟨d,e⟩:=s (j (aB m));exact ⟨nv _ (by omega) (by omega),by simp [suP]⟩
   ·rw [if_neg m];by_cases n:k=3
    ·rw [if_pos n];obtain ⟨a,b,c⟩:=o (hs (aE (aE n)));obtain ⟨d,e⟩:=s (j (aE n));exact ⟨nv _ (by omega) (by omega),by simp [suP]⟩
    grind
theorem y4i (n:Nat)(b:1<=k/\k<=5)(hi:i<4096)(h:AInv k i V)(x:Va):Up n ⟨k,(i:Int),V⟩ x=some (if wrP k x=0 then (⟨k,((i+1:Nat):Int),Fk k i V x⟩,0) else (⟨0,0,⟨0,0,be⟩⟩,wrP k x)):=by
 unfold Up;rw [(h.check n b (by omega)).1,A0];simp only [zs1 n k b,A0,A3,Aw,y2f n k b,B2,Ak,Il,if_true];rw [Ag i (by omega)];by_cases a:wrP k x=0
 ·rw [if_pos a,if_pos a,if_neg (by omega),if_neg (by omega)];unfold Fk;by_cases d:i=0;all_goals simp_all
 ·rw [if_neg a,if_neg a]
def bad (k:Int):List Va->Option Int
 |[]=>none
 |x::l=>if wrP k x=0 then bad k l else some (wrP k x)
def fV (k:Int):Nat->Va->List Va->Va |_,V,[]=>V |i,V,x::l=>fV k (i+1) (Fk k i V x) l
theorem zs3 (n:Nat)(a:1<=k/\k<=5)(init:Va)(l:List Va)(f:l.length<=4096)(K:Int->Int->Int->Int->ByteArray->Option (Va×Int)):∀ (m i:Nat) (V:Va),i<=l.length->l.length<m+i->AInv k i V ->
  Q4 n init l K m ((i:Int),k,(i:Int),V.fKind,V.fNum,V.fText)=(match bad k (l.drop i) with|some e=>some (va0,e)|none=>K k (l.length:Int) (fV k i V (l.drop i)).fKind (fV k i V (l.drop i)).fNum (fV k i V (l.drop i)).fText)/\(bad k (l.drop i)=none->AInv k l.length (fV k i V (l.drop i)))
 |0,i,V,h1,o,_=>by omega
 |m+1,i,V,h1,o,b=>by
  unfold Q4;simp only [aA,A3,Aw];by_cases h:i<l.length
  ·rw [if_pos (by omega),Af h];have g:=y4i n a (i:=i) (by omega) b l[i];have j:V=⟨V.fKind,V.fNum,V.fText⟩:=rfl;rw [<-j,g,A0,B1 l i h];simp only [bad,fV];by_cases d:wrP k l[i]=0
   ·simp only [d,if_true];rw [Ag i (by omega)];exact zs3 n a init l f K m (i+1) _ (by omega) (by omega) (b.step a (by omega) d)
   grind
  ·rw [if_neg (by omega),aO (by omega)];have:i=l.length:=by omega
   subst this;exact ⟨rfl,fun _=>b⟩
theorem zwc (n:Nat)(b:1<=k/\k<=5)(init:Va)(l:List Va)(d:l.length<=4096)(K:Option (Va×Int)):∀ (m i:Nat),i<=l.length->l.length<m+i->R7 n init l k K m (i:Int)=(match bad k (l.drop i) with|some e=>some (va0,e)|none=>K)
 |0,i,h1,f=>by omega
 |m+1,i,h1,f=>by
  unfold R7;simp only [aA,A3,Aw];by_cases h:i<l.length
  ·rw [if_pos (by omega),Af h,zq2 n k b,A0,B1 l i h];simp only [bad];by_cases a:wrP k l[i]=0
   ·simp only [a,if_true];rw [Ag i (by omega)];exact zwc n b init l d K m (i+1) (by omega) (by omega)
   ·simp only [a,if_false]
  ·rw [if_neg (by omega),aO (by omega)];rfl
theorem zf0 (n:Nat)(a:1<=k/\k<=5)(l:List Va)(d:l.length<=4096)(K:Int->Int->Int->Int->ByteArray->Option C1):∀ (m i:Nat) (V:Va),i<=l.length->l.length<m+i ->
  Qc n k l K m ((i:Int),k,(i:Int),V.fKind,V.fNum,V.fText)=K k (l.length:Int) (fV k i V (l.drop i)).fKind (fV k i V (l.drop i)).fNum (fV k i V (l.drop i)).fText
 |0,i,V,h1,o=>by omega
 |m+1,i,V,h1,o=>by
  unfold Qc;simp only [aA,A3];by_cases h:i<l.length
  ·rw [if_pos (by omega),Af h,B1 l i h];unfold Z6 Yy Yz;have g:¬k=0:=by omega
   have j:V=⟨V.fKind,V.fNum,V.fText⟩:=rfl;simp only [A3,g,if_false,A0];rw [<-j,y52 n k a];simp only [fV];by_cases f:i=0
   ·have:((i:Nat):Int)=0:=by omega
    rw [if_pos this,A0,Ag i (by omega)];have e:=zf0 n a l d K m (i+1) (Fk k i V l[i]) (by omega) (by omega);have b:Fk k i V l[i]=l[i]:=by unfold Fk;rw [if_pos f]
    rw [b] at e ⊢;have p:((i+1:Nat):Int)=1:=by omega
    rw [p] at e ⊢;rw [A0];exact e
   ·rw [if_neg (by omega),if_neg (by omega),A0,A0,Ag i (by omega)];have e:=zf0 n a l d K m (i+1) (Fk k i V l[i]) (by omega) (by omega);have b:Fk k i V l[i]=comb k V l[i]:=by unfold Fk;rw [if_neg f]
    rw [b] at e ⊢;rw [A0];exact e
  ·rw [if_neg (by omega),aO (by omega)];have:i=l.length:=by omega
   subst this;rfl
theorem zza (n:Nat)(hk:1<=k/\k<=5)(hi:i<=4096)(h:AInv k i V)(init:Va):∃ r,Ps n ⟨k,(i:Int),V⟩ init=some r/\Qu n ⟨k,(i:Int),V⟩ init=some r:=by
 obtain ⟨h1,h2⟩:=h.check n hk hi
 unfold Ps Qu
 rw [h1,h2]
 simp only [A0,zs1 n k hk,zq2 n k hk,A3,Aw,B2,Ak,K5,Lo,if_true,Ax]
 repeat' split
 all_goals exact ⟨_,rfl,rfl⟩
theorem p_of (n:Nat)(x:5000<n)(d:1<=k/\k<=5)(l:List Va)(init:Va):∃ r,Qo n k l init=some r/\Rq n k l init=some r:=by
 unfold Qo Rq Qe R6;have ka:(0:Int)<=k:=by omega
 simp only [A0,A3,Aw,B2,Ak,Ia,Iv,ka,d.2,if_true,aA,decide_true,Am];by_cases h:4096<l.length
 ·rw [if_pos (by omega),if_pos (by omega)];exact ⟨_,rfl,rfl⟩
 ·rw [if_neg (by omega),if_neg (by omega)];have q:=zs3 n d init l (by omega) (fun o m j g f=>bnd (Ps n (⟨o,m,⟨j,g,f⟩⟩:C1) init) fun a=>some (a.1,a.2)) n 0 va0 (by omega) (by omega) (by simp [AInv]);have t:=zwc n d init l (by omega) (bnd (Vd n (⟨k,0,⟨0,0,ByteArray.empty⟩⟩:C1) l k) fun p=>bnd (Qu n p init) fun b=>some (b.1,b.2)) n 0 (by omega) (by omega);simp only [aG,drop_zero] at q t;rw [q.1,t];cases w:bad k l with
  |some e=>exact ⟨_,rfl,rfl⟩
  |none =>
   have hi:=q.2 w;have s:=zf0 n d l (by omega) (fun o m j g f=>some (⟨o,m,⟨j,g,f⟩⟩:C1)) n 0 va0 (by omega) (by omega);simp only [aG,drop_zero] at s;unfold Vd;rw [s];simp only [A0];obtain ⟨r,v,u⟩:=zza n d (i:=l.length) (by omega) hi init;rw [v,u];simp only [A0];exact ⟨_,rfl,rfl⟩
def evs (vs:List (List Ev))(v:Int):List Ev:=if v<0 then [] else if (vs.length:Int)<=v then [] else vs.getD v.toNat []
theorem Jb {α:Type}{l:List α}{i:Int}(d:α)(k:α->Option β)(a:0<=i)(h1:i<(l.length:Int)):idx l i k=k (l.getD i.toNat d):=by
 obtain ⟨m,rfl⟩:∃ m:Nat,i=m:=⟨i.toNat,by omega⟩;have hm:m<l.length:=by omega
 rw [Af hm];simp_all
theorem zes (n:Nat)(vs:List (List Ev))(v:Int):Lb n ⟨vs⟩ v=some (evs vs v):=by
 unfold Lb evs;simp only [B2,Ak,K4,aA,A3,Am];by_cases h:v<0
 ·rw [if_pos h,if_pos h]
 ·rw [if_neg h,if_neg h];by_cases a:(vs.length:Int)<=v
  ·rw [if_pos a,if_pos a]
  ·rw [if_neg a,if_neg a,Jb [] _ (by omega) (by omega)]
theorem zj9 (n:Nat)(vs:List (List Ev))(own:Int)(ev:Ev)(v:Int):P8 n ⟨vs⟩ own ev v=some (evs vs v):=by
 unfold P8 evs;simp only [B2,Ak,Jr,aA,A3,Am];by_cases h:v<0
 ·rw [if_pos h,if_pos h]
 ·rw [if_neg h,if_neg h];by_cases a:(vs.length:Int)<=v
  ·rw [if_pos a,if_pos a]
  ·rw [if_neg a,if_neg a,Jb [] _ (by omega) (by omega)]
theorem zwg (n:Nat)(ev:Ev)(f:Int)(a:0<=f):Mo n ev f=some (if (ev.fValues.length:Int)<=f then (va0,6) else (ev.fValues.getD f.toNat va0,0)):=by
 unfold Mo;simp only [aA,A3];by_cases h:(ev.fValues.length:Int)<=f
 ·rw [if_pos h,if_pos h]
 ·rw [if_neg h,if_neg h,Jb va0 _ a (by omega)]
theorem zhs (n:Nat)(e:Exn)(a:0<=e.fField)(es:List Ev)(f:es.length<=1000000)(K K':List Va->Option (Va×Int))(d:∀ l,∃ r,K l=some r/\K' l=some r):∀ (m i:Nat) (acc:List Va),i<=es.length->es.length<m+i->acc.length=i ->
  ∃ r,Pc n e es K m ((i:Int),acc)=some r/\O8 n e es K' m ((i:Int),acc)=some r
 |0,i,acc,h1,g,_=>by omega
 |m+1,i,acc,h1,g,j=>by
  unfold Pc O8;simp only [aA,A3,Aw];by_cases h:i<es.length
  ·rw [if_pos (by omega),if_pos (by omega)];simp only [Af h];rw [zwg n _ _ a,A0];by_cases b:(es[i].fValues.length:Int)<=e.fField
   ·simp_all
   ·rw [if_neg b,if_neg b,Jb va0 _ a (by omega)];simp only [if_true];rw [Bv (by simp;omega) (by omega),Bv (by simp;omega) (by omega),Ag i (by omega)];exact zhs n e a es f K K' d m (i+1) _ (by omega) (by omega) (by simp;omega)
  ·rw [if_neg (by omega),if_neg (by omega)];exact d acc
theorem zsu {e:Exn}(h:ndP e=0):0<=arP e.fOp/\(e.fArgs.length:Int)=arP e.fOp/\(usF e.fOp=true->0<=e.fField)/\(e.fOp=4->1<=e.fKind/\e.fKind<=5):=by
 unfold ndP at h;grind
inductive Occ (i:Nat):Exn->Prop
 |here (e:Exn) (h:usV e.fOp=true) (hv:e.fVar=(i:Int)):Occ i e
 |sub (e y:Exn) (hy:Au y∈e.fArgs) (h:Occ i y):Occ i e
theorem y54 {e:Exn}(h:ndP e=0)(a:usV e.fOp=true):0<=e.fVar/\e.fVar<16:=by
 unfold ndP at h;grind
theorem y4l (n:Nat)(O:2000000<n)(e:Exn)(t:ndP e=0)(Q:e.fArgs.length=0)(a b:List (List Ev))(F:∀ i:Nat,Occ i e->evs a (i:Int)=evs b (i:Int))(G:∀ v,(evs a v).length<=1000000)(own:Int)(ev:Ev) :
  ∃ r,Qd n e ⟨a⟩ own ev=some r/\Px n ⟨b⟩ own ev e=some r:=by
 obtain ⟨j,h,J,N⟩:=zsu t;by_cases o0:e.fOp=0
 ·unfold Qd Px;simp only [zes,zj9,A0,A3,o0,if_true];exact ⟨_,rfl,rfl⟩
 have I:usV e.fOp=true:=by
  unfold arP at j h;by_cases d:e.fOp<0
  ·rw [if_pos d] at j;omega
  by_cases s:12<e.fOp
  ·rw [if_neg d,if_pos s] at j;omega
  rw [if_neg d,if_neg s] at h;by_cases H:e.fOp<5
  ·unfold usV;grind
  ·rw [if_neg H] at h;split at h<;>omega
 have w:evs a e.fVar=evs b e.fVar:=by
  have E:=y54 t I;have:=F e.fVar.toNat (.here e I (by omega))
  rwa [show ((e.fVar.toNat:Nat):Int)=e.fVar by omega] at this
 unfold Qd Px;simp only [zes,zj9,<-w,A0,A3,Aw,aA];rw [if_neg o0,if_neg o0];by_cases o3:e.fOp=3
 ·simp_all
 rw [if_neg o3,if_neg o3];by_cases g:e.fOp=4
 ·rw [if_pos g,if_pos g];unfold Xx;rw [zj9,<-w,A0];have u:=J (by rw [g];decide);have M:=N g;obtain ⟨r,A,z⟩:=zhs n e u (evs a e.fVar) (G _) (fun y=>bnd (Qo n e.fKind y e.fValue) fun o=>some (o.1,o.2)) (fun y=>bnd (Rq n e.fKind y e.fValue) fun p=>some (p.1,p.2)) (fun l=>by
   obtain ⟨r,A,z⟩:=p_of n (by omega) M l e.fValue;exact ⟨r,by rw [A,A0],by rw [z,A0]⟩) n 0 [] (by omega) (by have:=G e.fVar;omega) rfl
  simp only [aG] at A z;rw [A,z];exact ⟨r,rfl,by rw [A0]⟩
 rw [if_neg g,if_neg g];have L:e.fOp=1\/e.fOp=2:=by
  unfold arP at j h;by_cases d:e.fOp<0
  ·rw [if_pos d] at j;omega
  by_cases s:12<e.fOp
  ·rw [if_neg d,if_pos s] at j;omega
  rw [if_neg d,if_neg s] at h;by_cases H:e.fOp<5
  ·omega
  ·omega
 simp only [B2,Ak,K9,K8];unfold Yo;simp only [zes,A0,A3,Aw,aA];have tail:∀ x:Ev,∃ r,(if e.fOp=2 then some ((⟨0,x.fTime,be⟩:Va),(0:Int)) else if (x.fValues.length:Int)<=e.fField then some (va0,6) else idx x.fValues e.fField fun D=>bnd (H0 n D) fun m=>if m=0 then (idx x.fValues e.fField fun C=>some (C,0)) else some (va0,m))=some r /\
   (if e.fOp=2 then some ((⟨0,x.fTime,be⟩:Va),(0:Int)) else bnd (Mo n (⟨x.fSource,x.fSeq,x.fType,x.fTime,x.fValues⟩:A6) e.fField) fun f=>if f.2=0 then (bnd (Gc n f.1) fun q=>if q=0 then some (f.1,0) else some (va0,q)) else if f.2=0 then some (f.1,0) else some (va0,f.2))=some r:=fun x=>by
  by_cases o2:e.fOp=2
  ·simp_all
  rw [if_neg o2,if_neg o2];have K:e.fOp=1:=by omega
  have u:=J (by rw [K];decide);rw [zwg n _ _ u,A0];by_cases E:(x.fValues.length:Int)<=e.fField
  ·simp only [E,if_true];exact ⟨_,rfl,rfl⟩
  ·simp only [E,if_false];rw [Jb va0 _ u (by omega),Jb va0 _ u (by omega),zz8,p_vc,A0];simp only [if_true,A0];split;all_goals simp_all
 by_cases B:e.fVar=own
 ·rw [if_pos B,if_pos B,A0];simp only [Am];exact tail ev
 ·rw [if_neg B,if_neg B];by_cases P:(evs a e.fVar).length=0
  ·rw [if_pos (by omega),if_pos (by omega),A0];simp only [Ar];exact ⟨_,rfl,rfl⟩
  ·rw [if_neg (by omega),if_neg (by omega),Cl _ (by have:=G e.fVar;omega),Jb ev _ (by omega) (by omega),Jb ev _ (by omega) (by omega),A0];simp only [Am];exact tail _
theorem zu8 (n:Nat)(op:Int)(h:5<=op/\op<=12):Tg n op=some (if op<9 then 0 else if op=9 then -1 else 1):=by
 have:op=5\/op=6\/op=7\/op=8\/op=9\/op=10\/op=11\/op=12:=by omega
 unfold Tg;simp only [B2,Ak,Gl,Hx,A3];grind
theorem zb5 (n:Nat)(op:Int)(h:5<=op/\op<=12)(a:List Int)(p:a.length<=4000000):∀ (m i:Nat),i<=a.length->a.length<m+i->∃ r,F4 n a op (some 0) m (i:Int)=some r/\Ga n a op (some 0) m (i:Int)=some r/\(r=0\/r=9)
 |0,i,h1,s=>by omega
 |m+1,i,h1,s=>by
  unfold F4 Ga;simp only [aA,A3,Aw,zu8 n op h,A0,B2,Ak,Fp,Hf,Iw];by_cases hi:i<a.length
  ·have b:((i:Nat):Int)<((a.length:Nat):Int):=by omega
   simp only [b,if_true];obtain ⟨r,f,e,d⟩:=zb5 n op h a p m (i+1) (by omega) (by omega);rw [Ag i (by omega),f,e];have g:∀ (K:Int->Option Int),idx a 0 K=K (a.headD 0):=fun K=>by
    have:=Af (l:=a) (i:=0) (by omega) K;simp only [aG] at this;rw [this];congr 1;cases a with
    |nil=>simp at hi
    |cons x q=>rfl
   have j:∀ (K:Int->Option Int),idx a (i:Int) K=K a[i]:=fun K=>Af hi K
   simp only [g,j];generalize a[i]=k;generalize a.headD 0=o;have:op=5\/op=6\/op=7\/op=8\/op=9\/op=10\/op=11\/op=12:=by omega
   clear f e g j h;rcases this with rfl|rfl|rfl|rfl|rfl|rfl|rfl|rfl
   all_goals
    simp [Ax];first
    |(by_cases q:k=0<;>simp [q,d])
    |(by_cases q:k=1<;>simp [q,d])
    |(by_cases q:k=o<;>simp [q,d])
  ·have b:¬((i:Nat):Int)<((a.length:Nat):Int):=by omega
   simp only [b,if_false];exact ⟨0,rfl,rfl,aB rfl⟩
theorem zwf (n:Nat)(b:Bool):Dy n b=some (if b=true then ⟨1,1,be⟩ else ⟨1,0,be⟩):=by
 unfold Dy Zj;cases b<;>simp [Ax,A0]
theorem zq4 (n:Nat)(b:Bool):Du n b=some (if b=true then ⟨1,1,be⟩ else ⟨1,0,be⟩):=by
 unfold Du;cases b<;>simp [Ax]
end Go.Proofs.YthbogefcfhmpgaaGreat
