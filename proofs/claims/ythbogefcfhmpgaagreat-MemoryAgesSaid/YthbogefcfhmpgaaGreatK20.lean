/- What some functions compute, over plain values. -/
import Derived.Test.YthbogefcfhmpgaaGreatK19
set_option linter.unusedVariables false
set_option linter.unusedSimpArgs false
set_option maxRecDepth 100000
set_option maxHeartbeats 8000000
namespace Go.Proofs.YthbogefcfhmpgaaGreat
open Go.RowKit List
open SubL renaming refl->aA
open LeX renaming a->aB
open RetX renaming oB->aC
open AW renaming stepU->aD,regO->aE,step->aW,jI->bB
open List renaming pairwise_cons->aF,mem_cons->aG,take_succ_eq_append_getElem->aH,getElem_mem->aJ,length_map->aN
open IdxX renaming A->aK
open MakX renaming o->aL
open Or renaming inr->aM,inl->aX
open EqX renaming A->aO
open Tryz renaming func83->aP
open A3 renaming o->aQ,t->aR,f->aS
open SetX renaming o->aT
noncomputable section
abbrev z3k {n}:=jf (Ix n) (fun b=>⟨[(2,.bool (b))],[]⟩) fun _=>Ix.eq_1 ..
abbrev z3f {n a0 b}:=li (Lo n a0 b) (fun c=>⟨[(0,.sl 11 (a0.map B0)),(3,aI c)],[]⟩) fun _ _=>Lo.eq_2 ..
abbrev z3j {n}:=jf (Iw n) (fun b=>⟨[(2,.bool (b))],[]⟩) fun _=>Iw.eq_1 ..
abbrev z3g {n a0 b d c}:=li (Lp n a0 b d c) (fun e=>⟨[(1,.ptr 1 0),(4,aI b),(5,.ptr 5 0),(6,aI e)],[(1,.box 26 (Ao a0)),(5,.box 149 (Bt d))]⟩) fun _ _=>Lp.eq_2 ..
abbrev z2k {n a0 b c e}:=jf (Ea n a0 b c e) (fun d=>⟨[(1,.ptr 1 0),(4,aI b),(5,.ptr 5 0),(105,.bool (d))],[(1,.box 26 (Ao a0)),(5,.box 149 (Bt e))]⟩) fun _=>Ea.eq_1 ..
abbrev z2l {n a0 b c d}:=jf (Il n a0 b c d) (fun e=>⟨[(1,.ptr 1 0),(4,aI b),(64,.bool (e))],[(1,.box 26 (Ao a0))]⟩) fun _=>Il.eq_1 ..
abbrev z3h {n a0 b}:=li (H3 n a0 b) (fun c=>⟨[(1,.ptr 1 0),(4,aI c)],[(1,.box 26 (Ao a0))]⟩) fun _ _=>H3.eq_2 ..
abbrev z2i {n a0 b c}:=jf (Er n a0 b c) (fun d=>⟨[(1,.ptr 1 0),(3,aI b),(55,.bool (d))],[(1,.box 26 (Ao a0))]⟩) fun _=>Er.eq_1 ..
abbrev z2j {n a0 b c d}:=jf (Ik n a0 b c d) (fun e=>⟨[(1,.ptr 1 0),(3,aI b),(15,.bool (e))],[(1,.box 26 (Ao a0))]⟩) fun _=>Ik.eq_1 ..
abbrev z3i {n a0 b}:=li (H4 n a0 b) (fun c=>⟨[(1,.ptr 1 0),(3,aI c)],[(1,.box 26 (Ao a0))]⟩) fun _ _=>H4.eq_2 ..
attribute [instance]   z3k z3f z3j z3g z2k z2l z3h z2i z2j z3i     
instance zgx {n a0 a1 a2 a3}:CI E0 (Ss n a0 a1 a2 a3) true 35 [.sl 2 (a0.map Ay),B4 a1,aI a2,.agg [aI a3.fVerdict,aI a3.fBound,.sl 5 (a3.fPrefix.map Ar),aI a3.fPeriod]] aI:=by unfold Ss;exact CI.w [6,9] Tryz.func35
instance zc4 {n a0}:CI E0 (Jb n a0) true 81 [Ah a0] (fun r=>.bool (r)):=by unfold Jb;exact CI.w [1] Tryz.func81
instance zc2 {n a0}:CI E0 (P4 n a0) true 80 [.sl 11 (a0.map B0)] (fun r=>.bool (r)):=by unfold P4;exact CI.w [] Tryz.func80
instance zc3 {n a0}:CI E0 (P5 n a0) true 25 [B4 a0] (fun r=>.bool (r)):=⟨fun {r} hF=>by
 unfold P5 at hF
 refine cw Tryz.func25 ?_
 repeat' first
  |refine bB hF (fun v hF=>?_) fun hF=>?_
  |refine aE hF fun hF=>?_
  |refine aD [2,4,7,10,17] ?_;conv=>whnf
  |refine aQ hF (fun hF=>?_) fun hF=>?_
  |refine aR ?_
  |refine aS ?_
  |exact ⟨_,hF,aB []⟩
  |refine aK hF fun x hF=>?_
  |refine IdxX.oD hF De (fun x hF=>?_)
  |refine Ad.I hF fun a hF=>?_
  |refine Ap.I hF (aB []) fun m v hF=>?_
  |exact aC hF⟩
end
noncomputable section
abbrev z2h {n a1 a0 b}:=li (Ij n a1 a0 b) (fun c=>⟨[(1,aI a1),(2,.ptr 2 0),(5,.row 7029),(6,aI c.1)],[(2,.box 26 (Ao a0)),(7029,.row 149 17 (c.2.map A7))]⟩) fun _ _=>Ij.eq_2 ..
attribute [instance]     z2h          
instance zan {n a0 a1}:CI E0 (P0 n a0 a1) false 153 [B4 a0,aI a1] (fun r=>.sl 17 (r.map A7)):=⟨fun {r} hF=>by
 unfold P0 at hF
 refine cw Tryz.func153 ?_
 repeat' first
  |refine aE hF fun hF=>?_
  |refine aD [5] ?_;conv=>whnf
  |refine aQ hF (fun hF=>?_) fun hF=>?_
  |refine aK hF fun x hF=>?_
  |refine AppX.oA hF fun l hF=>?_
  |exact ⟨_,hF,aB [(7029,29)]⟩
  |exact ⟨_,hF,aB []⟩
  |refine Ap.I hF ?_ fun m v hF=>?_
  |exact LeX.trans (LeX.adopt 5 7029 149 17 rfl rfl) (aB [])
  |exact aC hF⟩
end
noncomputable section
end
noncomputable section
end
noncomputable section
abbrev z3m {n a1 a0 b}:=li (Ls n a1 a0 b) (fun c=>⟨[(0,.sl 1 (a0.map aI)),(1,.sl 1 (a1.map aI)),(12,aI (((a0.map aI).length:Int))),(13,aI c)],[]⟩) fun _ _=>Ls.eq_2 ..
abbrev z3l {n a1 a0 b}:=li (Lr n a1 a0 b) (fun c=>⟨[(0,.sl 1 (a0.map AV.bool)),(1,.sl 1 (a1.map AV.bool)),(12,aI (((a0.map AV.bool).length:Int))),(13,aI c)],[]⟩) fun _ _=>Lr.eq_2 ..
abbrev z20 {n}:=jf (Ig n) (fun b=>⟨[(1,.sl 2 [.agg [.str ((ByteArray.mk #[65])),.sl 2 [.agg [.str ((ByteArray.mk #[120])),aI 0]]]]),(9,.ptr 9 0),(129,.bool (b))],[(9,.box 37 [aI 0,aI 0,aI 0,aI 0,.sl 3 [.agg [aI 0,aI 0,.str (ByteArray.empty)]]])]⟩) fun _=>Ig.eq_1 ..
abbrev z21 {n x2 x7}:=jf (Cy n x2 x7) (fun b=>⟨[(1,.sl 2 [.agg [.str ((ByteArray.mk #[65])),.sl 2 [.agg [.str ((ByteArray.mk #[120])),aI 0]]]]),(2,.sl 1 (x2.1.map aI)),(3,.sl 1 (x2.2.1.map AV.bool)),(7,.ptr 7 0),(9,.ptr 9 0),(111,.bool (b))],[(7,.box 39 [aI x7.1.fVerdict,aI x7.1.fBound,.sl 5 (x7.1.fPrefix.map Ar),aI x7.1.fPeriod]),(9,.box 37 [aI 0,aI 0,aI 0,aI 0,.sl 3 [.agg [aI 0,aI 0,.str (ByteArray.empty)]]])]⟩) fun _=>Cy.eq_1 ..
attribute [instance]    z3m z3l z20 z21     
instance za5 {n}:CI E0 (Fq n) false 84 [] Ah:=by unfold Fq;exact CI.w [] Tryz.func84
def z54 (a0:Ak):List (Nat×Ent):=[]
def Ow (r:A8):List (Nat×Ent):=[(261002,.row 140 1 (r.fStates.map Aj)),(261003,.row 149 17 (r.fEdges.map A7)),(2,.box 26 [aI r.fVars,aI r.fScopes,.row 261002,.row 261003])]
def S7 (r:A8):AV:=.agg [aI (r.fVars),aI (r.fScopes),.row 261002,.row 261003]
def z52 (r:A8):AS:=⟨[(2,.ptr 2 0)],Ow r⟩
theorem Z2 {n a0 r}(hF:Vo n a0=some r):ConG E0.P none (CalF E0.P 83 0) [Ah a0] [] (z54 a0) (S7 r) (Ow r):=by
 unfold Vo at hF
 refine ConG.walk (E:=(E0q 1)) (caps:=[]) _ aP rfl rfl rfl rfl rfl ?_
 repeat' first
  |refine aW ?_;conv=>whnf
  |refine aQ hF (fun hF=>?_) fun hF=>?_
  |refine aR ?_
  |refine aS ?_
  |refine aL Aj hF (by first|exact aA _|(repeat' first|exact SubL.nil|refine SubL.cons ?_ ?_|exact Sub.refl _|exact Sub.nil _|refine Sub.agg ?_)) (fun l hF=>?_)
  |refine Ad.I hF fun a hF=>?_
  |refine OpX.bldR A7 hF rfl rfl rfl rfl rfl rfl rfl rfl rfl rfl rfl rfl rfl rfl rfl rfl (by first|exact SubR.refl _|(repeat' first|exact SubR.nil|refine SubR.cons ?_ ?_|exact SubL.nil|refine SubL.cons ?_ ?_|exact Sub.refl _|exact Sub.nil _)) rfl (fun l hF=>?_)
  |refine OpX.bld A7 hF rfl rfl rfl rfl rfl rfl rfl rfl rfl rfl rfl rfl rfl rfl rfl rfl (fun l hF=>?_)
  |exact GX.A (res:=S7) (meF:=Ow) hF z52 (h1:=aB [(261002,3),(261003,8)])
  |refine AndA ?_
  |refine aO ?_
instance z8h {n}:CI E0 (Rg n) false 82 [] B4:=⟨fun {r} hF=>by
 unfold Rg at hF
 refine cw Tryz.func82 ?_
 repeat' first
  |refine aW ?_;conv=>whnf
  |refine aQ hF (fun hF=>?_) fun hF=>?_
  |refine aR ?_
  |refine aS ?_
  |refine Ad.I hF fun a hF=>?_
  |refine B3.oM (Bb 3 hF) [] [(261002,4000000),(261003,4000001),(2,4000002)] _ _ Ow S7 [] (fun a h=>ConG.up (Z2 h)) (B1 aP rfl rfl) rfl rfl rfl trivial (fun a=>⟨rfl,rfl,rfl,rfl,rfl,rfl,rfl,rfl⟩) (fun a hF=>?_)
  |refine Ad.oM (Bb 3 hF) [] [(261002,4000000),(261003,4000001),(2,4000002)] _ _ Ow S7 [] (fun a h=>ConG.up (Z2 h)) (B1 aP rfl rfl) rfl rfl rfl trivial (fun a=>⟨rfl,rfl,rfl,rfl,rfl,rfl,rfl,rfl⟩) (fun a hF=>?_)
  |refine NatX.o hF (fun m hF=>?_)
  |refine LtX.o hF (fun hF=>?_)
  |refine aT A7 hF (fun x=>rfl) (fun x=>(by first|exact aA _|(repeat' first|exact SubL.nil|refine SubL.cons ?_ ?_|exact Sub.refl _|exact Sub.nil _|refine Sub.agg ?_))) (fun l hF=>?_)
  |refine AndA ?_
  |refine aO ?_
  |exact aC hF⟩
instance z7g {n a0}:CI E0 (Kx n a0) false 83 [Ah a0] B4:=⟨fun {r} hF=>by
 unfold Kx at hF
 refine cw aP ?_
 repeat' first
  |refine aW ?_;conv=>whnf
  |refine aQ hF (fun hF=>?_) fun hF=>?_
  |refine aR ?_
  |refine aS ?_
  |refine aL Aj hF (by first|exact aA _|(repeat' first|exact SubL.nil|refine SubL.cons ?_ ?_|exact Sub.refl _|exact Sub.nil _|refine Sub.agg ?_)) (fun l hF=>?_)
  |refine Ad.I hF fun a hF=>?_
  |refine AndA ?_
  |refine aO ?_
  |exact aC hF⟩
instance zc6 {n a0 a1}:CI E0 (M8 n a0 a1) true 28 [.sl 1 (a0.map aI),.sl 1 (a1.map aI)] (fun r=>.bool (r)):=by unfold M8;exact CI.w [] Tryz.func28
instance zc5 {n a0 a1}:CI E0 (M7 n a0 a1) true 29 [.sl 1 (a0.map AV.bool),.sl 1 (a1.map AV.bool)] (fun r=>.bool (r)):=by unfold M7;exact CI.w [] Tryz.func29
instance za6 {n}:CI E0 (J3 n) true 26 [] (fun r=>.bool (r)):=⟨fun {r} hF=>by
 unfold J3 at hF
 refine cw Tryz.func26 ?_
 repeat' first
  |refine bB hF (fun v hF=>?_) fun hF=>?_
  |refine aE hF fun hF=>?_
  |refine AW.frzO hF 53 rfl (fun hF=>?_)
  |refine aD [9,10,12] ?_;conv=>whnf
  |refine aQ hF (fun hF=>?_) fun hF=>?_
  |refine aR ?_
  |refine aS ?_
  |refine Ad.I hF fun a hF=>?_
  |refine Ad.S hF fun a hF=>?_
  |refine aL Aj hF (by first|exact aA _|(repeat' first|exact SubL.nil|refine SubL.cons ?_ ?_|exact Sub.refl _|exact Sub.nil _|refine Sub.agg ?_)) (fun l hF=>?_)
  |exact ⟨_,hF,aB []⟩
  |refine AndA ?_
  |refine aO ?_
  |exact aC hF⟩
end
noncomputable section
abbrev z0g {n a0 b c}:=li (Gp n a0 b c) (fun d=>⟨[(1,.ptr 1 0),(3,.row 10),(4,aI b.1),(5,aI d.1)],[(1,.box 26 (Ao a0)),(10,.row 4 1 (d.2.map AV.bool))]⟩) fun _ _=>Gp.eq_2 ..
abbrev z0h {n a0 b}:=li (I2 n a0 b) (fun c=>⟨[(1,.ptr 1 0),(3,.row 10),(4,aI c.1)],[(1,.box 26 (Ao a0)),(10,.row 4 1 (c.2.map AV.bool))]⟩) fun _ _=>I2.eq_2 ..
abbrev z12 {n a0 b}:=li (I6 n a0 b) (fun c=>⟨[(0,.sl 1 (a0.map AV.bool)),(3,.row 7018),(4,aI c.1)],[(7018,.row 3 1 (c.2.map aI))]⟩) fun _ _=>I6.eq_2 ..
attribute [instance] z0g z0h z12               
instance z8g {n a0}:CI E0 (Od n a0) false 59 [B4 a0] (fun r=>.sl 1 (r.map AV.bool)):=⟨fun {r} hF=>by
 unfold Od at hF
 refine cw Tryz.func59 ?_
 repeat' first
  |refine aE hF fun hF=>?_
  |refine aD [9] ?_;conv=>whnf
  |refine aQ hF (fun hF=>?_) fun hF=>?_
  |refine aR ?_
  |refine aS ?_
  |refine aL AV.bool hF (by first|exact aA _|(repeat' first|exact SubL.nil|refine SubL.cons ?_ ?_|exact Sub.refl _|exact Sub.nil _|refine Sub.agg ?_)) (fun l hF=>?_)
  |exact ⟨_,hF,aB []⟩
  |refine aK hF fun x hF=>?_
  |refine NatX.o hF (fun m hF=>?_)
  |refine aT AV.bool hF (fun x=>rfl) (fun x=>(by first|exact aA _|(repeat' first|exact SubL.nil|refine SubL.cons ?_ ?_|exact Sub.refl _|exact Sub.nil _|refine Sub.agg ?_))) (fun l hF=>?_)
  |refine EltX.o AV.bool hF (fun x hF=>?_)
  |refine Ap.I hF (aB []) fun m v hF=>?_
  |refine AndA ?_
  |refine aO ?_
  |exact aC hF⟩
instance z9f {n a0}:CI E0 (Oj n a0) false 58 [.sl 1 (a0.map AV.bool)] (fun r=>.sl 1 (r.map aI)):=⟨fun {r} hF=>by
 unfold Oj at hF
 refine cw Tryz.func58 ?_
 repeat' first
  |refine aE hF fun hF=>?_
  |refine aD [5] ?_;conv=>whnf
  |refine aQ hF (fun hF=>?_) fun hF=>?_
  |refine aR ?_
  |refine aS ?_
  |refine aK hF fun x hF=>?_
  |refine AppX.oA hF fun l hF=>?_
  |exact ⟨_,hF,aB [(7018,18)]⟩
  |exact ⟨_,hF,aB []⟩
  |refine Ap.I hF ?_ fun m v hF=>?_
  |exact LeX.trans (LeX.adopt 3 7018 3 1 rfl rfl) (aB [])
  |refine AndA ?_
  |refine aO ?_
  |exact aC hF⟩
instance z9h {n a0}:CI E0 (Rn n a0) false 16 [B4 a0] (fun r=>.tup [.sl 1 (r.1.map aI),aI r.2]):=by unfold Rn;exact CI.w [] Tryz.func16
end
noncomputable section
end
noncomputable section
end
noncomputable section
abbrev z0e {n a0 b c}:=li (Gn n a0 b c) (fun d=>⟨[(1,.ptr 1 0),(3,.row 10),(4,aI b.1),(5,aI d.1)],[(1,.box 26 (Ao a0)),(10,.row 4 1 (d.2.map AV.bool))]⟩) fun _ _=>Gn.eq_2 ..
abbrev z0f {n a0 b}:=li (I1 n a0 b) (fun c=>⟨[(1,.ptr 1 0),(3,.row 10),(4,aI c.1)],[(1,.box 26 (Ao a0)),(10,.row 4 1 (c.2.map AV.bool))]⟩) fun _ _=>I1.eq_2 ..
abbrev z0z {n a0 b}:=li (Ku n a0 b) (fun c=>⟨[(0,.sl 1 (a0.map aI)),(5,.row 8),(6,aI c.1)],[(8,.row 4 1 (c.2.map AV.bool))]⟩) fun _ _=>Ku.eq_2 ..
abbrev z2d {n a0 x3 x4 b}:=li (Ep n a0 x3 x4 b) (fun c=>⟨[(1,.ptr 1 0),(9,.sl 1 (x3.map AV.bool)),(10,.sl 1 (x4.map AV.bool)),(11,.row 34),(12,aI c.1)],[(1,.box 26 (Ao a0)),(34,.row 4 1 (c.2.map AV.bool))]⟩) fun _ _=>Ep.eq_2 ..
abbrev z3a {n a1 a0 b}:=li (Lm n a1 a0 b) (fun c=>⟨[(0,.sl 1 (a0.map aI)),(1,aI a1),(5,aI c)],[]⟩) fun _ _=>Lm.eq_2 ..
abbrev z2b {n}:=jf (Gu n) (fun b=>⟨[(8,.bool (b))],[]⟩) fun _=>Gu.eq_1 ..
abbrev z2c {n a3 a2 a1 a0}:=jf (Gv n a3 a2 a1 a0) (fun b=>⟨[(1,aI a1),(2,.sl 1 (a2.map AV.bool)),(3,.sl 1 (List.map (fun q=>AV.sl 1 (List.map AV.bool q)) (a3))),(4,.ptr 4 0),(22,.bool (b))],[(4,.box 149 (Bt a0))]⟩) fun _=>Gv.eq_1 ..
abbrev z09 {n a2 a1 a0 b d e f}:=li (Fg n a2 a1 a0 b d e f) (fun c=>⟨[(1,.sl 1 (a1.map AV.bool)),(2,.sl 1 (a2.map AV.bool)),(3,.ptr 3 0),(7,.cont (b) 17),(10,.bool (c.1)),(11,aI d.2.1),(12,.ptr 12 0),(13,aI c.2.1)],[(3,.box 26 (Ao a0)),(17,.are 44 (c.2.2).1 (List.map (enQ AV.bool 4) (c.2.2).2)),(12,.box 149 (Bt e))]⟩) fun _ _=>Fg.eq_2 ..
abbrev z0d {n a2 a1 a0 b c e d}:=jf (Ek n a2 a1 a0 b c e d) (fun f=>⟨[(1,.sl 1 (a1.map AV.bool)),(2,.sl 1 (a2.map AV.bool)),(3,.ptr 3 0),(7,.cont (b) 17),(10,.bool (c.1)),(11,aI c.2.1),(12,.ptr 12 0),(77,.bool (f))],[(3,.box 26 (Ao a0)),(17,.are 44 (c.2.2).1 (List.map (enQ AV.bool 4) (c.2.2).2)),(12,.box 149 (Bt d))]⟩) fun _=>Ek.eq_1 ..
abbrev z0a {n a2 a1 a0 b d}:=li (Dm n a2 a1 a0 b d) (fun c=>⟨[(1,.sl 1 (a1.map AV.bool)),(2,.sl 1 (a2.map AV.bool)),(3,.ptr 3 0),(7,.cont (b) 17),(10,.bool (c.1)),(11,aI c.2.1)],[(3,.box 26 (Ao a0)),(17,.are 44 (c.2.2).1 (List.map (enQ AV.bool 4) (c.2.2).2))]⟩) fun _ _=>Dm.eq_2 ..
abbrev z0b {n a2 a1 a0 b d}:=li (Gm n a2 a1 a0 b d) (fun c=>⟨[(1,.sl 1 (a1.map AV.bool)),(2,.sl 1 (a2.map AV.bool)),(3,.ptr 3 0),(7,.cont (b) 17),(10,.bool (c.1))],[(3,.box 26 (Ao a0)),(17,.are 44 (c.2).1 (List.map (enQ AV.bool 4) (c.2).2))]⟩) fun _ _=>Gm.eq_2 ..
abbrev z08 {n a2 a1 a0 b d}:=li (Ko n a2 a1 a0 b d) (fun c=>⟨[(1,.sl 1 (a1.map AV.bool)),(2,.sl 1 (a2.map AV.bool)),(3,.ptr 3 0),(7,.cont (b.1) 17),(8,aI b.2.1),(9,aI c.1)],[(3,.box 26 (Ao a0)),(17,.are 44 (c.2).1 (List.map (enQ AV.bool 4) (c.2).2))]⟩) fun _ _=>Ko.eq_2 ..
abbrev z0c {n a2 a1 a0 c}:=li (I0 n a2 a1 a0 c) (fun b=>⟨[(1,.sl 1 (a1.map AV.bool)),(2,.sl 1 (a2.map AV.bool)),(3,.ptr 3 0),(7,.cont (b.1) 17),(8,aI b.2.1)],[(3,.box 26 (Ao a0)),(17,.are 44 (b.2.2).1 (List.map (enQ AV.bool 4) (b.2.2).2))]⟩) fun _ _=>I0.eq_2 ..
abbrev z2a {n a1 a0 b}:=li (Lf n a1 a0 b) (fun c=>⟨[(1,aI a1),(2,.ptr 2 0),(5,aI c)],[(2,.box 149 (Bt a0))]⟩) fun _ _=>Lf.eq_2 ..
abbrev z3d {n a2 a0 b c d e}:=jf (Iu n a2 a0 b c d e) (fun f=>⟨[(2,.sl 1 (a2.map AV.bool)),(3,.ptr 3 0),(7,.sl 17 (b.1.map A7)),(8,aI b.2.1),(9,aI b.2.2),(10,aI c.1),(11,aI c.2),(34,.bool (f))],[(3,.box 26 (Ao a0))]⟩) fun _=>Iu.eq_1 ..
attribute [instance] z0e z0f z0z z2d z3a z2b z2c z09 z0d z0a z0b z08 z0c z2a z3d
instance z8f {n a0}:CI E0 (Oc n a0) false 216 [B4 a0] (fun r=>.sl 1 (r.map AV.bool)):=⟨fun {r} hF=>by
 unfold Oc at hF
 refine cw Tryz.func216 ?_
 repeat' first
  |refine aE hF fun hF=>?_
  |refine aD [10] ?_;conv=>whnf
  |refine aQ hF (fun hF=>?_) fun hF=>?_
  |refine aR ?_
  |refine aS ?_
  |refine aL AV.bool hF (by first|exact aA _|(repeat' first|exact SubL.nil|refine SubL.cons ?_ ?_|exact Sub.refl _|exact Sub.nil _|refine Sub.agg ?_)) (fun l hF=>?_)
  |refine NatX.o hF (fun m hF=>?_)
  |refine aT AV.bool hF (fun x=>rfl) (fun x=>(by first|exact aA _|(repeat' first|exact SubL.nil|refine SubL.cons ?_ ?_|exact Sub.refl _|exact Sub.nil _|refine Sub.agg ?_))) (fun l hF=>?_)
  |exact ⟨_,hF,aB []⟩
  |refine aK hF fun x hF=>?_
  |refine EltX.o AV.bool hF (fun x hF=>?_)
  |refine Ap.I hF (aB []) fun m v hF=>?_
  |refine AndA ?_
  |refine aO ?_
  |exact aC hF⟩
instance z7f {n a0}:CI E0 (R4 n a0) false 150 [B4 a0] (fun r=>.tup [.sl 1 (r.1.map aI),aI r.2]):=by unfold R4;exact CI.w [] Tryz.func150
instance z9d {n a0 a1}:CI E0 (Ll n a0 a1) false 151 [.sl 1 (a0.map aI),aI a1] (fun r=>.sl 1 (r.map AV.bool)):=⟨fun {r} hF=>by
 unfold Ll at hF
 refine cw Tryz.func151 ?_
 repeat' first
  |refine aW ?_;conv=>whnf
  |refine aQ hF (fun hF=>?_) fun hF=>?_
  |refine aR ?_
  |refine aS ?_
  |refine aL AV.bool hF (by first|exact aA _|(repeat' first|exact SubL.nil|refine SubL.cons ?_ ?_|exact Sub.refl _|exact Sub.nil _|refine Sub.agg ?_)) (fun l hF=>?_)
  |refine aK hF fun x hF=>?_
  |refine NatX.o hF (fun m hF=>?_)
  |refine aT AV.bool hF (fun x=>rfl) (fun x=>(by first|exact aA _|(repeat' first|exact SubL.nil|refine SubL.cons ?_ ?_|exact Sub.refl _|exact Sub.nil _|refine Sub.agg ?_))) (fun l hF=>?_)
  |exact ⟨_,hF,aB []⟩
  |refine Ap.I hF (aB []) fun m v hF=>?_
  |refine AndA ?_
  |refine aO ?_
  |exact aC hF⟩
instance zak {n a0}:CI E0 (M1 n a0) false 85 [B4 a0] (fun r=>.tup [.sl 1 (r.1.map AV.bool),.sl 1 (r.2.map AV.bool)]):=⟨fun {r} hF=>by
 unfold M1 at hF
 refine cw Tryz.func85 ?_
 repeat' first
  |refine aE hF fun hF=>?_
  |refine aD [10] ?_;conv=>whnf
  |refine aQ hF (fun hF=>?_) fun hF=>?_
  |refine aR ?_
  |refine aS ?_
  |refine Ad.I hF fun a hF=>?_
  |refine aL AV.bool hF (by first|exact aA _|(repeat' first|exact SubL.nil|refine SubL.cons ?_ ?_|exact Sub.refl _|exact Sub.nil _|refine Sub.agg ?_)) (fun l hF=>?_)
  |refine aK hF fun x hF=>?_
  |refine NatX.o hF (fun m hF=>?_)
  |refine aT AV.bool hF (fun x=>rfl) (fun x=>(by first|exact aA _|(repeat' first|exact SubL.nil|refine SubL.cons ?_ ?_|exact Sub.refl _|exact Sub.nil _|refine Sub.agg ?_))) (fun l hF=>?_)
  |exact ⟨_,hF,aB []⟩
  |refine Ap.I hF (aB []) fun m v hF=>?_
  |refine AndA ?_
  |refine aO ?_
  |exact aC hF⟩
instance zbz {n a0 a1}:CI E0 (Hd n a0 a1) true 217 [.sl 1 (a0.map aI),aI a1] (fun r=>.bool (r)):=by unfold Hd;exact CI.w [] Tryz.func217
def z53 (r:Bool):AV:=.bool (r)
instance z3p {n a0 a1 a2 a3}:CI E0 (Oy n a0 a1 a2 a3) true 152 [A7 a0,aI a1,.sl 1 (a2.map AV.bool),.sl 1 (List.map (fun q=>AV.sl 1 (List.map AV.bool q)) (a3))] (fun r=>.bool (r)):=⟨fun {r} hF=>by
 unfold Oy at hF
 refine cw Tryz.func152 ?_
 repeat' first
  |refine bB hF (fun v hF=>?_) fun hF=>?_
  |refine aE hF fun hF=>?_
  |refine aD [3,5] ?_;conv=>whnf
  |refine aQ hF (fun hF=>?_) fun hF=>?_
  |refine aR ?_
  |refine aS ?_
  |refine Ad.I hF fun a hF=>?_
  |refine aK hF fun x hF=>?_
  |exact ⟨_,hF,aB []⟩
  |refine IdxX.o (fun q=>AV.sl 1 (List.map AV.bool q)) hF fun x hF=>?_
  |refine AndA ?_
  |refine aO ?_
  |exact aC hF⟩
instance z8e {n a0 a1 a2}:CI E0 (Ob n a0 a1 a2) false 86 [B4 a0,.sl 1 (a1.map AV.bool),.sl 1 (a2.map AV.bool)] (fun r=>.sl 1 (List.map (fun q=>AV.sl 1 (List.map AV.bool q)) (r))):=⟨fun {r} hF=>by
 unfold Ob at hF
 refine cw Tryz.func86 ?_
 repeat' first
  |refine AW.arqO AV.bool 4 hF 17 rfl (fun hF=>?_)
  |refine AW.frqO AV.bool hF 17 rfl (fun hF=>?_)
  |refine bB hF (fun v hF=>?_) fun hF=>?_
  |refine aE hF fun hF=>?_
  |refine AW.frzO hF 17 rfl (fun hF=>?_)
  |refine aD [24,17,21,2] ?_;conv=>whnf
  |refine aQ hF (fun hF=>?_) fun hF=>?_
  |refine aR ?_
  |refine aS ?_
  |refine MakX.on hF (fun m hF=>?_)
  |exact ⟨_,hF,aB []⟩
  |refine aK hF fun x hF=>?_
  |refine OpX.ixc hF rfl rfl rfl rfl rfl rfl rfl rfl (fun hF=>?_)
  |refine OpX.aob hF rfl rfl rfl rfl rfl rfl rfl (fun j hF=>?_)
  |refine OpX.aix AV.bool hF rfl rfl rfl rfl rfl rfl rfl rfl rfl (fun k hF=>?_)
  |refine OpX.ald AV.bool hF rfl rfl rfl rfl rfl rfl rfl (fun _=>rfl) (fun v hF=>?_)
  |refine B3.oQ hF z53 (fun a h=>z3p.h h) (fun q=>congrArg (fun z=>[_,_,_,z]) (congrArg (AV.sl 1) (znl AV.bool 4 q).symm)) (fun _=>aM rfl) (fun a hF=>?_)
  |refine OpX.asr AV.bool hF rfl rfl rfl rfl rfl rfl rfl rfl rfl rfl rfl rfl rfl (fun m hF=>?_)
  |refine Ap.I hF (aB []) fun m v hF=>?_
  |refine OpX.lnc rfl rfl rfl rfl rfl rfl ?_
  |refine aL AV.bool hF (by first|exact aA _|(repeat' first|exact SubL.nil|refine SubL.cons ?_ ?_|exact Sub.refl _|exact Sub.nil _|refine Sub.agg ?_)) (fun l hF=>?_)
  |refine OpX.asq AV.bool hF rfl rfl rfl rfl rfl rfl rfl rfl rfl rfl rfl (fun m hF=>?_)
  |refine AndA ?_
  |refine aO ?_
  |exact aC hF⟩
instance zaj {n a0 a1}:CI E0 (Ox n a0 a1) true 154 [A7 a0,aI a1] aI:=by unfold Ox;exact CI.w [] Tryz.func154
end
noncomputable section
abbrev z3b {n a2 a0 b c}:=li (H0 n a2 a0 b c) (fun d=>⟨[(2,.sl 1 (a2.map AV.bool)),(3,.ptr 3 0),(7,.sl 17 (b.1.map A7)),(8,aI b.2.1),(9,aI b.2.2),(10,aI d.1),(11,aI d.2)],[(3,.box 26 (Ao a0))]⟩) fun _ _=>H0.eq_2 ..
abbrev z3c {n a2 a0 c}:=li (D3 n a2 a0 c) (fun b=>⟨[(2,.sl 1 (a2.map AV.bool)),(3,.ptr 3 0),(7,.sl 17 (b.1.map A7)),(8,aI b.2.1),(9,aI b.2.2)],[(3,.box 26 (Ao a0))]⟩) fun _ _=>D3.eq_2 ..
abbrev z2e {n a0 x2 x3 c}:=li (Ii n a0 x2 x3 c) (fun b=>⟨[(1,.ptr 1 0),(7,.sl 1 (x2.2.map AV.bool)),(8,.sl 1 (List.map (fun q=>AV.sl 1 (List.map AV.bool q)) (x3))),(9,.row 30),(10,.row 34),(11,aI b.1)],[(1,.box 26 (Ao a0)),(30,.row 3 1 (b.2.1.map aI)),(34,.row 4 1 (b.2.2.map AV.bool))]⟩) fun _ _=>Ii.eq_2 ..
abbrev z00 {n}:=jf (Fe n) (fun b=>⟨[(2,.bool (b))],[]⟩) fun _=>Fe.eq_1 ..
attribute [instance] z3b z3c z2e z00
instance zc0 {n a0 a1 a2}:CI E0 (P3 n a0 a1 a2) true 87 [B4 a0,aI a1,.sl 1 (a2.map AV.bool)] aI:=by unfold P3;exact CI.w [9,12,15] Tryz.func87
instance zal {n a0}:CI E0 (H9 n a0) false 27 [B4 a0] (fun r=>.tup [.sl 1 (r.1.map aI),.sl 1 (r.2.1.map AV.bool),aI r.2.2]):=⟨fun {r} hF=>by
 unfold H9 at hF
 refine cw Tryz.func27 ?_
 repeat' first
  |refine aE hF fun hF=>?_
  |refine aD [11] ?_;conv=>whnf
  |refine aQ hF (fun hF=>?_) fun hF=>?_
  |refine aR ?_
  |refine aS ?_
  |refine Ad.I hF fun a hF=>?_
  |refine aL aI hF (by first|exact aA _|(repeat' first|exact SubL.nil|refine SubL.cons ?_ ?_|exact Sub.refl _|exact Sub.nil _|refine Sub.agg ?_)) (fun l hF=>?_)
  |refine aL AV.bool hF (by first|exact aA _|(repeat' first|exact SubL.nil|refine SubL.cons ?_ ?_|exact Sub.refl _|exact Sub.nil _|refine Sub.agg ?_)) (fun l hF=>?_)
  |refine NatX.o hF (fun m hF=>?_)
  |refine aT AV.bool hF (fun x=>rfl) (fun x=>(by first|exact aA _|(repeat' first|exact SubL.nil|refine SubL.cons ?_ ?_|exact Sub.refl _|exact Sub.nil _|refine Sub.agg ?_))) (fun l hF=>?_)
  |refine aK hF fun x hF=>?_
  |refine IdxX.o (fun q=>AV.sl 1 (List.map AV.bool q)) hF fun x hF=>?_
  |refine aT aI hF (fun x=>rfl) (fun x=>(by first|exact aA _|(repeat' first|exact SubL.nil|refine SubL.cons ?_ ?_|exact Sub.refl _|exact Sub.nil _|refine Sub.agg ?_))) (fun l hF=>?_)
  |exact ⟨_,hF,aB []⟩
  |refine Ap.I hF (aB []) fun m v hF=>?_
  |refine AndA ?_
  |refine aO ?_
  |exact aC hF⟩
theorem z03 {n a0 r}(hF:R0 n a0=some r):Con E0 true 5 [B4 a0] (.bool (r)):=by
 unfold R0 at hF
 refine cw Tryz.func5 ?_
 repeat' first
  |refine bB hF (fun v hF=>?_) fun hF=>?_
  |refine aE hF fun hF=>?_
  |refine aD [5] ?_;conv=>whnf
  |refine aQ hF (fun hF=>?_) fun hF=>?_
  |refine aR ?_
  |refine aS ?_
  |refine Ad.I hF fun a hF=>?_
  |exact ⟨_,hF,aB []⟩
  |refine AndA ?_
  |refine aO ?_
  |exact aC hF
end
section
variable {α:Type} {c:α->α->Int}
theorem TO.asym (h:TO c){a b:α}(k:c a b<0):¬c b a<0:=by have:=h.neg a b;omega
theorem TO.lt_ne (h:TO c){a b:α}(k:c a b<0):a≠b:=fun e=>by subst e;exact h.irr _ k
def Str (c:α->α->Int)(l:List α):Prop:=l.Pairwise (fun x y=>c x y<0)
theorem Str.uniq (h:TO c):∀ {l m:List α},Str c l->Str c m->(∀ x,x∈l ↔ x∈m)->l=m
 |[],[],_,_,_=>rfl
 |[],y::m,_,_,hm=>by have:=(hm y).2 (by simp);simp at this
 |x::l,[],_,_,hm=>by have:=(hm x).1 (by simp);simp at this
 |x::l,y::m,h1,h2,hm=>by
  obtain ⟨a1,a2⟩:=aF.1 h1
  obtain ⟨b1,b2⟩:=aF.1 h2
  have hxy:x=y:=by
   rcases aG.1 ((hm x).1 (by simp)) with e|e
   ·exact e
   ·rcases aG.1 ((hm y).2 (by simp)) with e'|e'
    ·exact e'.symm
    ·exact absurd (a1 y e') (h.asym (b1 x e))
  subst hxy
  congr 1
  refine Str.uniq h a2 b2 (fun z=>⟨fun hz=>?_,fun hz=>?_⟩)
  ·rcases aG.1 ((hm z).1 (mem_cons_of_mem _ hz)) with e|e
   ·exact absurd e.symm (h.lt_ne (a1 z hz))
   ·exact e
  ·rcases aG.1 ((hm z).2 (mem_cons_of_mem _ hz)) with e|e
   ·exact absurd e.symm (h.lt_ne (b1 z hz))
   ·exact e
def insU (c:α->α->Int)(x:α):List α->List α
 |[]=>[x]
 |y::l=>if c y x<0 then y::insU c x l else if c y x=0 then y::l else x::y::l
theorem Xf (h:TO c)(x z:α):∀ l:List α,z∈insU c x l ↔ z=x\/z∈l
 |[]=>by simp [insU]
 |y::l=>by
  unfold insU
  split
  ·simp only [aG,Xf h x z l]
   constructor
   ·rintro (h|h|h)<;>simp [h]
   ·rintro (h|h|h)<;>simp [h]
  ·split
   ·rename_i e
    have:=(h.zero _ _).1 e
    subst this
    simp only [aG]
    constructor
    ·intro k;exact aM k
    ·rintro (k|k)
     ·exact aX k
     ·exact k
   ·simp only [aG]
theorem zfq (h:TO c)(x:α):∀ l:List α,Str c l->Str c (insU c x l)
 |[],_=>by simp [insU,Str]
 |y::l,hl=>by
  obtain ⟨h1,h2⟩:=aF.1 hl
  unfold insU
  split
  ·rename_i k
   refine aF.2 ⟨fun z hz=>?_,zfq h x l h2⟩
   rcases (Xf h x z l).1 hz with e|e
   ·rw [e];exact k
   ·exact h1 z e
  ·split
   ·exact hl
   ·rename_i k1 k2
    have k3:c x y<0:=by have:=h.neg y x;have:=h.one y x;omega
    refine aF.2 ⟨fun z hz=>?_,hl⟩
    rcases aG.1 hz with e|e
    ·rw [e];exact k3
    ·exact h.trans _ _ _ k3 (h1 z e)
def puts (c:α->α->Int)(s:List α)(l:List α):List α:=l.foldl (fun s x=>insU c x s) s
def setL (c:α->α->Int)(l:List α):List α:=puts c [] l
theorem zb3 (s:List α)(x:α)(l:List α):puts c s (x::l)=puts c (insU c x s) l:=rfl
theorem zf0 (h:TO c)(z:α):∀ (l s:List α),z∈puts c s l ↔ z∈s\/z∈l
 |[],s=>by simp [puts]
 |x::l,s=>by
  rw [zb3,zf0 h z l,Xf h]
  simp only [aG]
  constructor
  ·rintro ((k|k)|k)<;>simp [k]
  ·rintro (k|k|k)<;>simp [k]
theorem zez (h:TO c):∀ (l s:List α),Str c s->Str c (puts c s l)
 |[],_,hs=>hs
 |x::l,s,hs=>by rw [zb3];exact zez h l _ (zfq h x s hs)
theorem zet (h:TO c)(z:α)(l:List α):z∈setL c l ↔ z∈l:=by unfold setL;rw [zf0 h];simp
theorem zjz (h:TO c)(l:List α):Str c (setL c l):=zez h l [] (by simp [Str])
variable [DecidableEq α]
def ddA (p:α):List α->List α
 |[]=>[]
 |y::l=>if y=p then ddA p l else y::ddA y l
def dd:List α->List α
 |[]=>[]
 |x::l=>x::ddA x l
end
abbrev Va:=A5
abbrev Ev:=Aw
abbrev Exn:=Ak
abbrev be:ByteArray:=ByteArray.empty
abbrev va0:Va:=⟨0,0,ByteArray.empty⟩
def vcP (v:Va):Int :=
 if v.fKind<0 then 1 else if 2<v.fKind then 1 else if v.fKind=2 then (if v.fNum=0 then (if 64<v.fText.size then 13 else 0) else 3) else
 if v.fText=be then (if v.fKind=1 then (if v.fNum<0 then 2 else if 1<v.fNum then 2 else 0) else if v.fNum < -1099511627776 then 2 else if 1099511627776<v.fNum then 2 else 0) else 3
theorem Up (n:Nat)(v:Va):Fp n v=some (vcP v):=by
 unfold Fp vcP
 simp only [A6,Az,Jy]
 grind
theorem Xy {α β:Type}(p:Prop)[Decidable p](x y:Option α)(k:α->Option β):bnd (if p then x else y) k=if p then bnd x k else bnd y k:=by split<;>rfl
theorem p_vc (n:Nat)(v:Va):F5 n v=some (vcP v):=by
 obtain ⟨k,x,t⟩:=v
 unfold F5 Jt vcP
 simp only [A6,Az,Jy]
 by_cases k0:k=0
 ·subst k0
  by_cases ht:t=be
  ·subst ht
   have hs:be.size=0:=rfl
   simp [hs,A4,Xy]
   grind
  ·simp [ht]
 ·by_cases k1:k=1
  ·subst k1
   by_cases ht:t=be
   ·subst ht
    have hs:be.size=0:=rfl
    simp [hs,A4,Xy]
    grind
   ·simp [ht]
  ·by_cases k2:k=2
   ·subst k2
    simp [A4,Xy]
    grind
   grind
theorem znt (x y:Va):(decide (x.fKind=y.fKind) && (decide (x.fNum=y.fNum) && ((x.fText.toList == y.fText.toList) && true)))=decide (x=y):=by
 cases x;cases y
 simp [Jy]
theorem U6 (x:Va):(decide (x.fKind=0) && (decide (x.fNum=0) && ((x.fText.toList == ByteArray.empty.toList) && true)))=decide (x=va0):=znt x va0
def arP (op:Int):Int:=if op<0 then -1 else if 12<op then -1 else if op<5 then 0 else if op=12 then 1 else 2
theorem zkc (n:Nat)(op:Int):Ot n op=some (arP op):=by
 unfold Ot arP
 simp only [Ax,Ae,En,Dq,A6,Am,decide_eq_true_eq]
 by_cases h1:op<0
 ·simp [h1,show op≠0 by omega,show op≠1 by omega,show op≠2 by omega,show op≠3 by omega,show op≠4 by omega,show op≠5 by omega,show op≠6 by omega,show op≠7 by omega,show op≠8 by omega,show op≠9 by omega,show op≠10 by omega,show op≠11 by omega,show op≠12 by omega]
 ·by_cases h2:12<op
  ·simp [h1,h2,show op≠0 by omega,show op≠1 by omega,show op≠2 by omega,show op≠3 by omega,show op≠4 by omega,show op≠5 by omega,show op≠6 by omega,show op≠7 by omega,show op≠8 by omega,show op≠9 by omega,show op≠10 by omega,show op≠11 by omega,show op≠12 by omega]
  ·have:op=0\/op=1\/op=2\/op=3\/op=4\/op=5\/op=6\/op=7\/op=8\/op=9\/op=10\/op=11\/op=12:=by omega
   rcases this with rfl|rfl|rfl|rfl|rfl|rfl|rfl|rfl|rfl|rfl|rfl|rfl|rfl<;>rfl
theorem zmp (n:Nat)(op:Int):Q2 n op=some (if op<0 then (0,false) else if 12<op then (0,false) else (arP op,true)):=by
 unfold Q2 arP
 simp only [Ax,Ae,Jn,A6,Am,decide_eq_true_eq,if_true]
 grind
def usV (op:Int):Bool:=decide (op=1) || decide (op=2) || decide (op=3) || decide (op=4)
def usF (op:Int):Bool:=decide (op=1) || decide (op=4)
theorem zmg (n:Nat)(op:Int):P1 n op=some (usV op,usF op):=by
 unfold P1
 simp only [Ax,Ae,Im,Gw,A6,Am,decide_eq_true_eq,if_true]
 by_cases h1:op=1
 ·subst h1;rfl
 ·by_cases h2:op=2
  ·subst h2;rfl
  ·by_cases h3:op=3
   ·subst h3;rfl
   ·by_cases h4:op=4
    ·subst h4;rfl
    ·simp [usV,usF,h1,h2,h3,h4]
theorem zlj (n:Nat)(op:Int):N5 n op=some (usV op,usF op):=by
 unfold N5
 simp only [Ax,Ae,Jq,Jp,A6,Am,decide_eq_true_eq,if_true]
 by_cases h1:op=1
 ·subst h1;rfl
 ·by_cases h2:op=2
  ·subst h2;rfl
  ·by_cases h3:op=3
   ·subst h3;rfl
   ·by_cases h4:op=4
    ·subst h4;rfl
    ·simp [usV,usF,h1,h2,h3,h4]
def suP (k:Int)(v:Va):Bool:=decide (v.fKind=0) || decide (k=4) || decide (k=5)
theorem zme (n:Nat)(k:Int)(v:Va):Q1 n k v=some (suP k v):=by
 unfold Q1
 simp only [Ax,Ae,Hk,A6]
 by_cases h1:v.fKind=0
 ·simp [suP,h1]
 ·by_cases h2:k=4
  ·simp [suP,h1,h2]
  ·simp [suP,h1,h2]
theorem X9 (n:Nat)(k:Int)(v:Va):J2 n k v=some (decide (k=0) || suP k v):=by
 unfold J2
 simp only [Ax,Ae,Fj,A6]
 by_cases h1:v.fKind=0
 ·simp [suP,h1]
 ·by_cases h2:k=4
  ·by_cases h3:k=0
   ·simp [suP,h1,h2,h3]
   ·simp [suP,h1,h2]
  ·by_cases h3:k=0
   ·simp [suP,h1,h2,h3]
   ·simp [suP,h1,h2,h3]
def ndP (e:Exn):Int :=
 if arP e.fOp<0 then 1 else if (e.fArgs.length:Int)≠arP e.fOp then 15 else
 if (usV e.fOp && (decide (e.fVar<0) || decide (16<=e.fVar))) || (usF e.fOp && (decide (e.fField<0) || decide (8<=e.fField))) then 2 else
 if decide (e.fOp=4) && (decide (e.fKind<1) || decide (5<e.fKind)) then 1 else
 if (decide (e.fOp=4) || decide (e.fOp=0)) && !decide (vcP e.fValue=0) then vcP e.fValue else
 if decide (e.fOp=4) && (!(suP e.fKind e.fValue) || (decide (e.fKind=1) && !decide (e.fValue=va0))) then 9 else
 if (!(usV e.fOp) && !decide (e.fVar=0)) || (!(usF e.fOp) && !decide (e.fField=0)) || (!decide (e.fOp=4) && !decide (e.fKind=0)) || (!(decide (e.fOp=4) || decide (e.fOp=0)) && !decide (e.fValue=va0)) then 3 else 0
theorem zg5 (op:Int)(h:¬arP op<0):op=0\/op=1\/op=2\/op=3\/op=4\/(usV op=false/\usF op=false/\op≠0/\op≠4):=by
 unfold arP at h
 by_cases h0:op=0
 ·exact aX h0
 by_cases h1:op=1
 ·exact aM (aX h1)
 by_cases h2:op=2
 ·exact aM (aM (aX h2))
 by_cases h3:op=3
 ·omega
 by_cases h4:op=4
 ·omega
 exact aM (aM (aM (aM (aM ⟨by simp [usV,h1,h2,h3,h4],by simp [usF,h1,h4],h0,h4⟩))))
theorem us0:usV 0=false/\usF 0=false:=by decide
theorem us1:usV 1=true/\usF 1=true:=by decide
theorem us2:usV 2=true/\usF 2=false:=by decide
theorem us3:usV 3=true/\usF 3=false:=by decide
theorem us4:usV 4=true/\usF 4=true:=by decide
theorem zmh (n:Nat)(e:Exn):P2 n e=some (ndP e):=by
 unfold P2
 rw [zkc,A4,zmg]
 simp only [A4,aN,A6,Az,Up,X9,Ax,Ae,Dd,Gx,Ip,Io,Fk,Bp,U6]
 unfold ndP
 by_cases ha:arP e.fOp<0
 ·rw [if_pos ha,if_pos ha]
 rw [if_neg ha,if_neg ha]
 by_cases hl:(e.fArgs.length:Int)=arP e.fOp
 rotate_left
 ·rw [if_neg hl,if_pos hl]
 rw [if_pos hl,if_neg (show ¬((e.fArgs.length:Int)≠arP e.fOp) from fun h=>h hl)]
 have hc:=zg5 e.fOp ha
 obtain ⟨op,args,var,field,kind,val⟩:=e
 simp only at *
 clear hl ha
 rcases hc with rfl|rfl|rfl|rfl|rfl|⟨h1,h2,h3,h4⟩
 ·simp [us0,Am]
  grind
 ·simp [us1,Am]
  grind
 ·simp [us2,Am]
  grind
 ·simp [us3,Am]
  grind
 ·simp [us4,Am]
  grind
 ·simp [h1,h2,h3,h4,Am]
  grind
theorem zdz (n:Nat)(e:Exn):Ps n e=some (if vcP e.fValue=0 then (if decide (e.fOp=4) && (!(suP e.fKind e.fValue) || (decide (e.fKind=1) && !decide (e.fValue=va0))) then 9 else 0) else vcP e.fValue):=by
 unfold Ps
 rw [p_vc,A4]
 simp only [A6,Az,zme,A4,Ax,Ae,Fz,U6]
 obtain ⟨op,args,var,field,kind,val⟩:=e
 simp only
 by_cases h:op=4
 ·subst h
  simp [Am]
  grind
 ·simp [h,Am]
  split<;>rfl
theorem zob (n:Nat)(e:Exn):Q9 n e=some (ndP e):=by
 unfold Q9
 rw [zmp,A4,zlj]
 simp only [A4,aN,A6,Az,zdz,Ax,Ae,Df,Hm,Js,Jr,Bq,U6]
 unfold ndP
 by_cases ha:arP e.fOp<0
 ·rw [if_pos ha]
  have:e.fOp<0\/12<e.fOp:=by
   unfold arP at ha
   by_cases h1:e.fOp<0
   ·exact aX h1
   ·omega
  rcases this with h|h
  ·rw [if_pos h,Ag]
  ·by_cases h':e.fOp<0
   ·rw [if_pos h',Ag]
   ·rw [if_neg h',if_pos h,Ag]
 have hb:¬e.fOp<0/\¬12<e.fOp:=by
  unfold arP at ha
  refine ⟨fun h=>ha (by rw [if_pos h];decide),fun h=>ha ?_⟩
  by_cases h1:e.fOp<0
  ·rw [if_pos h1];decide
  ·rw [if_neg h1,if_pos h];decide
 rw [if_neg hb.1,if_neg hb.2,if_neg ha,Af]
 by_cases hl:(e.fArgs.length:Int)=arP e.fOp
 rotate_left
 ·rw [if_neg hl,if_pos hl]
 rw [if_pos hl,if_neg (show ¬((e.fArgs.length:Int)≠arP e.fOp) from fun h=>h hl)]
 have hc:=zg5 e.fOp ha
 obtain ⟨op,args,var,field,kind,val⟩:=e
 simp only at *
 clear hl ha hb
 rcases hc with rfl|rfl|rfl|rfl|rfl|⟨h1,h2,h3,h4⟩
 ·simp [us0,Am]
  grind
 ·simp [us1,Am]
  grind
 ·simp [us2,Am]
  grind
 ·simp [us3,Am]
  grind
 ·simp [us4,Am]
  grind
 ·simp [h1,h2,h3,h4,Am]
  grind
inductive ETr:Nat->Exn->Prop
 |mk (l:List (Nat×Exn)) (e:Exn) (h:∀ p∈l,ETr p.1 p.2) (ha:e.fArgs=l.map (fun p=>Ah p.2)):ETr (1+(l.map (·.1)).sum) e
inductive ETrO:Nat->Exn->Prop
 |mk (l:List (Nat×Exn)) (e:Exn) (hn:ndP e=0) (h:∀ p∈l,ETrO p.1 p.2) (ha:e.fArgs=l.map (fun p=>Ah p.2)):ETrO (1+(l.map (·.1)).sum) e
theorem ETr.pos {s:Nat}{e:Exn}(h:ETr s e):1<=s:=by cases h;omega
variable {l:List (Nat×Exn)}
theorem Ho {p:Nat×Exn}(h:p∈l):p.1<=(l.map (·.1)).sum:=by
 induction l with
 |nil=>cases h
 |cons x l ih =>
  grind
theorem Nc (h:∀ p∈l,1<=p.1):l.length<=(l.map (·.1)).sum:=by
 induction l with
 |nil=>simp
 |cons x l ih =>
  grind
def preS (l:List (Nat×Exn))(k:Nat):Nat:=((l.take k).map (·.1)).sum
theorem zb5 {k:Nat}(h:k<l.length):preS l (k+1)=preS l k+l[k].1:=by
 unfold preS
 rw [aH h,map_append,sum_append]
 simp_all
theorem zf1 {k:Nat}(h:l.length<=k):preS l k=(l.map (·.1)).sum:=by unfold preS;rw [take_of_length_le h]
theorem zi5 (l:List (Nat×Exn))(k:Nat):preS l k<=(l.map (·.1)).sum:=by
 unfold preS
 conv=>rhs;rw [<-take_append_drop k l]
 grind
theorem Ge {β:Type}{k:Nat}(h:k<l.length)(K:Exn->Option β):idxD Bs (l.map fun p=>Ah p.2) (k:Int) K=K l[k].2:=by
 unfold idxD
 rw [if_pos (by omega)]
 simp only [Int.toNat_natCast,getElem?_map,getElem?_eq_getElem h,Option.map_some,Pw]
theorem z91 (most:Int)(hm:0<=most)(hm2:most<=1000000)(n:Nat)(l:List (Nat×Exn))(e:Exn)(ha:e.fArgs=l.map (fun p=>Ah p.2))(hs:(l.map (·.1)).sum<=4000000)(hl:l.length<=4000000)
  (ih:∀ p∈l,∃ c:Int,Eu n p.2 most=some c/\1<=c/\c<=p.1/\(c<=most->c=p.1)) :
  ∀ (m k:Nat) (v:Int),k<=l.length->l.length<m+k->1<=v->v<=1+preS l k->(v<=most->v=1+preS l k) ->
   ∃ c:Int,Gt n (Eu n) most e (fun y=>some y) m (v,(k:Int))=some c/\1<=c/\c<=1+(l.map (·.1)).sum/\(c<=most->c=1+(l.map (·.1)).sum)
 |0,k,v,h1,h2,_,_,_=>by omega
 |m+1,k,v,h1,h2,h3,h4,h5=>by
  unfold Gt
  simp only [Ax,Ae,Ic,ha,aN,A6,Ag]
  have hle:=zi5 l k
  by_cases h:k<l.length
  ·rw [if_pos (by omega)]
   by_cases hv:v<=most
   ·rw [if_pos hv,Ge h]
    obtain ⟨c,c1,c2,c3,c4⟩:=ih l[k] (aJ h)
    rw [c1,A4,Ai k (by omega),D8 _ (by have:=Ho (aJ h);omega)]
    have hp:=zb5 h
    have hv5:=h5 hv
    exact z91 most hm hm2 n l e ha hs hl ih m (k+1) (v+c) (by omega) (by omega) (by omega) (by omega) (fun hq=>by have:=c4 (by omega);omega)
   grind
  ·rw [if_neg (by omega)]
   have hp:=zf1 (l:=l) (k:=k) (by omega)
   grind
theorem zic (most:Int)(hm:0<=most)(hm2:most<=1000000):∀ (s:Nat) (e:Exn),ETr s e->s<=4000000->∀ n,s+1<n->∃ c:Int,Eu n e most=some c/\1<=c/\c<=s/\(c<=most->c=s):=by
 intro s
 induction s using Nat.strongRecOn with
 |ind s IH =>
  intro e ht hs n hn
  cases ht with
  |mk l e h ha =>
   obtain ⟨n',rfl⟩:∃ n',n=n' + 1:=⟨n-1,by omega⟩
   have hl:=Nc (l:=l) (fun p hp=>(h p hp).pos)
   simp only [Eu]
   obtain ⟨c,c1,c2,c3,c4⟩:=z91 most hm hm2 n' l e ha (by omega) (by omega) (fun p hp=>by
    have:=Ho hp
    exact IH p.1 (by omega) p.2 (h p hp) (by omega) n' (by omega)) n' 0 1 (by omega) (by omega) (by omega) (by omega) (fun _=>by simp [preS])
   grind
theorem zb9 (n:Nat)(l:List (Nat×Exn))(e:Exn)(ha:e.fArgs=l.map (fun p=>Ah p.2))(hs:(l.map (·.1)).sum<=4000000)(hl:l.length<=4000000)
  (ih:∀ p∈l,∃ d:Int,Et n p.2=some d/\Ga n p.2=some ((p.1:Int),d)/\0<=d/\d<=p.1) :
  ∀ (m k:Nat) (d:Int),k<=l.length->l.length<m+k->0<=d->d<=preS l k ->
   ∃ D:Int,L9 n (Et n) e (fun y=>some (IntKind.wrap .i64 (y+1))) m (d,(k:Int))=some (D+1)/\N2 n (Ga n) e (fun y0 y1=>some (y0,(IntKind.wrap .i64 (y1+1)))) m (((1+preS l k:Nat):Int),d,(k:Int))=some (((1+(l.map (·.1)).sum:Nat):Int),D+1)/\0<=D/\D<=(l.map (·.1)).sum
 |0,k,d,h1,h2,_,_=>by omega
 |m+1,k,d,h1,h2,h3,h4=>by
  unfold L9 N2
  simp only [ha,aN,A6]
  have hle:=zi5 l k
  by_cases h:k<l.length
  ·rw [if_pos (by omega),if_pos (by omega),Ge h,Ge h]
   obtain ⟨c,c1,c2,c3,c4⟩:=ih l[k] (aJ h)
   have hp:=zb5 h
   have hm:=Ho (aJ h)
   rw [c1,c2,A4,A4,Ai k (by omega),D8 _ (by omega)]
   have e1:(((1+preS l k:Nat):Int)+((l[k].1:Nat):Int))=((1+preS l (k+1):Nat):Int):=by omega
   simp only
   rw [e1]
   exact zb9 n l e ha hs hl ih m (k+1) (max d c) (by omega) (by omega) (by omega) (by omega)
  ·rw [if_neg (by omega),if_neg (by omega)]
   have hp:=zf1 (l:=l) (k:=k) (by omega)
   refine ⟨d,by rw [D8 _ (by omega)],?_,h3,by omega⟩
   rw [D8 _ (by omega),hp]
theorem zlk:∀ (s:Nat) (e:Exn),ETr s e->s<=4000000->∀ n,s+1<n->∃ d:Int,Et n e=some d/\Ga n e=some ((s:Int),d)/\0<=d/\d<=s:=by
 intro s
 induction s using Nat.strongRecOn with
 |ind s IH =>
  intro e ht hs n hn
  cases ht with
  |mk l e h ha =>
   obtain ⟨n',rfl⟩:∃ n',n=n' + 1:=⟨n-1,by omega⟩
   have hl:=Nc (l:=l) (fun p hp=>(h p hp).pos)
   simp only [Et,Ga]
   obtain ⟨D,d1,d2,d3,d4⟩:=zb9 n' l e ha (by omega) (by omega) (fun p hp=>by
    have:=Ho hp
    exact IH p.1 (by omega) p.2 (h p hp) (by omega) n' (by omega)) n' 0 0 (by omega) (by omega) (by omega) (by simp)
   exact ⟨D+1,d1,d2,by omega,by push_cast;omega⟩
theorem z8x (n:Nat)(l:List (Nat×Exn))(e:Exn)(ha:e.fArgs=l.map (fun p=>Ah p.2))(hl:l.length<=4000000)
  (ih:∀ p∈l,∃ r:Int,Fo n p.2=some r/\G7 n p.2=some r/\(r=0->ETrO p.1 p.2)) :
  ∀ (m k:Nat),k<=l.length->l.length<m+k->(∀ p∈l.take k,ETrO p.1 p.2) ->
   ∃ r:Int,L8 n (Fo n) e (some 0) m (k:Int)=some r/\Mz n (G7 n) e (some 0) m (k:Int)=some r/\(r=0->∀ p∈l,ETrO p.1 p.2)
 |0,k,h1,h2,_=>by omega
 |m+1,k,h1,h2,h3=>by
  unfold L8 Mz
  simp only [ha,aN,A6,Az]
  by_cases h:k<l.length
  ·rw [if_pos (by omega),if_pos (by omega),Ge h,Ge h]
   obtain ⟨r,r1,r2,r3⟩:=ih l[k] (aJ h)
   rw [r1,r2,A4,A4,Ai k (by omega)]
   by_cases hr:r=0
   ·rw [if_pos hr,if_pos hr]
    refine z8x n l e ha hl ih m (k+1) (by omega) (by omega) (fun p hp=>?_)
    rw [aH h,mem_append,mem_singleton] at hp
    grind
   simp_all
  ·rw [if_neg (by omega),if_neg (by omega)]
   grind
theorem zmc:∀ (s:Nat) (e:Exn),ETr s e->s<=4000000->∀ n,s+1<n->∃ r:Int,Fo n e=some r/\G7 n e=some r/\(r=0->ETrO s e):=by
 intro s
 induction s using Nat.strongRecOn with
 |ind s IH =>
  intro e ht hs n hn
  cases ht with
  |mk l e h ha =>
   obtain ⟨n',rfl⟩:∃ n',n=n' + 1:=⟨n-1,by omega⟩
   have hl:=Nc (l:=l) (fun p hp=>(h p hp).pos)
   simp only [Fo,G7,zmh,zob,A4,Az,A6]
   by_cases hn0:ndP e=0
   ·rw [if_pos hn0,if_pos hn0]
    obtain ⟨r,r1,r2,r3⟩:=z8x n' l e ha (by omega) (fun p hp=>by
     have:=Ho hp
     exact IH p.1 (by omega) p.2 (h p hp) (by omega) n' (by omega)) n' 0 (by omega) (by omega) (by simp)
    exact ⟨r,r1,r2,fun hr=>.mk l e hn0 (r3 hr) ha⟩
   simp_all
theorem zie (s:Nat)(e:Exn)(ht:ETr s e)(hs:s<=4000000)(n:Nat)(hn:s+1<n):∃ r:Int,Ew n e=some r/\G8 n e=some r/\(r=0->ETrO s e):=by
 obtain ⟨c,c1,c2,c3,c4⟩:=zic 64 (by omega) (by omega) s e ht hs n hn
 obtain ⟨d,d1,d2,d3,d4⟩:=zlk s e ht hs n hn
 obtain ⟨r,r1,r2,r3⟩:=zmc s e ht hs n hn
 unfold Ew G8
 rw [c1,d1,d2,r1,r2]
 simp only [A4,A6]
 grind
end Go.Proofs.YthbogefcfhmpgaaGreat
