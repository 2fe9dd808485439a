/- What some functions compute, over plain values. -/
import Derived.Test.YthbogefcfhmpgaaGreatK16
set_option linter.unusedVariables false
set_option linter.unusedSimpArgs false
set_option maxRecDepth 100000
set_option maxHeartbeats 8000000
namespace Go.Proofs.YthbogefcfhmpgaaGreat
open Go.RowKit List
open LeX renaming a->aA,trans->aC,adopt->aJ,itc->cD
open RetX renaming oB->aB
open AW renaming stepU->aD,regO->aE,step->aM,frzO->bB,pckO->bZ,jI->cL
open EqX renaming A->aF
open ConG renaming up->aG,walk->aZ
open Tryz renaming func284->aH,func237->aX,func109->aY,func105->bC,func187->bJ,func188->bK,func189->bL,func263->bM,func107->bN,prog->bP,ntmps188->bT,ntmps189->bU,func239->bX,func116->bY,func313->cE,func235->cF,func175->cG
open IdxX renaming A->aK,oD->bR
open A2 renaming o->aL,t->aN,f->aO
open AppX renaming oA->aP
open SubL renaming refl->aQ
open Av renaming I->aR
open Bool renaming not_false->aS,not_true->aV
open CI renaming w->aT
open Nat renaming le_of_ble_eq_true->aU,le_refl->bE
open Ad renaming I->aW,oM->bG
open Or renaming inr->bA,inl->bD
open B9 renaming oM->bF
open OpX renaming lkv->bI,rng->cA,nxt->cB,ent->cC,nlq->cH
open List renaming map_cons->bO,map_nil->bS
noncomputable section
abbrev z2q {n b a2bc0 x6 c}:=li (Lg n b a2bc0 x6 c) (fun d=>⟨[(1,.ptr 100000 0),(3,.ptr 100001 0),(16,.sl 1 (x6.map aI)),(17,aI (((x6.map aI).length:Int))),(18,aI d.1)],[(100000,.box 44 [.row 200000]),(100001,.box 332 [.fn 284 [.ptr 100000 0,.ref [.fn 240 [.ref (B1 a2bc0)]],.ptr 100001 0]]),(200000,.row 4 1 (d.2.map AV.bool))]⟩) fun _ _=>Lg.eq_2 ..
abbrev z3p {n b a1 c}:=li (Lr n b a1 c) (fun d=>⟨[(7,.ptr 7 0),(8,.ptr 8 0),(16,.sl 1 (a1.map aI)),(17,aI (((a1.map aI).length:Int))),(18,aI d.1)],[(7,.box 44 [.row 7014]),(8,.box 332 [.fn 284 [.ptr 7 0,.ref [.fn 240 [.ref (B1 b)]],.ptr 8 0]]),(7014,.row 4 1 (d.2.map AV.bool))]⟩) fun _ _=>Lr.eq_2 ..
abbrev z2n {n a0 b}:=li (Ik n a0 b) (fun c=>⟨[(3,.row 7017),(6,.sl 1 (a0.map AV.bool)),(7,aI (((a0.map AV.bool).length:Int))),(8,aI c.1)],[(7017,.row 3 1 (c.2.map aI))]⟩) fun _ _=>Ik.eq_2 ..
abbrev z21 {n a1 a0 b}:=li (Ic n a1 a0 b) (fun c=>⟨[(0,aI a0),(4,.row 7022),(8,.sl 17 (a1.fEdges.map A5)),(9,aI (((a1.fEdges.map A5).length:Int))),(10,aI c.1)],[(7022,.row 3 1 (c.2.map aI))]⟩) fun _ _=>Ic.eq_2 ..
abbrev z0c {n b a2bc0 x6 c}:=li (Ke n b a2bc0 x6 c) (fun d=>⟨[(1,.ptr 100000 0),(3,.ptr 100001 0),(16,.sl 1 (x6.map aI)),(17,aI (((x6.map aI).length:Int))),(18,aI d.1)],[(100000,.box 44 [.row 200000]),(100001,.box 332 [.fn 284 [.ptr 100000 0,.ref [.fn 241 [.ref (B1 a2bc0)]],.ptr 100001 0]]),(200000,.row 4 1 (d.2.map AV.bool))]⟩) fun _ _=>Ke.eq_2 ..
abbrev z18 {n b a1 c}:=li (Kv n b a1 c) (fun d=>⟨[(7,.ptr 7 0),(8,.ptr 8 0),(16,.sl 1 (a1.map aI)),(17,aI (((a1.map aI).length:Int))),(18,aI d.1)],[(7,.box 44 [.row 7014]),(8,.box 332 [.fn 284 [.ptr 7 0,.ref [.fn 241 [.ref (B1 b)]],.ptr 8 0]]),(7014,.row 4 1 (d.2.map AV.bool))]⟩) fun _ _=>Kv.eq_2 ..
abbrev z2z {n a0 b}:=li (Ir n a0 b) (fun c=>⟨[(1,.ptr 1 0),(3,.row 7020),(7,.sl 17 (a0.fEdges.map A5)),(8,aI (((a0.fEdges.map A5).length:Int))),(9,aI c.1)],[(1,.box 26 (B1 a0)),(7020,.row 3 1 (c.2.map aI))]⟩) fun _ _=>Ir.eq_2 ..
abbrev z69 {n a0 b}:=li (M9 n a0 b) (fun c=>⟨[(3,.row 6),(7,.sl 1 (a0.map aI)),(8,aI (((a0.map aI).length:Int))),(9,aI c.1)],[(6,.mp (List.map (encM aI AV.bool) (c.2)))]⟩) fun _ _=>M9.eq_2 ..
abbrev z4t {n a0 x3 x4 b}:=li (Fq n a0 x3 x4 b) (fun c=>⟨[(2,.ptr 2 0),(7,.ptr 7 0),(8,.mapv (List.map (encM aI AV.bool) (x4))),(28,.sl 17 (a0.fEdges.map A5)),(29,aI (((a0.fEdges.map A5).length:Int))),(30,aI c.1)],[(2,.box 119 [.mapv [],.mapv []]),(7,.box 119 [.mapv (List.map (encM aI AV.bool) (x3)),.row 23]),(23,.mp (List.map (encM aI AV.bool) (c.2)))]⟩) fun _ _=>Fq.eq_2 ..
attribute [instance] z2q z3p z2n z21 z0c z18 z2z z69 z4t
instance z6t {n a0 a1}:CI E0 (Nz n a0 a1) false 240 [aI a0,.ref (B1 a1)] (fun r=>.sl 1 (r.map aI)):=⟨fun {r} hF=>by
 unfold Nz at hF
 refine cw Tryz.func240 ?_
 repeat' first
  |refine aE hF fun hF=>?_
  |refine aD [6] ?_;conv=>whnf
  |refine aL hF (fun hF=>?_) fun hF=>?_
  |refine aN ?_
  |refine aO ?_
  |refine aW hF fun a hF=>?_
  |refine aK hF fun x hF=>?_
  |refine aP hF fun l hF=>?_
  |exact ⟨_,hF,aA [(7027,27)]⟩
  |exact ⟨_,hF,aA []⟩
  |refine aR hF ?_ fun m v hF=>?_
  |exact aC (aJ 4 7027 3 1 rfl rfl) (aA [])
  |refine AndA ?_
  |refine aF ?_
  |exact aB hF⟩
def z48 (a0:Int)(a2bc0:A8)(m0:(List Bool)):List (Nat×Ent):=[(100000,.box 44 [.row 200000]),(200000,.row 4 1 (m0.map AV.bool)),(100001,.box 332 [.fn 284 [.ptr 100000 0,.ref [.fn 240 [.ref (B1 a2bc0)]],.ptr 100001 0]])]
def Ix (a2bc0:A8)(r:(List Bool)):List (Nat×Ent):=[(100000,.box 44 [.row 250000]),(250000,.row 4 1 (r.map AV.bool)),(100001,.box 332 [.fn 284 [.ptr 100000 0,.ref [.fn 240 [.ref (B1 a2bc0)]],.ptr 100001 0]])]
def Lt (r:(List Bool)):AV:=.tup []
def z47 (a2bc0:A8)(r:(List Bool)):AS:=⟨[(1,.ptr 100000 0),(3,.ptr 100001 0)],Ix a2bc0 r⟩
theorem Xo {n a0 a2bc0 m0 r}(hF:J0 n a0 a2bc0 m0=some r):ConG E0.P none (CalF E0.P 284 0) [aI a0,.ptr 100000 0,.ref [.fn 240 [.ref (B1 a2bc0)]],.ptr 100001 0] [] (z48 a0 a2bc0 m0) (Lt r) (Ix a2bc0 r):=by
 induction n generalizing a0 a2bc0 m0 r
 case zero=>cases hF
 case succ n ih =>
 unfold J0 at hF
 refine aZ (E:=(E0p 4)) (caps:=[]) _ aH rfl rfl rfl rfl rfl ?_
 repeat' first
  |refine aM ?_;conv=>whnf
  |refine aL hF (fun hF=>?_) fun hF=>?_
  |refine aN ?_
  |refine aO ?_
  |refine NatX.o hF (fun m hF=>?_)
  |refine EltX.o AV.bool hF (fun x hF=>?_)
  |refine GX.o (res:=Lt) (meF:=(Ix a2bc0)) hF ?_;exact GX.mk (z47 a2bc0 _) (aA [(250000,200000)]) rfl _ rfl (by repeat' first|exact Sub.nil _|exact Sub.refl _|refine Sub.agg ?_|refine Sub.tup ?_|refine Sub.fn ?_|exact SubL.nil|refine SubL.cons ?_ ?_|refine Sub.sl _ ?_|exact SubE.nil|refine SubE.cons ?_ ?_) [] trivial rfl
  |refine SetX.o AV.bool hF (fun x=>rfl) (fun x=>(by first|exact aQ _|(repeat' first|exact SubL.nil|refine SubL.cons ?_ ?_|exact Sub.refl _|exact Sub.nil _|refine Sub.agg ?_))) (fun l hF=>?_)
  |refine aW hF fun a hF=>?_
  |refine aK hF fun x hF=>?_
  |refine bF (Bb 24 hF) [(100000,100000),(100001,100001),(200000,200000)] [(100000,100000),(250000,25000001),(100001,100001)] _ _ (Ix a2bc0) Lt [200000] (fun a h=>aG (ih h)) (Ay aH rfl rfl) rfl rfl rfl ⟨⟨rfl,rfl⟩,⟨⟨rfl,rfl⟩,⟨⟨rfl,rfl⟩,trivial⟩⟩⟩ (fun a=>⟨rfl,rfl,rfl,rfl,rfl,rfl,rfl,rfl⟩) (fun a hF=>?_)
  |refine bG (Bb 24 hF) [(100000,100000),(100001,100001),(200000,200000)] [(100000,100000),(250000,25000001),(100001,100001)] _ _ (Ix a2bc0) Lt [200000] (fun a h=>aG (ih h)) (Ay aH rfl rfl) rfl rfl rfl ⟨⟨rfl,rfl⟩,⟨⟨rfl,rfl⟩,⟨⟨rfl,rfl⟩,trivial⟩⟩⟩ (fun a=>⟨rfl,rfl,rfl,rfl,rfl,rfl,rfl,rfl⟩) (fun a hF=>?_)
  |exact ⟨_,hF,aA [(200000,25000001)]⟩
  |refine aR hF (aA []) fun m v hF=>?_
  |refine AndA ?_
  |refine aF ?_
instance zb0 {n a0 a1 b}:CI E0 (P3 n a0 a1 b) false 239 [Br a0,.sl 1 (a1.map aI),.fn 240 [.ref (B1 b)]] (fun r=>.sl 1 (r.map AV.bool)):=⟨fun {r} hF=>by
 unfold P3 at hF
 refine cw bX ?_
 repeat' first
  |refine aE hF fun hF=>?_
  |refine bB hF 5 rfl (fun hF=>?_)
  |refine aD [7] ?_;conv=>whnf
  |refine aL hF (fun hF=>?_) fun hF=>?_
  |refine aN ?_
  |refine aO ?_
  |refine MakX.o AV.bool hF (by first|exact aQ _|(repeat' first|exact SubL.nil|refine SubL.cons ?_ ?_|exact Sub.refl _|exact Sub.nil _|refine Sub.agg ?_)) (fun l hF=>?_)
  |refine aK hF fun x hF=>?_
  |refine bF (Bb 24 hF) [(100000,7),(100001,8),(200000,7014)] [(100000,7),(250000,25000001),(100001,8)] _ _ (Ix b) Lt [7014] (fun a h=>aG (Xo h)) (Ay aH rfl rfl) rfl rfl rfl ⟨⟨rfl,rfl⟩,⟨⟨rfl,rfl⟩,⟨⟨rfl,rfl⟩,trivial⟩⟩⟩ (fun a=>⟨rfl,rfl,rfl,rfl,rfl,rfl,rfl,rfl⟩) (fun a hF=>?_)
  |refine bG (Bb 24 hF) [(100000,7),(100001,8),(200000,7014)] [(100000,7),(250000,25000001),(100001,8)] _ _ (Ix b) Lt [7014] (fun a h=>aG (Xo h)) (Ay aH rfl rfl) rfl rfl rfl ⟨⟨rfl,rfl⟩,⟨⟨rfl,rfl⟩,⟨⟨rfl,rfl⟩,trivial⟩⟩⟩ (fun a=>⟨rfl,rfl,rfl,rfl,rfl,rfl,rfl,rfl⟩) (fun a hF=>?_)
  |exact ⟨_,hF,aA [(7014,25000001)]⟩
  |refine aR hF ?_ fun m v hF=>?_
  |exact aC (LeX.frb 5 rfl rfl) (aA [(7014,14)])
  |refine AndA ?_
  |refine aF ?_
  |exact aB hF⟩
instance z7g {n a0}:CI E0 (Ru n a0) false 184 [Br a0] (fun r=>.sl 1 (r.map AV.bool)):=⟨fun {r} hF=>by
 unfold Ru at hF
 refine cw Tryz.func184 ?_
 repeat' first
  |refine AW.frbO hF 1 rfl rfl (fun hF=>?_)
  |refine aE hF fun hF=>?_
  |refine bB hF 1 rfl (fun hF=>?_)
  |refine aD [1] ?_;conv=>whnf
  |refine aL hF (fun hF=>?_) fun hF=>?_
  |refine aN ?_
  |refine aO ?_
  |refine aW hF fun a hF=>?_
  |refine AndA ?_
  |refine aF ?_
  |exact aB hF⟩
instance z99 {n a0}:CI E0 (Oq n a0) false 183 [.sl 1 (a0.map AV.bool)] (fun r=>.sl 1 (r.map aI)):=⟨fun {r} hF=>by
 unfold Oq at hF
 refine cw Tryz.func183 ?_
 repeat' first
  |refine aE hF fun hF=>?_
  |refine aD [5] ?_;conv=>whnf
  |refine aL hF (fun hF=>?_) fun hF=>?_
  |refine aN ?_
  |refine aO ?_
  |refine aK hF fun x hF=>?_
  |refine aP hF fun l hF=>?_
  |exact ⟨_,hF,aA [(7017,17)]⟩
  |exact ⟨_,hF,aA []⟩
  |refine aR hF ?_ fun m v hF=>?_
  |exact aC (aJ 3 7017 3 1 rfl rfl) (aA [])
  |refine AndA ?_
  |refine aF ?_
  |exact aB hF⟩
instance z7h {n a0}:CI E0 (O9 n a0) false 112 [Br a0] (fun r=>.tup [.sl 1 (r.1.map aI),aI r.2]):=by unfold O9;exact aT [] Tryz.func112
instance z7s {n a0 a1}:CI E0 (S6 n a0 a1) false 241 [aI a0,.ref (B1 a1)] (fun r=>.sl 1 (r.map aI)):=⟨fun {r} hF=>by
 unfold S6 at hF
 refine cw Tryz.func241 ?_
 repeat' first
  |refine aE hF fun hF=>?_
  |refine aD [5] ?_;conv=>whnf
  |refine aL hF (fun hF=>?_) fun hF=>?_
  |refine aN ?_
  |refine aO ?_
  |refine aK hF fun x hF=>?_
  |refine aP hF fun l hF=>?_
  |exact ⟨_,hF,aA [(7022,22)]⟩
  |exact ⟨_,hF,aA []⟩
  |refine aR hF ?_ fun m v hF=>?_
  |exact aC (aJ 4 7022 3 1 rfl rfl) (aA [])
  |refine AndA ?_
  |refine aF ?_
  |exact aB hF⟩
def z1l (a0:Int)(a2bc0:A8)(m0:(List Bool)):List (Nat×Ent):=[(100000,.box 44 [.row 200000]),(200000,.row 4 1 (m0.map AV.bool)),(100001,.box 332 [.fn 284 [.ptr 100000 0,.ref [.fn 241 [.ref (B1 a2bc0)]],.ptr 100001 0]])]
def Hv (a2bc0:A8)(r:(List Bool)):List (Nat×Ent):=[(100000,.box 44 [.row 250000]),(250000,.row 4 1 (r.map AV.bool)),(100001,.box 332 [.fn 284 [.ptr 100000 0,.ref [.fn 241 [.ref (B1 a2bc0)]],.ptr 100001 0]])]
def Kw (r:(List Bool)):AV:=.tup []
def z1k (a2bc0:A8)(r:(List Bool)):AS:=⟨[(1,.ptr 100000 0),(3,.ptr 100001 0)],Hv a2bc0 r⟩
theorem Xf {n a0 a2bc0 m0 r}(hF:I4 n a0 a2bc0 m0=some r):ConG E0.P none (CalF E0.P 284 0) [aI a0,.ptr 100000 0,.ref [.fn 241 [.ref (B1 a2bc0)]],.ptr 100001 0] [] (z1l a0 a2bc0 m0) (Kw r) (Hv a2bc0 r):=by
 induction n generalizing a0 a2bc0 m0 r
 case zero=>cases hF
 case succ n ih =>
 unfold I4 at hF
 refine aZ (E:=(E0p 4)) (caps:=[]) _ aH rfl rfl rfl rfl rfl ?_
 repeat' first
  |refine aM ?_;conv=>whnf
  |refine aL hF (fun hF=>?_) fun hF=>?_
  |refine aN ?_
  |refine aO ?_
  |refine NatX.o hF (fun m hF=>?_)
  |refine EltX.o AV.bool hF (fun x hF=>?_)
  |refine GX.o (res:=Kw) (meF:=(Hv a2bc0)) hF ?_;exact GX.mk (z1k a2bc0 _) (aA [(250000,200000)]) rfl _ rfl (by repeat' first|exact Sub.nil _|exact Sub.refl _|refine Sub.agg ?_|refine Sub.tup ?_|refine Sub.fn ?_|exact SubL.nil|refine SubL.cons ?_ ?_|refine Sub.sl _ ?_|exact SubE.nil|refine SubE.cons ?_ ?_) [] trivial rfl
  |refine SetX.o AV.bool hF (fun x=>rfl) (fun x=>(by first|exact aQ _|(repeat' first|exact SubL.nil|refine SubL.cons ?_ ?_|exact Sub.refl _|exact Sub.nil _|refine Sub.agg ?_))) (fun l hF=>?_)
  |refine aW hF fun a hF=>?_
  |refine aK hF fun x hF=>?_
  |refine bF (Bb 24 hF) [(100000,100000),(100001,100001),(200000,200000)] [(100000,100000),(250000,25000001),(100001,100001)] _ _ (Hv a2bc0) Kw [200000] (fun a h=>aG (ih h)) (Ay aH rfl rfl) rfl rfl rfl ⟨⟨rfl,rfl⟩,⟨⟨rfl,rfl⟩,⟨⟨rfl,rfl⟩,trivial⟩⟩⟩ (fun a=>⟨rfl,rfl,rfl,rfl,rfl,rfl,rfl,rfl⟩) (fun a hF=>?_)
  |refine bG (Bb 24 hF) [(100000,100000),(100001,100001),(200000,200000)] [(100000,100000),(250000,25000001),(100001,100001)] _ _ (Hv a2bc0) Kw [200000] (fun a h=>aG (ih h)) (Ay aH rfl rfl) rfl rfl rfl ⟨⟨rfl,rfl⟩,⟨⟨rfl,rfl⟩,⟨⟨rfl,rfl⟩,trivial⟩⟩⟩ (fun a=>⟨rfl,rfl,rfl,rfl,rfl,rfl,rfl,rfl⟩) (fun a hF=>?_)
  |exact ⟨_,hF,aA [(200000,25000001)]⟩
  |refine aR hF (aA []) fun m v hF=>?_
  |refine AndA ?_
  |refine aF ?_
instance z72 {n a0 a1 b}:CI E0 (Lf n a0 a1 b) false 239 [Br a0,.sl 1 (a1.map aI),.fn 241 [.ref (B1 b)]] (fun r=>.sl 1 (r.map AV.bool)):=⟨fun {r} hF=>by
 unfold Lf at hF
 refine cw bX ?_
 repeat' first
  |refine aE hF fun hF=>?_
  |refine bB hF 5 rfl (fun hF=>?_)
  |refine aD [7] ?_;conv=>whnf
  |refine aL hF (fun hF=>?_) fun hF=>?_
  |refine aN ?_
  |refine aO ?_
  |refine MakX.o AV.bool hF (by first|exact aQ _|(repeat' first|exact SubL.nil|refine SubL.cons ?_ ?_|exact Sub.refl _|exact Sub.nil _|refine Sub.agg ?_)) (fun l hF=>?_)
  |refine aK hF fun x hF=>?_
  |refine bF (Bb 24 hF) [(100000,7),(100001,8),(200000,7014)] [(100000,7),(250000,25000001),(100001,8)] _ _ (Hv b) Kw [7014] (fun a h=>aG (Xf h)) (Ay aH rfl rfl) rfl rfl rfl ⟨⟨rfl,rfl⟩,⟨⟨rfl,rfl⟩,⟨⟨rfl,rfl⟩,trivial⟩⟩⟩ (fun a=>⟨rfl,rfl,rfl,rfl,rfl,rfl,rfl,rfl⟩) (fun a hF=>?_)
  |refine bG (Bb 24 hF) [(100000,7),(100001,8),(200000,7014)] [(100000,7),(250000,25000001),(100001,8)] _ _ (Hv b) Kw [7014] (fun a h=>aG (Xf h)) (Ay aH rfl rfl) rfl rfl rfl ⟨⟨rfl,rfl⟩,⟨⟨rfl,rfl⟩,⟨⟨rfl,rfl⟩,trivial⟩⟩⟩ (fun a=>⟨rfl,rfl,rfl,rfl,rfl,rfl,rfl,rfl⟩) (fun a hF=>?_)
  |exact ⟨_,hF,aA [(7014,25000001)]⟩
  |refine aR hF ?_ fun m v hF=>?_
  |exact aC (LeX.frb 5 rfl rfl) (aA [(7014,14)])
  |refine AndA ?_
  |refine aF ?_
  |exact aB hF⟩
instance z9t {n a0}:CI E0 (Sa n a0) false 185 [Br a0] (fun r=>.sl 1 (r.map AV.bool)):=⟨fun {r} hF=>by
 unfold Sa at hF
 refine cw Tryz.func185 ?_
 repeat' first
  |refine AW.frbO hF 1 rfl rfl (fun hF=>?_)
  |refine aE hF fun hF=>?_
  |refine bB hF 7020 rfl (fun hF=>?_)
  |refine bB hF 1 rfl (fun hF=>?_)
  |refine aD [8,5] ?_;conv=>whnf
  |refine aL hF (fun hF=>?_) fun hF=>?_
  |refine aN ?_
  |refine aO ?_
  |refine aW hF fun a hF=>?_
  |refine aK hF fun x hF=>?_
  |refine aP hF fun l hF=>?_
  |exact ⟨_,hF,aA [(7020,20)]⟩
  |exact ⟨_,hF,aA []⟩
  |refine aR hF ?_ fun m v hF=>?_
  |exact aC (aJ 3 7020 3 1 rfl rfl) (aA [])
  |refine AndA ?_
  |refine aF ?_
  |exact aB hF⟩
instance z9y {n a0}:CI E0 (P1 n a0) false 113 [Br a0] (fun r=>.tup [.sl 1 (r.1.map aI),aI r.2]):=by unfold P1;exact aT [] Tryz.func113
theorem Ce (a b:Int):eqK (aI a) (aI b)=some (decide (a=b)):=by simp [eqK,eq1,aI,Jr]
instance zhl {n a0}:CI E0 (Pu n a0) false 114 [.sl 1 (a0.map aI)] (fun r=>.mapv (List.map (encM aI AV.bool) (r))):=⟨fun {r} hF=>by
 unfold Pu at hF
 refine cw Tryz.func114 ?_
 repeat' first
  |refine aM ?_;conv=>whnf
  |refine aL hF (fun hF=>?_) fun hF=>?_
  |refine aN ?_
  |refine aO ?_
  |refine aK hF fun x hF=>?_
  |refine UpX.o aI AV.bool hF (by first|rfl|kernel_rfl) Ce (.refl _) (fun l hF=>?_)
  |exact ⟨_,hF,aA []⟩
  |refine aR hF (aA []) fun m v hF=>?_
  |refine AndA ?_
  |refine aF ?_
  |exact aB hF⟩
end
noncomputable section
abbrev z10 {n a3 a2 a1 a0 b c}:=jt (Ei n a3 a2 a1 a0 b c) (fun d=>⟨[(3,.sl 1 (List.map (fun q=>AV.mapv (List.map (encM aI AV.bool) q)) (a3))),(4,.ptr 4 0),(6,.ptr 6 0),(9,.row 13),(10,aI b.1),(12,.bool (d)),(15,aI a1.fScopes),(16,aI b.1)],[(4,.box 119 [.mapv (List.map (encM aI AV.bool) (a0.freachable)),.mapv (List.map (encM aI AV.bool) (a0.finner))]),(6,.box 149 (Cj a2)),(13,.mp (List.map (encM aI AV.bool) (b.2)))]⟩) fun _=>Ei.eq_1 ..
abbrev z11 {n a3 a2 a1 a0 b c d}:=jt (F7 n a3 a2 a1 a0 b c d) (fun e=>⟨[(3,.sl 1 (List.map (fun q=>AV.mapv (List.map (encM aI AV.bool) q)) (a3))),(4,.ptr 4 0),(6,.ptr 6 0),(9,.row 13),(10,aI b.1),(11,.bool (d)),(12,.bool (e)),(15,aI a1.fScopes),(16,aI b.1)],[(4,.box 119 [.mapv (List.map (encM aI AV.bool) (a0.freachable)),.mapv (List.map (encM aI AV.bool) (a0.finner))]),(6,.box 149 (Cj a2)),(13,.mp (List.map (encM aI AV.bool) (b.2)))]⟩) fun _=>F7.eq_1 ..
abbrev z0z {n a3 a2 a1 a0 b}:=li (Dy n a3 a2 a1 a0 b) (fun c=>⟨[(3,.sl 1 (List.map (fun q=>AV.mapv (List.map (encM aI AV.bool) q)) (a3))),(4,.ptr 4 0),(6,.ptr 6 0),(9,.row 13),(15,aI a1.fScopes),(16,aI c.1)],[(4,.box 119 [.mapv (List.map (encM aI AV.bool) (a0.freachable)),.mapv (List.map (encM aI AV.bool) (a0.finner))]),(6,.box 149 (Cj a2)),(13,.mp (List.map (encM aI AV.bool) (c.2)))]⟩) fun _ _=>Dy.eq_2 ..
abbrev z4c {n a1 b}:=li (J3 n a1 b) (fun c=>⟨[(1,.mapv (List.map (encM aI AV.bool) (a1))),(5,.row 7),(9,.ptr 9 0)],[(9,.it (List.map (encM aI AV.bool) (c.1))),(7,.mp (List.map (encM aI AV.bool) (c.2)))]⟩) fun _ _=>J3.eq_2 ..
abbrev z0l {n a1 a0 b d c}:=jf (Eh n a1 a0 b d c) (fun e=>⟨[(2,.ptr 2 0),(3,.ptr 3 0),(5,.row 15),(8,.bool (b.1)),(10,.ptr 10 0),(40,.sl 17 (a1.fEdges.map A5)),(41,aI (((a1.fEdges.map A5).length:Int))),(42,aI b.2.1),(64,.bool (e))],[(2,.box 119 [.mapv (List.map (encM aI AV.bool) (a0.freachable)),.mapv (List.map (encM aI AV.bool) (a0.finner))]),(3,.box 26 (B1 a1)),(10,.box 149 (Cj c)),(15,.row 112 1 (List.map (fun q=>AV.mapv (List.map (encM aI AV.bool) q)) (b.2.2)))]⟩) fun _=>Eh.eq_1 ..
abbrev z0i {n a1 a0 c}:=li (Eg n a1 a0 c) (fun b=>⟨[(2,.ptr 2 0),(3,.ptr 3 0),(5,.row 15),(8,.bool (b.1)),(40,.sl 17 (a1.fEdges.map A5)),(41,aI (((a1.fEdges.map A5).length:Int))),(42,aI b.2.1)],[(2,.box 119 [.mapv (List.map (encM aI AV.bool) (a0.freachable)),.mapv (List.map (encM aI AV.bool) (a0.finner))]),(3,.box 26 (B1 a1)),(15,.row 112 1 (List.map (fun q=>AV.mapv (List.map (encM aI AV.bool) q)) (b.2.2)))]⟩) fun _ _=>Eg.eq_2 ..
abbrev z0j {n a1 a0 b}:=li (Gi n a1 a0 b) (fun c=>⟨[(2,.ptr 2 0),(3,.ptr 3 0),(5,.row 15),(8,.bool (c.1))],[(2,.box 119 [.mapv (List.map (encM aI AV.bool) (a0.freachable)),.mapv (List.map (encM aI AV.bool) (a0.finner))]),(3,.box 26 (B1 a1)),(15,.row 112 1 (List.map (fun q=>AV.mapv (List.map (encM aI AV.bool) q)) (c.2)))]⟩) fun _ _=>Gi.eq_2 ..
abbrev z0h {n a1 a0 d b e f}:=li (Kk n a1 a0 d b e f) (fun c=>⟨[(2,.ptr 2 0),(3,.ptr 3 0),(5,.cont (d.1) 15),(6,aI b.1),(18,.ptr 18 0),(28,aI a1.fScopes),(29,aI c.1)],[(2,.box 119 [.mapv (List.map (encM aI AV.bool) (a0.freachable)),.mapv (List.map (encM aI AV.bool) (a0.finner))]),(3,.box 26 (B1 a1)),(15,.are 112 (c.2).1 (List.map (enO aI AV.bool) (c.2).2)),(18,.itc (encM aI AV.bool b) (List.map (encM aI AV.bool) (e)))]⟩) fun _ _=>Kk.eq_2 ..
abbrev z0k {n a1 a0 c}:=li (Hq n a1 a0 c) (fun b=>⟨[(2,.ptr 2 0),(3,.ptr 3 0),(5,.cont (b.1) 15),(18,.ptr 18 0)],[(2,.box 119 [.mapv (List.map (encM aI AV.bool) (a0.freachable)),.mapv (List.map (encM aI AV.bool) (a0.finner))]),(3,.box 26 (B1 a1)),(15,.are 112 (b.2.1).1 (List.map (enO aI AV.bool) (b.2.1).2)),(18,.it (List.map (encM aI AV.bool) (b.2.2)))]⟩) fun _ _=>Hq.eq_2 ..
abbrev z35 {n b a0 c}:=li (Lk n b a0 c) (fun d=>⟨[(3,.row 7016),(6,.sl 8 (a0.map idA)),(7,aI (((a0.map idA).length:Int))),(8,aI d.1)],[(7016,.row 146 8 (d.2.map idA))]⟩) fun _ _=>Lk.eq_2 ..
abbrev z0p {n a0 b}:=li (Km n a0 b) (fun c=>⟨[(3,.row 7016),(6,.sl 8 (a0.map idA)),(7,aI (((a0.map idA).length:Int))),(8,aI c.1)],[(7016,.row 146 8 (c.2.map idA))]⟩) fun _ _=>Km.eq_2 ..
attribute [instance] z10 z11 z0z z4c z0l z0i z0j z0h z0k z35 z0p
instance ze0 {n a0}:CI E0 (M8 n a0) false 54 [Br a0] (fun r=>.agg [.mapv (List.map (encM aI AV.bool) (r.freachable)),.mapv (List.map (encM aI AV.bool) (r.finner))]):=⟨fun {r} hF=>by
 unfold M8 at hF
 refine cw Tryz.func54 ?_
 repeat' first
  |refine aE hF fun hF=>?_
  |refine aD [8] ?_;conv=>whnf
  |refine aL hF (fun hF=>?_) fun hF=>?_
  |refine aN ?_
  |refine aO ?_
  |refine aW hF fun a hF=>?_
  |refine aK hF fun x hF=>?_
  |refine bI aI AV.bool hF Ce rfl rfl rfl rfl rfl rfl rfl rfl rfl rfl (by first|rfl|kernel_rfl) (.refl _) (fun v b hF=>?_)
  |refine UpX.o aI AV.bool hF (by first|rfl|kernel_rfl) Ce (.refl _) (fun l hF=>?_)
  |exact ⟨_,hF,aA []⟩
  |refine aR hF (aA []) fun m v hF=>?_
  |refine AndA ?_
  |refine aF ?_
  |exact aB hF⟩
def Xn (r:(List (Int×Bool))):AV:=.mapv (List.map (encM aI AV.bool) (r))
theorem z17 {n a0 a1 a2 a3 r}(hF:Rk n a0 a1 a2 a3=some r):Con E0 true 116 [.agg [.mapv (List.map (encM aI AV.bool) (a0.freachable)),.mapv (List.map (encM aI AV.bool) (a0.finner))],Br a1,A5 a2,.sl 1 (List.map (fun q=>AV.mapv (List.map (encM aI AV.bool) q)) (a3))] (Xn r):=by
 unfold Rk at hF
 refine ConF.walk _ bY rfl (Ay bY rfl rfl) rfl ?_
 repeat' first
  |refine AW.jI2 hF (fun v hF=>?_) fun hF=>?_
  |refine aE hF fun hF=>?_
  |refine aD [7,8,9,10,11] ?_;conv=>whnf
  |refine aL hF (fun hF=>?_) fun hF=>?_
  |refine aN ?_
  |refine aO ?_
  |refine aW hF fun a hF=>?_
  |refine UpX.o aI AV.bool hF (by first|rfl|kernel_rfl) Ce (.refl _) (fun l hF=>?_)
  |exact ⟨_,hF,aA []⟩
  |refine bI aI AV.bool hF Ce rfl rfl rfl rfl rfl rfl rfl rfl rfl rfl (by first|rfl|kernel_rfl) (.refl _) (fun v b hF=>?_)
  |refine IdxX.o (fun q=>AV.mapv (List.map (encM aI AV.bool) q)) hF fun x hF=>?_
  |refine aR hF (aA []) fun m v hF=>?_
  |refine AndA ?_
  |refine aF ?_
  |refine FX.o (en:=fun r=>List.map (encM aI AV.bool) r) hF ?_;exact FX.mk _ 13 (LeX.refl _ _ _) rfl rfl (zfj (fun _=>rfl) (fun _=>rfl)) (bD rfl)
instance zdh {n a0 a1}:CI E0 (Je n a0 a1) false 115 [.mapv (List.map (encM aI AV.bool) (a0)),.mapv (List.map (encM aI AV.bool) (a1))] (fun r=>.mapv (List.map (encM aI AV.bool) (r))):=⟨fun {r} hF=>by
 unfold Je at hF
 refine cw Tryz.func115 ?_
 repeat' first
  |refine AW.frsO AV.bool hF 7 rfl (fun hF=>?_)
  |refine bZ (encM aI AV.bool) hF 9 rfl (fun x s hF=>?_)
  |refine aE hF fun hF=>?_
  |refine bB hF 7 rfl (fun hF=>?_)
  |refine aD [7,5,4] ?_;conv=>whnf
  |refine aL hF (fun hF=>?_) fun hF=>?_
  |refine aN ?_
  |refine aO ?_
  |refine cA rfl rfl rfl rfl rfl rfl rfl rfl ?_
  |refine cB (encM aI AV.bool) hF rfl rfl rfl rfl rfl (fun hF=>?_) (fun hF=>?_)
  |refine cC rfl rfl rfl rfl rfl ?_
  |refine bI aI AV.bool hF Ce rfl rfl rfl rfl rfl rfl rfl rfl rfl rfl (by first|rfl|kernel_rfl) (.refl _) (fun v b hF=>?_)
  |refine UpX.o aI AV.bool hF (by first|rfl|kernel_rfl) Ce (.refl _) (fun l hF=>?_)
  |exact ⟨_,hF,aC (cD 9 rfl) (aA [])⟩
  |refine aR hF (aA []) fun m v hF=>?_
  |refine AndA ?_
  |refine aF ?_
  |exact aB hF⟩
instance z6r {n a0 a1}:CI E0 (Ny n a0 a1) false 55 [.agg [.mapv (List.map (encM aI AV.bool) (a0.freachable)),.mapv (List.map (encM aI AV.bool) (a0.finner))],Br a1] (fun r=>.sl 1 (List.map (fun q=>AV.mapv (List.map (encM aI AV.bool) q)) (r))):=⟨fun {r} hF=>by
 unfold Ny at hF
 refine cw Tryz.func55 ?_
 repeat' first
  |refine AW.areO aI AV.bool hF 15 rfl (fun hF=>?_)
  |refine AW.froO aI AV.bool hF 15 rfl (fun hF=>?_)
  |refine cL hF (fun v hF=>?_) fun hF=>?_
  |refine bZ (encM aI AV.bool) hF 18 rfl (fun x s hF=>?_)
  |refine aE hF fun hF=>?_
  |refine aD [17,19,11,4,2] ?_;conv=>whnf
  |refine aL hF (fun hF=>?_) fun hF=>?_
  |refine aN ?_
  |refine aO ?_
  |refine MakX.om hF (fun m hF=>?_)
  |refine cA rfl rfl rfl rfl rfl rfl rfl rfl ?_
  |exact ⟨_,hF,aC (cD 18 rfl) (aA [])⟩
  |exact ⟨_,hF,aA []⟩
  |refine aK hF fun x hF=>?_
  |refine NatX.o hF (fun m hF=>?_)
  |refine EltX.o (fun q=>AV.mapv (List.map (encM aI AV.bool) q)) hF (fun x hF=>?_)
  |refine B9.o hF Xn (fun a h=>z17 h) (fun _=>bD rfl) (fun a hF=>?_)
  |refine aW hF fun a hF=>?_
  |refine OpX.lnv rfl rfl rfl rfl rfl rfl ?_
  |refine SetX.o (fun q=>AV.mapv (List.map (encM aI AV.bool) q)) hF (fun x=>rfl) (fun x=>(by first|exact aQ _|(repeat' first|exact SubL.nil|refine SubL.cons ?_ ?_|exact Sub.refl _|exact Sub.nil _|refine Sub.agg ?_))) (fun l hF=>?_)
  |refine bI aI AV.bool hF Ce rfl rfl rfl rfl rfl rfl rfl rfl rfl rfl (by first|rfl|kernel_rfl) (.refl _) (fun v b hF=>?_)
  |refine aR hF (aA []) fun m v hF=>?_
  |refine cB (encM aI AV.bool) hF rfl rfl rfl rfl rfl (fun hF=>?_) (fun hF=>?_)
  |refine cC rfl rfl rfl rfl rfl ?_
  |refine OpX.ixc hF rfl rfl rfl rfl rfl rfl rfl rfl (fun hF=>?_)
  |refine OpX.ast aI AV.bool hF rfl rfl rfl rfl rfl rfl rfl rfl rfl rfl rfl (fun m hF=>?_)
  |refine OpX.aob hF rfl rfl rfl rfl rfl rfl rfl (fun j hF=>?_)
  |refine OpX.aup AV.bool hF (bD rfl) rfl rfl rfl rfl rfl rfl rfl rfl rfl (by first|rfl|kernel_rfl) rfl rfl (fun l hF=>?_)
  |refine AndA ?_
  |refine aF ?_
  |exact aB hF⟩
def Xt (r:(List AV)):AV:=.sl 8 (r.map idA)
theorem z3o {n:Nat}{b:Ah->Option (Ah)}{a0:(List AV)}{r:(List AV)}(ih:∀ {a0:Ah} {r:Ah},b a0=some r->Con E0 false 186 [Ag a0] ((Ag r)))(hF:Sb n b a0=some r):Con E0 false 187 [.sl 8 (a0.map idA)] (Xt r):=by
 unfold Sb at hF
 refine Con.walk _ bJ rfl (Ay bJ rfl rfl) rfl (bD rfl) ?_
 repeat' first
  |refine aM ?_;conv=>whnf
  |refine aL hF (fun hF=>?_) fun hF=>?_
  |refine aN ?_
  |refine aO ?_
  |refine bR hF E6 (fun x hF=>?_)
  |refine Ad.o hF (fun r=>.agg [aI (r.fOp),.sl 8 (r.fArgs.map idA),aI (r.fVar),aI (r.fField),aI (r.fKind),aI (r.fValue.fKind),aI (r.fValue.fNum),.str (r.fValue.fText)]) (fun a h=>ih h) (fun a hF=>?_)
  |refine aP hF fun l hF=>?_
  |exact ⟨_,hF,aA [(7016,16)]⟩
  |refine aR hF ?_ fun m v hF=>?_
  |exact aC (aJ 3 7016 146 8 rfl rfl) (aA [])
  |refine AndA ?_
  |refine aF ?_
  |exact aB hF
theorem z2m {n a0 r}(hF:Ep n a0=some r):Con E0 false 186 [Ag a0] ((Ag r)):=by
 induction n generalizing a0 r
 case zero=>cases hF
 case succ n ih =>
 unfold Ep at hF
 refine cw Tryz.func186 ?_
 repeat' first
  |refine aM ?_;conv=>whnf
  |refine aL hF (fun hF=>?_) fun hF=>?_
  |refine aN ?_
  |refine aO ?_
  |refine Ad.o hF Xt (fun a h=>z3o ih h) (fun a hF=>?_)
  |refine AndA ?_
  |refine aF ?_
  |exact aB hF
instance z9x {n a0}:CI E0 (Ep n a0) false 186 [Ag a0] Ag:=⟨z2m⟩
instance z6u {n a0}:CI E0 (Rb n a0) false 187 [.sl 8 (a0.map idA)] (fun r=>.sl 8 (r.map idA)):=⟨fun {r} hF=>by
 unfold Rb at hF
 refine cw bJ ?_
 repeat' first
  |refine aM ?_;conv=>whnf
  |refine aL hF (fun hF=>?_) fun hF=>?_
  |refine aN ?_
  |refine aO ?_
  |refine bR hF E6 (fun x hF=>?_)
  |refine aW hF fun a hF=>?_
  |refine aP hF fun l hF=>?_
  |exact ⟨_,hF,aA [(7016,16)]⟩
  |refine aR hF ?_ fun m v hF=>?_
  |exact aC (aJ 3 7016 146 8 rfl rfl) (aA [])
  |refine AndA ?_
  |refine aF ?_
  |exact aB hF⟩
set_option maxHeartbeats 400000 in
theorem z9h (l:List (Cel 1))(S:Nat->Prop)(v:Value)(w:World)(h:Sl w S 1 encC v l)(hl:l.length<=1000000000) :
  Calls bP 188 #[v] w (X1 3 1 encC l w):=by
 have eok:EOk bP 43 3 1 8 (encC (n:=1)):=eokC (sz:=1) (U1 43 _ rfl) rfl (U1 3 _ rfl) (by omega) rfl
 obtain ⟨A,c,rfl,hc,_⟩:=h.form
 have hq:=fun (W:World)=>Lib.run_eql_slice_nil W 43 3 A l.length c 0 0 Tryz.underlying43
 have H:=hide h
 cases A with
 |none =>
  have h0:l=[]:=h.none_nil
  subst h0
  clear h H hl hc
  simp only [length_nil,Option.isNone_none] at hq ⊢
  go_enter bK,bT
  go_wp2
  go_ret
  exact ⟨none,0,rfl,Own.nil_,by go_grown⟩
 |some ad =>
  clear h
  go_enter bK,bT
  go_wp2_with (at_builtin;refine Xw rfl _ _ rfl eok rfl Own.made_ rfl (H.out.alloc _) (by simp;omega) (by omega) (by simp) ?_;intro A' c' w1 ho hg _)
  go_ret
  exact ⟨A',c',rfl,ho,(Own.made_ (sz:=1) (enc:=encC (n:=1))).grown ((Below.refl _ _).alloc (bE _) _) (bE _) (by simp) hg⟩
theorem z7k {n a r}(hF:Dl n a=some r):ConT E0 188 [.sl 1 (List.map aI a)] 3 1 (List.map aI r) (.row 0):=z9f rfl (Ay bK rfl rfl) z9h hF
theorem z98 {n a r}(hF:Dl n a=some r):Con E0 false 188 [.sl 1 (List.map aI a)] (.sl 1 (List.map aI r)):=(z7k hF).close rfl
end
noncomputable section
abbrev z3q {n a0 x3 b}:=li (Ls n a0 x3 b) (fun c=>⟨[(2,.ptr 2 0),(7,.row 7037),(23,.sl 1 (x3.map aI)),(24,aI (((x3.map aI).length:Int))),(25,aI c.1)],[(2,.box 26 (B1 a0)),(7037,.row 149 17 (c.2.map A5))]⟩) fun _ _=>Ls.eq_2 ..
abbrev z0g {n b a0 c}:=li (Ki n b a0 c) (fun d=>⟨[(0,.sl 2 (a0.map Bi)),(1,.fn 191 [.ref [aI b]]),(7,aI (((a0.map Bi).length:Int))),(8,aI d)],[]⟩) fun _ _=>Ki.eq_2 ..
abbrev z4v {n a0 x1}:=jf (Jb n a0 x1) (fun b=>⟨[(2,.ptr 2 0),(6,aI x1),(18,.bool (b))],[(2,.box 149 (Cj a0))]⟩) fun _=>Jb.eq_1 ..
abbrev z5m {n a0 b d f e}:=li (Jf n a0 b d f e) (fun c=>⟨[(0,.sl 17 (a0.map A5)),(6,aI b.1),(7,.bool (b.2.1)),(8,aI d.1),(9,aI c.1),(10,.bool (c.2.1)),(16,.ptr 16 0),(21,.sl 17 (a0.map A5)),(22,aI (((a0.map A5).length:Int))),(23,aI c.2.2)],[(16,.itc (encM aI AV.bool d) (List.map (encM aI AV.bool) (f)))]⟩) fun _ _=>Jf.eq_2 ..
abbrev z5n {n a0 c}:=li (Fv n a0 c) (fun b=>⟨[(0,.sl 17 (a0.map A5)),(6,aI b.1),(7,.bool (b.2.1)),(16,.ptr 16 0)],[(16,.it (List.map (encM aI AV.bool) (b.2.2)))]⟩) fun _ _=>Fv.eq_2 ..
abbrev z57 {n a0 x2 x3 c}:=li (Jd n a0 x2 x3 c) (fun b=>⟨[(1,.ptr 1 0),(6,.ptr 6 0),(7,.sl 1 (List.map (fun q=>AV.mapv (List.map (encM aI AV.bool) q)) (x3))),(8,.row 26),(9,.row 30),(33,aI (((a0.fStates.map Al).length:Int))),(34,aI b.1)],[(1,.box 26 (B1 a0)),(6,.box 119 [.mapv (List.map (encM aI AV.bool) (x2.freachable)),.mapv (List.map (encM aI AV.bool) (x2.finner))]),(26,.row 3 1 (b.2.1.map aI)),(30,.row 4 1 (b.2.2.map AV.bool))]⟩) fun _ _=>Jd.eq_2 ..
abbrev z4w {n a1 x1 b}:=li (Ly n a1 x1 b) (fun c=>⟨[(1,aI a1),(6,.sl 1 (x1.1.map aI)),(7,.sl 1 (x1.2.1.map AV.bool)),(9,aI c.1),(20,.ptr 20 0)],[(20,.it (List.map (encM aI AV.bool) (c.2)))]⟩) fun _ _=>Ly.eq_2 ..
abbrev z3m {n c a0 d}:=li (Lp n c a0 d) (fun b=>⟨[(1,.fn 263 [.ptr 100000 0]),(16,.sl 8 (a0.fArgs.map idA)),(17,aI (((a0.fArgs.map idA).length:Int))),(18,aI b.1)],[(100000,.box 318 [.bool (b.2.1),.bool (b.2.2.1),.bool (b.2.2.2.1),.bool (b.2.2.2.2.1),.bool (b.2.2.2.2.2.1),.bool (b.2.2.2.2.2.2.1),.bool (b.2.2.2.2.2.2.2.1),.bool (b.2.2.2.2.2.2.2.2.1),.bool (b.2.2.2.2.2.2.2.2.2.1),.bool (b.2.2.2.2.2.2.2.2.2.2.1),.bool (b.2.2.2.2.2.2.2.2.2.2.2.1),.bool (b.2.2.2.2.2.2.2.2.2.2.2.2.1),.bool (b.2.2.2.2.2.2.2.2.2.2.2.2.2.1),.bool (b.2.2.2.2.2.2.2.2.2.2.2.2.2.2.1),.bool (b.2.2.2.2.2.2.2.2.2.2.2.2.2.2.2.1),.bool (b.2.2.2.2.2.2.2.2.2.2.2.2.2.2.2.2)])]⟩) fun _ _=>Lp.eq_2 ..
abbrev z42 {n x1 b}:=li (B3 n x1 b) (fun c=>⟨[(4,.row 7019),(10,.agg [.bool (x1.2.1),.bool (x1.2.2.1),.bool (x1.2.2.2.1),.bool (x1.2.2.2.2.1),.bool (x1.2.2.2.2.2.1),.bool (x1.2.2.2.2.2.2.1),.bool (x1.2.2.2.2.2.2.2.1),.bool (x1.2.2.2.2.2.2.2.2.1),.bool (x1.2.2.2.2.2.2.2.2.2.1),.bool (x1.2.2.2.2.2.2.2.2.2.2.1),.bool (x1.2.2.2.2.2.2.2.2.2.2.2.1),.bool (x1.2.2.2.2.2.2.2.2.2.2.2.2.1),.bool (x1.2.2.2.2.2.2.2.2.2.2.2.2.2.1),.bool (x1.2.2.2.2.2.2.2.2.2.2.2.2.2.2.1),.bool (x1.2.2.2.2.2.2.2.2.2.2.2.2.2.2.2.1),.bool (x1.2.2.2.2.2.2.2.2.2.2.2.2.2.2.2.2)]),(11,aI c.1)],[(7019,.row 3 1 (c.2.map aI))]⟩) fun _ _=>B3.eq_2 ..
attribute [instance] z3q z0g z4v z5m z5n z57 z4w z3m z42
set_option maxHeartbeats 400000 in
theorem z9g (l:List (Cel 2))(S:Nat->Prop)(v:Value)(w:World)(h:Sl w S 2 encC v l)(hl:l.length<=1000000000) :
  Calls bP 189 #[v] w (X1 230 2 encC l w):=by
 have eok:EOk bP 147 230 2 16 (encC (n:=2)):=eokC (sz:=2) (U1 147 _ rfl) rfl (U1 230 _ rfl) (by omega) rfl
 obtain ⟨A,c,rfl,hc,_⟩:=h.form
 have hq:=fun (W:World)=>Lib.run_eql_slice_nil W 147 230 A l.length c 0 0 Tryz.underlying147
 have H:=hide h
 cases A with
 |none =>
  have h0:l=[]:=h.none_nil
  subst h0
  clear h H hl hc
  simp only [length_nil,Option.isNone_none] at hq ⊢
  go_enter bL,bU
  go_wp2
  go_ret
  exact ⟨none,0,rfl,Own.nil_,by go_grown⟩
 |some ad =>
  clear h
  go_enter bL,bU
  go_wp2_with (at_builtin;refine Xw rfl _ _ rfl eok rfl Own.made_ rfl (H.out.alloc _) (by simp;omega) (by omega) (by simp) ?_;intro A' c' w1 ho hg _)
  go_ret
  exact ⟨A',c',rfl,ho,(Own.made_ (sz:=2) (enc:=encC (n:=2))).grown ((Below.refl _ _).alloc (bE _) _) (bE _) (by simp) hg⟩
theorem z7j {n a r}(hF:Dl n a=some r):ConT E0 189 [.sl 2 (List.map Bi a)] 230 2 (List.map Bi r) (.row 0):=z9f rfl (Ay bL rfl rfl) z9g hF
theorem z97 {n a r}(hF:Dl n a=some r):Con E0 false 189 [.sl 2 (List.map Bi a)] (.sl 2 (List.map Bi r)):=(z7j hF).close rfl
instance zdn {n a0}:CI E0 (Pe n a0) false 119 [A5 a0] A5:=⟨fun {r} hF=>by
 unfold Pe at hF
 refine cw Tryz.func119 ?_
 repeat' first
  |refine aM ?_;conv=>whnf
  |refine aL hF (fun hF=>?_) fun hF=>?_
  |refine aN ?_
  |refine aO ?_
  |refine aW hF fun a hF=>?_
  |refine Ad.o hF (fun q=>AV.sl 1 (List.map aI q)) (fun a h=>z98 h) (fun a hF=>?_)
  |refine Ad.o hF (fun q=>AV.sl 2 (List.map Bi q)) (fun a h=>z97 h) (fun a hF=>?_)
  |refine AndA ?_
  |refine aF ?_
  |exact aB hF⟩
instance zb1 {n a0 a1}:CI E0 (P4 n a0 a1) false 56 [Br a0,aI a1] (fun r=>.tup [.sl 17 (r.1.map A5),aI r.2]):=⟨fun {r} hF=>by
 unfold P4 at hF
 refine cw Tryz.func56 ?_
 repeat' first
  |refine aM ?_;conv=>whnf
  |refine aL hF (fun hF=>?_) fun hF=>?_
  |refine aN ?_
  |refine aO ?_
  |refine aW hF fun a hF=>?_
  |refine aK hF fun x hF=>?_
  |refine aP hF fun l hF=>?_
  |exact ⟨_,hF,aA [(7037,37)]⟩
  |refine aR hF ?_ fun m v hF=>?_
  |exact aC (aJ 7 7037 149 17 rfl rfl) (aA [])
  |refine AndA ?_
  |refine aF ?_
  |exact aB hF⟩
instance zch {n a0 a1}:CI E0 (Se n a0 a1) true 191 [Bi a0,.ref [aI a1]] (fun r=>.bool (r)):=by unfold Se;exact aT [] Tryz.func191
instance z6p {n a0 b}:CI E0 (R9 n a0 b) true 190 [.sl 2 (a0.map Bi),.fn 191 [.ref [aI b]]] aI:=by unfold R9;exact aT [] Tryz.func190
instance ze2 {n a0 a1}:CI E0 (Ji n a0 a1) true 120 [A5 a0,aI a1] (fun r=>.tup [aI r.1,.bool (r.2)]):=⟨fun {r} hF=>by
 unfold Ji at hF
 refine cw Tryz.func120 ?_
 repeat' first
  |refine cL hF (fun v hF=>?_) fun hF=>?_
  |refine aE hF fun hF=>?_
  |refine aD [2] ?_;conv=>whnf
  |refine aL hF (fun hF=>?_) fun hF=>?_
  |refine aN ?_
  |refine aO ?_
  |refine B9.I hF (fun a hF=>?_) rfl rfl fun _=>bA rfl
  |refine aK hF fun x hF=>?_
  |exact ⟨_,hF,aA []⟩
  |refine aW hF fun a hF=>?_
  |refine AndA ?_
  |refine aF ?_
  |exact aB hF⟩
instance zfz {n a0 a1}:CI E0 (So n a0 a1) true 57 [.sl 17 (a0.map A5),.mapv (List.map (encM aI AV.bool) (a1))] (fun r=>.tup [aI r.1,.bool (r.2)]):=⟨fun {r} hF=>by
 unfold So at hF
 refine cw Tryz.func57 ?_
 repeat' first
  |refine bZ (encM aI AV.bool) hF 16 rfl (fun x s hF=>?_)
  |refine aE hF fun hF=>?_
  |refine aD [10,12,4] ?_;conv=>whnf
  |refine aL hF (fun hF=>?_) fun hF=>?_
  |refine aN ?_
  |refine aO ?_
  |refine cA rfl rfl rfl rfl rfl rfl rfl rfl ?_
  |refine cB (encM aI AV.bool) hF rfl rfl rfl rfl rfl (fun hF=>?_) (fun hF=>?_)
  |refine cC rfl rfl rfl rfl rfl ?_
  |exact ⟨_,hF,aC (cD 16 rfl) (aA [])⟩
  |exact ⟨_,hF,aA []⟩
  |refine aK hF fun x hF=>?_
  |refine aW hF fun a hF=>?_
  |refine aR hF (aA []) fun m v hF=>?_
  |refine AndA ?_
  |refine aF ?_
  |exact aB hF⟩
instance zfn {n a0}:CI E0 (Pi n a0) false 15 [Br a0] (fun r=>.tup [.sl 1 (r.1.map aI),.sl 1 (r.2.1.map AV.bool),aI r.2.2]):=⟨fun {r} hF=>by
 unfold Pi at hF
 refine cw Tryz.func15 ?_
 repeat' first
  |refine aE hF fun hF=>?_
  |refine aD [11] ?_;conv=>whnf
  |refine aL hF (fun hF=>?_) fun hF=>?_
  |refine aN ?_
  |refine aO ?_
  |refine aW hF fun a hF=>?_
  |refine MakX.o aI hF (by first|exact aQ _|(repeat' first|exact SubL.nil|refine SubL.cons ?_ ?_|exact Sub.refl _|exact Sub.nil _|refine Sub.agg ?_)) (fun l hF=>?_)
  |refine MakX.o AV.bool hF (by first|exact aQ _|(repeat' first|exact SubL.nil|refine SubL.cons ?_ ?_|exact Sub.refl _|exact Sub.nil _|refine Sub.agg ?_)) (fun l hF=>?_)
  |refine NatX.o hF (fun m hF=>?_)
  |refine SetX.o AV.bool hF (fun x=>rfl) (fun x=>(by first|exact aQ _|(repeat' first|exact SubL.nil|refine SubL.cons ?_ ?_|exact Sub.refl _|exact Sub.nil _|refine Sub.agg ?_))) (fun l hF=>?_)
  |refine bI aI AV.bool hF Ce rfl rfl rfl rfl rfl rfl rfl rfl rfl rfl (by first|rfl|kernel_rfl) (.refl _) (fun v b hF=>?_)
  |refine IdxX.o (fun q=>AV.mapv (List.map (encM aI AV.bool) q)) hF fun x hF=>?_
  |refine SetX.o aI hF (fun x=>rfl) (fun x=>(by first|exact aQ _|(repeat' first|exact SubL.nil|refine SubL.cons ?_ ?_|exact Sub.refl _|exact Sub.nil _|refine Sub.agg ?_))) (fun l hF=>?_)
  |exact ⟨_,hF,aA []⟩
  |refine aR hF (aA []) fun m v hF=>?_
  |refine AndA ?_
  |refine aF ?_
  |exact aB hF⟩
instance ze3 {n a0 a1}:CI E0 (Fy n a0 a1) true 49 [Br a0,aI a1] (fun r=>.tup [aI r.1,.bool (r.2)]):=⟨fun {r} hF=>by
 unfold Fy at hF
 refine cw Tryz.func49 ?_
 repeat' first
  |refine bZ (encM aI AV.bool) hF 20 rfl (fun x s hF=>?_)
  |refine aE hF fun hF=>?_
  |refine aD [5] ?_;conv=>whnf
  |refine aL hF (fun hF=>?_) fun hF=>?_
  |refine aN ?_
  |refine aO ?_
  |refine aW hF fun a hF=>?_
  |refine cA rfl rfl rfl rfl rfl rfl rfl rfl ?_
  |refine cB (encM aI AV.bool) hF rfl rfl rfl rfl rfl (fun hF=>?_) (fun hF=>?_)
  |refine cC rfl rfl rfl rfl rfl ?_
  |refine aK hF fun x hF=>?_
  |exact ⟨_,hF,aC (cD 20 rfl) (aA [])⟩
  |refine aR hF (aA []) fun m v hF=>?_
  |refine AndA ?_
  |refine aF ?_
  |exact aB hF⟩
def z4n (a0:Ah)(m0:B16):List (Nat×Ent):=[(100000,.box 318 [.bool (m0.1),.bool (m0.2.1),.bool (m0.2.2.1),.bool (m0.2.2.2.1),.bool (m0.2.2.2.2.1),.bool (m0.2.2.2.2.2.1),.bool (m0.2.2.2.2.2.2.1),.bool (m0.2.2.2.2.2.2.2.1),.bool (m0.2.2.2.2.2.2.2.2.1),.bool (m0.2.2.2.2.2.2.2.2.2.1),.bool (m0.2.2.2.2.2.2.2.2.2.2.1),.bool (m0.2.2.2.2.2.2.2.2.2.2.2.1),.bool (m0.2.2.2.2.2.2.2.2.2.2.2.2.1),.bool (m0.2.2.2.2.2.2.2.2.2.2.2.2.2.1),.bool (m0.2.2.2.2.2.2.2.2.2.2.2.2.2.2.1),.bool (m0.2.2.2.2.2.2.2.2.2.2.2.2.2.2.2)])]
def Ov (r:Int×B16):List (Nat×Ent):=[(100000,.box 318 [.bool (r.2.1),.bool (r.2.2.1),.bool (r.2.2.2.1),.bool (r.2.2.2.2.1),.bool (r.2.2.2.2.2.1),.bool (r.2.2.2.2.2.2.1),.bool (r.2.2.2.2.2.2.2.1),.bool (r.2.2.2.2.2.2.2.2.1),.bool (r.2.2.2.2.2.2.2.2.2.1),.bool (r.2.2.2.2.2.2.2.2.2.2.1),.bool (r.2.2.2.2.2.2.2.2.2.2.2.1),.bool (r.2.2.2.2.2.2.2.2.2.2.2.2.1),.bool (r.2.2.2.2.2.2.2.2.2.2.2.2.2.1),.bool (r.2.2.2.2.2.2.2.2.2.2.2.2.2.2.1),.bool (r.2.2.2.2.2.2.2.2.2.2.2.2.2.2.2.1),.bool (r.2.2.2.2.2.2.2.2.2.2.2.2.2.2.2.2)])]
def S8 (r:Int×(Bool×Bool×Bool×Bool×Bool×Bool×Bool×Bool×Bool×Bool×Bool×Bool×Bool×Bool×Bool×Bool)):AV:=aI (r.1)
def z4m (r:Int×B16):AS:=⟨[(3,aI r.1),(1,.ptr 100000 0)],Ov r⟩
theorem Xp {n a0 m0 r}(hF:Oy n a0 m0=some r):ConG E0.P none (CalF E0.P 263 0) [Ag a0,.ptr 100000 0] [] (z4n a0 m0) (S8 r) (Ov r):=by
 unfold Oy at hF
 refine aZ (E:=(E0p 2)) (caps:=[]) _ bM rfl rfl rfl rfl rfl ?_
 repeat' first
  |refine aM ?_;conv=>whnf
  |refine aL hF (fun hF=>?_) fun hF=>?_
  |refine aN ?_
  |refine aO ?_
  |refine aW hF fun a hF=>?_
  |refine NatX.oS hF rfl (fun hF=>?_) (fun hF=>?_)
  |(cases hF;done)
  |exact GX.A (res:=S8) (meF:=Ov) hF z4m
  |refine AndA ?_
  |refine aF ?_
def z51 (a0:Ah)(m0:B16):List (Nat×Ent):=[(100000,.box 318 [.bool (m0.1),.bool (m0.2.1),.bool (m0.2.2.1),.bool (m0.2.2.2.1),.bool (m0.2.2.2.2.1),.bool (m0.2.2.2.2.2.1),.bool (m0.2.2.2.2.2.2.1),.bool (m0.2.2.2.2.2.2.2.1),.bool (m0.2.2.2.2.2.2.2.2.1),.bool (m0.2.2.2.2.2.2.2.2.2.1),.bool (m0.2.2.2.2.2.2.2.2.2.2.1),.bool (m0.2.2.2.2.2.2.2.2.2.2.2.1),.bool (m0.2.2.2.2.2.2.2.2.2.2.2.2.1),.bool (m0.2.2.2.2.2.2.2.2.2.2.2.2.2.1),.bool (m0.2.2.2.2.2.2.2.2.2.2.2.2.2.2.1),.bool (m0.2.2.2.2.2.2.2.2.2.2.2.2.2.2.2)])]
def J7 (r:Int×B16):List (Nat×Ent):=[(100000,.box 318 [.bool (r.2.1),.bool (r.2.2.1),.bool (r.2.2.2.1),.bool (r.2.2.2.2.1),.bool (r.2.2.2.2.2.1),.bool (r.2.2.2.2.2.2.1),.bool (r.2.2.2.2.2.2.2.1),.bool (r.2.2.2.2.2.2.2.2.1),.bool (r.2.2.2.2.2.2.2.2.2.1),.bool (r.2.2.2.2.2.2.2.2.2.2.1),.bool (r.2.2.2.2.2.2.2.2.2.2.2.1),.bool (r.2.2.2.2.2.2.2.2.2.2.2.2.1),.bool (r.2.2.2.2.2.2.2.2.2.2.2.2.2.1),.bool (r.2.2.2.2.2.2.2.2.2.2.2.2.2.2.1),.bool (r.2.2.2.2.2.2.2.2.2.2.2.2.2.2.2.1),.bool (r.2.2.2.2.2.2.2.2.2.2.2.2.2.2.2.2)])]
def Lw (r:Int×(Bool×Bool×Bool×Bool×Bool×Bool×Bool×Bool×Bool×Bool×Bool×Bool×Bool×Bool×Bool×Bool)):AV:=aI (r.1)
def z50 (r:Int×B16):AS:=⟨[(4,aI r.1),(1,.fn 263 [.ptr 100000 0])],J7 r⟩
theorem Xs {n a0 m0 r}(hF:Ha n a0 m0=some r):ConG E0.P none (CalF E0.P 237 0) [Ag a0,.fn 263 [.ptr 100000 0]] [] (z51 a0 m0) (Lw r) (J7 r):=by
 induction n generalizing a0 m0 r
 case zero=>cases hF
 case succ n ih =>
 unfold Ha at hF
 refine aZ (E:=(E0p 2)) (caps:=[]) _ aX rfl rfl rfl rfl rfl ?_
 repeat' first
  |refine aM ?_;conv=>whnf
  |refine aL hF (fun hF=>?_) fun hF=>?_
  |refine aN ?_
  |refine aO ?_
  |refine bF (Bb 11 hF) [(100000,100000)] [(100000,100000)] _ _ Ov S8 [] (fun a h=>aG (Xp h)) (Ay bM rfl rfl) rfl rfl rfl ⟨⟨rfl,rfl⟩,trivial⟩ (fun a=>⟨rfl,rfl,rfl,rfl,rfl,rfl,rfl,rfl⟩) (fun a hF=>?_)
  |refine bG (Bb 11 hF) [(100000,100000)] [(100000,100000)] _ _ Ov S8 [] (fun a h=>aG (Xp h)) (Ay bM rfl rfl) rfl rfl rfl ⟨⟨rfl,rfl⟩,trivial⟩ (fun a=>⟨rfl,rfl,rfl,rfl,rfl,rfl,rfl,rfl⟩) (fun a hF=>?_)
  |refine GX.o (res:=Lw) (meF:=J7) hF ?_;exact GX.mk (z50 _) (aA []) rfl _ rfl (by repeat' first|exact Sub.nil _|exact Sub.refl _|refine Sub.agg ?_|refine Sub.tup ?_|refine Sub.fn ?_|exact SubL.nil|refine SubL.cons ?_ ?_|refine Sub.sl _ ?_|exact SubE.nil|refine SubE.cons ?_ ?_) [100000] ⟨bA ⟨1,0,_,_,_,_,_,aU rfl,rfl,rfl,rfl,rfl,rfl⟩,trivial⟩ rfl
  |refine bR hF E6 (fun x hF=>?_)
  |refine bF (Bb 24 hF) [(100000,100000)] [(100000,100000)] _ _ J7 Lw [] (fun a h=>aG (ih h)) (Ay aX rfl rfl) rfl rfl rfl ⟨⟨rfl,rfl⟩,trivial⟩ (fun a=>⟨rfl,rfl,rfl,rfl,rfl,rfl,rfl,rfl⟩) (fun a hF=>?_)
  |refine bG (Bb 24 hF) [(100000,100000)] [(100000,100000)] _ _ J7 Lw [] (fun a h=>aG (ih h)) (Ay aX rfl rfl) rfl rfl rfl ⟨⟨rfl,rfl⟩,trivial⟩ (fun a=>⟨rfl,rfl,rfl,rfl,rfl,rfl,rfl,rfl⟩) (fun a hF=>?_)
  |exact ⟨_,hF,aA []⟩
  |refine aR hF (aA []) fun m v hF=>?_
  |refine AndA ?_
  |refine aF ?_
end
noncomputable section
abbrev z0a {n a1 a0f2 a0f1 a0f0}:=jf (Hp n a1 a0f2 a0f1 a0f0) (fun b=>⟨[(1,aI a1),(2,.ptr 2 0),(14,.bool (b))],[(2,.box 359 [.sl 1 (List.map (fun q=>AV.sl 5 (List.map Am q)) (a0f0.fVars)),aI a0f1,aI a0f2.fSource,aI a0f2.fSeq,aI a0f2.fType,aI a0f2.fTime,.sl 3 (a0f2.fValues.map A6),.mapv [(aI 5,.fn 325 [.ref [.fn 324 []]]),(aI 6,.fn 326 [.ref [.fn 324 []]]),(aI 7,.fn 327 []),(aI 8,.fn 328 []),(aI 10,.fn 329 []),(aI 11,.fn 330 []),(aI 12,.fn 331 [])]])]⟩) fun _=>Hp.eq_1 ..
abbrev z0m {n a1 x1 b}:=li (Kl n a1 x1 b) (fun c=>⟨[(3,.ptr 3 0),(4,.ptr 4 0),(6,.row 7034),(14,.sl 5 (x1.map Am)),(15,aI (((x1.map Am).length:Int))),(16,aI c.1)],[(3,.box 146 (Es a1)),(4,.box 144 [aI 0,aI 0,.str (ByteArray.empty)]),(7034,.row 144 3 (c.2.map A6))]⟩) fun _ _=>Kl.eq_2 ..
abbrev z12 {n x9}:=jt (Ht n x9) (fun b=>⟨[(4,.ptr 4 0),(8,.ptr 8 0),(9,aI b)],[(4,.box 144 [aI 0,aI 0,.str (ByteArray.empty)]),(8,.box 144 (Bu x9.1))]⟩) fun _=>Ht.eq_1 ..
abbrev z13 {n a1}:=jt (Hu n a1) (fun b=>⟨[(3,.ptr 3 0),(4,.ptr 4 0),(7,.ptr 7 0)],[(3,.box 146 (Es a1)),(4,.box 144 [aI 0,aI 0,.str (ByteArray.empty)]),(7,.box 37 [aI b.1,aI b.2.1,aI b.2.2.1,aI b.2.2.2.1,.sl 3 (b.2.2.2.2.map A6)])]⟩) fun _=>Hu.eq_1 ..
abbrev z4h {n a1 a0 b c d}:=jt (H7 n a1 a0 b c d) (fun e=>⟨[(0,aI a0),(1,.sl 1 (a1.map aI)),(6,aI d),(7,.bool (true)),(8,.sl 1 (a1.map aI)),(9,aI (((a1.map aI).length:Int))),(10,aI b),(14,aI a0),(22,.bool (e))],[]⟩) fun _=>H7.eq_1 ..
abbrev z4i {n a1 a0 b c d}:=jt (Fl n a1 a0 b c d) (fun e=>⟨[(0,aI a0),(1,.sl 1 (a1.map aI)),(6,aI d),(7,.bool (true)),(8,.sl 1 (a1.map aI)),(9,aI (((a1.map aI).length:Int))),(10,aI b),(14,aI a0),(15,.bool (e))],[]⟩) fun _=>Fl.eq_1 ..
abbrev z4g {n a1 a0 b}:=li (Eo n a1 a0 b) (fun c=>⟨[(0,aI a0),(1,.sl 1 (a1.map aI)),(8,.sl 1 (a1.map aI)),(9,aI (((a1.map aI).length:Int))),(10,aI c)],[]⟩) fun _ _=>Eo.eq_2 ..
abbrev z2l {n}:=jf (Ij n) (fun b=>⟨[(4,.ptr 4 0)],[(4,.box 144 [aI b.1,aI b.2.1,.str (b.2.2)])]⟩) fun _=>Ij.eq_1 ..
abbrev z2k {n}:=jf (Ii n) (fun b=>⟨[(4,.ptr 4 0)],[(4,.box 144 [aI b.1,aI b.2.1,.str (b.2.2)])]⟩) fun _=>Ii.eq_1 ..
abbrev z14 {n b a1 a0f2 a0f1 a0f0 d}:=li (Ku n b a1 a0f2 a0f1 a0f0 d) (fun c=>⟨[(2,.ptr 2 0),(3,.ptr 3 0),(4,.ptr 4 0),(6,.row 7042),(7,.row 7047),(23,.sl 8 (a1.fArgs.map idA)),(24,aI (((a1.fArgs.map idA).length:Int))),(25,aI c.1)],[(2,.box 359 [.sl 1 (List.map (fun q=>AV.sl 5 (List.map Am q)) (a0f0.fVars)),aI a0f1,aI a0f2.fSource,aI a0f2.fSeq,aI a0f2.fType,aI a0f2.fTime,.sl 3 (a0f2.fValues.map A6),.mapv [(aI 5,.fn 325 [.ref [.fn 324 []]]),(aI 6,.fn 326 [.ref [.fn 324 []]]),(aI 7,.fn 327 []),(aI 8,.fn 328 []),(aI 10,.fn 329 []),(aI 11,.fn 330 []),(aI 12,.fn 331 [])]]),(3,.box 146 (Es a1)),(4,.box 144 [aI 0,aI 0,.str (ByteArray.empty)]),(7042,.row 144 3 (c.2.1.map A6)),(7047,.row 3 1 (c.2.2.map aI))]⟩) fun _ _=>Ku.eq_2 ..
attribute [instance] z0a z0m z12 z13 z4h z4i z4g z2l z2k z14
instance zck {n a0}:CI E0 (P7 n a0) false 211 [Ag a0] (fun r=>.sl 1 (r.map aI)):=⟨fun {r} hF=>by
 unfold P7 at hF
 refine cw Tryz.func211 ?_
 repeat' first
  |refine aE hF fun hF=>?_
  |refine aD [7] ?_;conv=>whnf
  |refine aL hF (fun hF=>?_) fun hF=>?_
  |refine aN ?_
  |refine aO ?_
  |refine bF (Bb 9 hF) [(100000,3)] [(100000,3)] _ _ J7 Lw [] (fun a h=>aG (Xs h)) (Ay aX rfl rfl) rfl rfl rfl ⟨⟨rfl,rfl⟩,trivial⟩ (fun a=>⟨rfl,rfl,rfl,rfl,rfl,rfl,rfl,rfl⟩) (fun a hF=>?_)
  |refine bG (Bb 9 hF) [(100000,3)] [(100000,3)] _ _ J7 Lw [] (fun a h=>aG (Xs h)) (Ay aX rfl rfl) rfl rfl rfl ⟨⟨rfl,rfl⟩,trivial⟩ (fun a=>⟨rfl,rfl,rfl,rfl,rfl,rfl,rfl,rfl⟩) (fun a hF=>?_)
  |refine NatX.oS hF rfl (fun hF=>?_) (fun hF=>?_)
  |(cases hF;done)
  |refine aP hF fun l hF=>?_
  |exact ⟨_,hF,aA [(7019,19)]⟩
  |exact ⟨_,hF,aA []⟩
  |refine aR hF ?_ fun m v hF=>?_
  |exact aC (aJ 4 7019 3 1 rfl rfl) (aA [])
  |refine AndA ?_
  |refine aF ?_
  |exact aB hF⟩
theorem z44:Con E0 false 313 [] (.mapv [(aI 5,.fn 325 [.ref [.fn 324 []]]),(aI 6,.fn 326 [.ref [.fn 324 []]]),(aI 7,.fn 327 []),(aI 8,.fn 328 []),(aI 10,.fn 329 []),(aI 11,.fn 330 []),(aI 12,.fn 331 [])]):=by
 refine Con.walk _ cE rfl (Ay cE rfl rfl) rfl (bD rfl) ?_
 repeat' first
  |refine AW.frb0 1 rfl rfl ?_
  |refine AW.into ?_
  |refine aD [2] ?_;conv=>whnf
  |refine UpX.mk _ _ (by first|rfl|kernel_rfl) (by first|rfl|kernel_rfl) (SubM.refl _) ?_
  |exact RetX.mk rfl
instance z61 {n a0f0 a0f1 a0f2 a1}:CI E0 (Kz n a0f0 a0f1 a0f2 a1) false 339 [.agg [.sl 1 (List.map (fun q=>AV.sl 5 (List.map Am q)) (a0f0.fVars)),aI a0f1,aI a0f2.fSource,aI a0f2.fSeq,aI a0f2.fType,aI a0f2.fTime,.sl 3 (a0f2.fValues.map A6),.mapv [(aI 5,.fn 325 [.ref [.fn 324 []]]),(aI 6,.fn 326 [.ref [.fn 324 []]]),(aI 7,.fn 327 []),(aI 8,.fn 328 []),(aI 10,.fn 329 []),(aI 11,.fn 330 []),(aI 12,.fn 331 [])]],aI a1] (fun r=>.sl 5 (r.map Am)):=⟨fun {r} hF=>by
 unfold Kz at hF
 refine cw Tryz.func339 ?_
 repeat' first
  |refine cL hF (fun v hF=>?_) fun hF=>?_
  |refine aE hF fun hF=>?_
  |refine aD [1] ?_;conv=>whnf
  |refine aL hF (fun hF=>?_) fun hF=>?_
  |refine IdxX.o (fun q=>AV.sl 5 (List.map Am q)) hF fun x hF=>?_
  |exact ⟨_,hF,aA []⟩
  |exact aB hF⟩
instance zg2 {n a0 a1}:CI E0 (Jo n a0 a1) true 341 [Am a0,aI a1] (fun r=>.tup [A6 r.1,aI r.2]):=by unfold Jo;exact aT [] Tryz.func341
instance z6s {n a0f0 a0f1 a0f2 a1}:CI E0 (Ra n a0f0 a0f1 a0f2 a1) true 340 [.agg [.sl 1 (List.map (fun q=>AV.sl 5 (List.map Am q)) (a0f0.fVars)),aI a0f1,aI a0f2.fSource,aI a0f2.fSeq,aI a0f2.fType,aI a0f2.fTime,.sl 3 (a0f2.fValues.map A6),.mapv [(aI 5,.fn 325 [.ref [.fn 324 []]]),(aI 6,.fn 326 [.ref [.fn 324 []]]),(aI 7,.fn 327 []),(aI 8,.fn 328 []),(aI 10,.fn 329 []),(aI 11,.fn 330 []),(aI 12,.fn 331 [])]],Ag a1] (fun r=>.tup [A6 r.1,aI r.2]):=⟨fun {r} hF=>by
 unfold Ra at hF
 refine cw Tryz.func340 ?_
 repeat' first
  |refine aM ?_;conv=>whnf
  |refine aL hF (fun hF=>?_) fun hF=>?_
  |refine aW hF fun a hF=>?_
  |refine B9.I hF (fun a hF=>?_) rfl rfl fun _=>bA rfl
  |refine aK hF fun x hF=>?_
  |refine aP hF fun l hF=>?_
  |exact ⟨_,hF,aA [(7034,34)]⟩
  |refine aR hF ?_ fun m v hF=>?_
  |exact aC (aJ 6 7034 144 3 rfl rfl) (aA [])
  |exact aB hF⟩
instance z70 {n a0f0 a0f1 a0f2 a1}:CI E0 (Lc n a0f0 a0f1 a0f2 a1) true 332 [.agg [.sl 1 (List.map (fun q=>AV.sl 5 (List.map Am q)) (a0f0.fVars)),aI a0f1,aI a0f2.fSource,aI a0f2.fSeq,aI a0f2.fType,aI a0f2.fTime,.sl 3 (a0f2.fValues.map A6),.mapv [(aI 5,.fn 325 [.ref [.fn 324 []]]),(aI 6,.fn 326 [.ref [.fn 324 []]]),(aI 7,.fn 327 []),(aI 8,.fn 328 []),(aI 10,.fn 329 []),(aI 11,.fn 330 []),(aI 12,.fn 331 [])]],Ag a1] (fun r=>.tup [A6 r.1,aI r.2]):=by unfold Lc;exact aT [10,17] Tryz.func332
instance zdk {n a0 a1}:CI E0 (Sh n a0 a1) true 333 [aI a0,.sl 1 (a1.map aI)] aI:=by unfold Sh;exact aT [6,7,8,11,12,15] Tryz.func333
instance zfy {n a0}:CI E0 (Sn n a0) true 315 [.bool (a0)] A6:=by unfold Sn;exact aT [] Tryz.func315
instance zho {n a0}:CI E0 (D2 n a0) true 286 [.bool (a0)] A6:=by unfold D2;exact aT [] Tryz.func286
instance z96 {n a0}:CI E0 (Oo n a0) true 324 [aI a0] A6:=by unfold Oo;exact aT [] Tryz.func324
instance z95 {n a0 a1}:CI E0 (Om n a0 a1) true 325 [aI a0,aI a1,.ref [.fn 324 []]] A6:=by unfold Om;exact aT [] Tryz.func325
instance z94 {n a0 a1}:CI E0 (Ol n a0 a1) true 326 [aI a0,aI a1,.ref [.fn 324 []]] A6:=by unfold Ol;exact aT [] Tryz.func326
instance z93 {n a0 a1}:CI E0 (Ok n a0 a1) true 327 [aI a0,aI a1] A6:=by unfold Ok;exact aT [] Tryz.func327
instance z92 {n a0 a1}:CI E0 (Oj n a0 a1) true 328 [aI a0,aI a1] A6:=by unfold Oj;exact aT [] Tryz.func328
instance z91 {n a0 a1}:CI E0 (Oi n a0 a1) true 329 [aI a0,aI a1] A6:=by unfold Oi;exact aT [1] Tryz.func329
instance z90 {n a0 a1}:CI E0 (Oh n a0 a1) true 330 [aI a0,aI a1] A6:=by unfold Oh;exact aT [1] Tryz.func330
instance z8z {n a0 a1}:CI E0 (Iz n a0 a1) true 331 [aI a0,aI a1] A6:=by unfold Iz;exact aT [] Tryz.func331
def z2s (r:A4×Int):AV:=.tup [.agg [aI (r.1.fKind),aI (r.1.fNum),.str (r.1.fText)],aI (r.2)]
end
noncomputable section
abbrev z5r {n}:=jf (Jh n) (fun b=>⟨[(8,.bool (b))],[]⟩) fun _=>Jh.eq_1 ..
abbrev z3l {n}:=jf (Iv n) (fun b=>⟨[(2,.bool (b))],[]⟩) fun _=>Iv.eq_1 ..
abbrev z0y {n}:=jf (Hs n) (fun b=>⟨[(3,.bool (b))],[]⟩) fun _=>Hs.eq_1 ..
abbrev z0f {n b a0 c}:=li (Kh n b a0 c) (fun d=>⟨[(0,.sl 11 (a0.map B4)),(1,.fn 234 [.ref (Cj b)]),(7,aI (((a0.map B4).length:Int))),(8,aI d)],[]⟩) fun _ _=>Kh.eq_2 ..
abbrev z1t {n a1 a0 b}:=li (L4 n a1 a0 b) (fun c=>⟨[(2,.ptr 2 0),(3,.ptr 3 0),(33,.sl 2 (a1.fLimits.map Bi)),(34,aI (((a1.fLimits.map Bi).length:Int))),(35,aI c)],[(2,.box 111 [.sl 2 (a0.ftypes.map Ap),aI a0.fa.fVars,aI a0.fa.fScopes,.sl 1 (a0.fa.fStates.map Al),.sl 17 (a0.fa.fEdges.map A5)]),(3,.box 149 (Cj a1))]⟩) fun _ _=>L4.eq_2 ..
abbrev z1u {n a1 a0 b}:=li (L5 n a1 a0 b) (fun c=>⟨[(2,.ptr 2 0),(3,.ptr 3 0),(22,.sl 8 (a1.fChecks.map idA)),(23,aI (((a1.fChecks.map idA).length:Int))),(24,aI c)],[(2,.box 111 [.sl 2 (a0.ftypes.map Ap),aI a0.fa.fVars,aI a0.fa.fScopes,.sl 1 (a0.fa.fStates.map Al),.sl 17 (a0.fa.fEdges.map A5)]),(3,.box 149 (Cj a1))]⟩) fun _ _=>L5.eq_2 ..
abbrev z1v {n a1 a0}:=jf (Gt n a1 a0) (fun b=>⟨[(2,.ptr 2 0),(3,.ptr 3 0),(20,.bool (b))],[(2,.box 111 [.sl 2 (a0.ftypes.map Ap),aI a0.fa.fVars,aI a0.fa.fScopes,.sl 1 (a0.fa.fStates.map Al),.sl 17 (a0.fa.fEdges.map A5)]),(3,.box 149 (Cj a1))]⟩) fun _=>Gt.eq_1 ..
abbrev z1j {n a0 b}:=li (Gq n a0 b) (fun c=>⟨[(1,.fn 106 []),(2,.ptr 2 0),(5,.row 7027),(10,.sl 17 (a0.fa.fEdges.map A5)),(11,aI (((a0.fa.fEdges.map A5).length:Int))),(12,aI c.1)],[(2,.box 111 [.sl 2 (a0.ftypes.map Ap),aI a0.fa.fVars,aI a0.fa.fScopes,.sl 1 (a0.fa.fStates.map Al),.sl 17 (a0.fa.fEdges.map A5)]),(7027,.row 149 17 (c.2.map A5))]⟩) fun _ _=>Gq.eq_2 ..
abbrev z1r {n b d}:=li (Gs n b d) (fun c=>⟨[(3,.sl 17 (b.1.map A5)),(4,.row 10),(5,.bool (c.1)),(13,.sl 17 (b.1.map A5)),(14,aI (((b.1.map A5).length:Int))),(15,aI c.2.1)],[(10,.mp (List.map (encM aI AV.bool) (c.2.2)))]⟩) fun _ _=>Gs.eq_2 ..
abbrev z1s {n c}:=li (I9 n c) (fun b=>⟨[(3,.sl 17 (b.1.map A5)),(4,.row 10),(5,.bool (b.2.1))],[(10,.mp (List.map (encM aI AV.bool) (b.2.2)))]⟩) fun _ _=>I9.eq_2 ..
abbrev z0e {n b a0 c}:=li (Kg n b a0 c) (fun d=>⟨[(0,.sl 11 (a0.map B4)),(1,.fn 176 [.ref [aI b]]),(7,aI (((a0.map B4).length:Int))),(8,aI d)],[]⟩) fun _ _=>Kg.eq_2 ..
attribute [instance] z5r z3l z0y z0f z1t z1u z1v z1j z1r z1s z0e
theorem z0n {n a0f0 a0f1 a0f2 a1 r}(hF:Fb n a0f0 a0f1 a0f2 a1=some r):Con E0 true 314 [.agg [.sl 1 (List.map (fun q=>AV.sl 5 (List.map Am q)) (a0f0.fVars)),aI a0f1,aI a0f2.fSource,aI a0f2.fSeq,aI a0f2.fType,aI a0f2.fTime,.sl 3 (a0f2.fValues.map A6),.mapv [(aI 5,.fn 325 [.ref [.fn 324 []]]),(aI 6,.fn 326 [.ref [.fn 324 []]]),(aI 7,.fn 327 []),(aI 8,.fn 328 []),(aI 10,.fn 329 []),(aI 11,.fn 330 []),(aI 12,.fn 331 [])]],Ag a1] (.tup [A6 r.1,aI r.2]):=by
 induction n generalizing a0f0 a0f1 a0f2 a1 r
 case zero=>cases hF
 case succ n ih =>
 unfold Fb at hF
 refine cw Tryz.func314 ?_
 repeat' first
  |refine aM ?_;conv=>whnf
  |refine aL hF (fun hF=>?_) fun hF=>?_
  |refine aW hF fun a hF=>?_
  |refine B9.I hF (fun a hF=>?_) rfl rfl fun _=>bA rfl
  |refine NatX.o hF (fun m hF=>?_)
  |refine EltX.o A6 hF (fun x hF=>?_)
  |refine OpX.lkc rfl rfl rfl rfl rfl rfl rfl rfl rfl rfl (by first|rfl|kernel_rfl) ?_
  |refine LkC.cons hF (fun hF=>?_) (fun hF=>?_)
  |(cases hF;done)
  |refine LtX.o hF (fun hF=>?_)
  |refine bR hF E6 (fun x hF=>?_)
  |refine Ad.o hF z2s (fun a h=>ih h) (fun a hF=>?_)
  |refine aP hF fun l hF=>?_
  |exact ⟨_,hF,aA [(7042,42),(7047,47)]⟩
  |refine aR hF ?_ fun m v hF=>?_
  |exact aC (aJ 6 7042 144 3 rfl rfl) (aC (aJ 7 7047 3 1 rfl rfl) (aA []))
  |refine AndA ?_
  |refine aF ?_
  |exact aB hF
instance z71 {n a0f0 a0f1 a0f2 a1}:CI E0 (Fb n a0f0 a0f1 a0f2 a1) true 314 [.agg [.sl 1 (List.map (fun q=>AV.sl 5 (List.map Am q)) (a0f0.fVars)),aI a0f1,aI a0f2.fSource,aI a0f2.fSeq,aI a0f2.fType,aI a0f2.fTime,.sl 3 (a0f2.fValues.map A6),.mapv [(aI 5,.fn 325 [.ref [.fn 324 []]]),(aI 6,.fn 326 [.ref [.fn 324 []]]),(aI 7,.fn 327 []),(aI 8,.fn 328 []),(aI 10,.fn 329 []),(aI 11,.fn 330 []),(aI 12,.fn 331 [])]],Ag a1] (fun r=>.tup [A6 r.1,aI r.2]):=⟨z0n⟩
instance zhq {n a0 a1 a2 a3}:CI E0 (Sr n a0 a1 a2 a3) true 285 [Ag a0,z8o a1,aI a2,Am a3] (fun r=>.tup [A6 r.1,aI r.2]):=⟨fun {r} hF=>by
 unfold Sr at hF
 refine cw Tryz.func285 ?_
 repeat' first
  |refine aM ?_;conv=>whnf
  |refine aL hF (fun hF=>?_) fun hF=>?_
  |refine aW hF fun a hF=>?_
  |refine Ad.mk _ _ z44 ?_
  |refine AndA ?_
  |exact aB hF⟩
instance zg4 {n a0 a1 a2 a3}:CI E0 (Pn n a0 a1 a2 a3) true 243 [Ag a0,z8o a1,aI a2,Am a3] (fun r=>.bool (r)):=by unfold Pn;exact aT [2] Tryz.func243
instance zay {n a0}:CI E0 (Lz n a0) true 233 [Ag a0] (fun r=>.bool (r)):=⟨fun {r} hF=>by
 unfold Lz at hF
 refine cw Tryz.func233 ?_
 repeat' first
  |refine cL hF (fun v hF=>?_) fun hF=>?_
  |refine aE hF fun hF=>?_
  |refine aD [1] ?_;conv=>whnf
  |refine aL hF (fun hF=>?_) fun hF=>?_
  |refine aN ?_
  |refine aO ?_
  |refine aW hF fun a hF=>?_
  |refine Ad.S hF fun a hF=>?_
  |exact ⟨_,hF,aA []⟩
  |refine AndA ?_
  |refine aF ?_
  |exact aB hF⟩
instance z6z {n a0 a1}:CI E0 (O5 n a0 a1) true 234 [B4 a0,.ref (Cj a1)] (fun r=>.bool (r)):=by unfold O5;exact aT [1] Tryz.func234
instance z6o {n a0 b}:CI E0 (R8 n a0 b) true 235 [.sl 11 (a0.map B4),.fn 234 [.ref (Cj b)]] aI:=by unfold R8;exact aT [] cF
instance z5e {n a0 b}:CI E0 (Nd n a0 b) true 175 [.sl 11 (a0.map B4),.fn 234 [.ref (Cj b)]] (fun r=>.bool (r)):=by unfold Nd;exact aT [] cG
instance z7r {n a0 a1}:CI E0 (Ff n a0 a1) true 174 [.agg [.sl 2 (a0.ftypes.map Ap),aI a0.fa.fVars,aI a0.fa.fScopes,.sl 1 (a0.fa.fStates.map Al),.sl 17 (a0.fa.fEdges.map A5)],A5 a1] (fun r=>.bool (r)):=⟨fun {r} hF=>by
 unfold Ff at hF
 refine cw Tryz.func174 ?_
 repeat' first
  |refine cL hF (fun v hF=>?_) fun hF=>?_
  |refine aE hF fun hF=>?_
  |refine aD [1] ?_;conv=>whnf
  |refine aL hF (fun hF=>?_) fun hF=>?_
  |refine aN ?_
  |refine aO ?_
  |refine aK hF fun x hF=>?_
  |refine B9.I hF (fun a hF=>?_) rfl rfl fun _=>bA rfl
  |refine aW hF fun a hF=>?_
  |exact ⟨_,hF,aA []⟩
  |refine aR hF (aA []) fun m v hF=>?_
  |refine bR hF E6 (fun x hF=>?_)
  |refine AndA ?_
  |refine aF ?_
  |exact aB hF⟩
instance z6y {n a0}:CI E0 (Rj n a0) true 106 [A5 a0] (fun r=>.bool (r)):=by unfold Rj;exact aT [] Tryz.func106
instance z7f {n a0}:CI E0 (O8 n a0) false 105 [.agg [.sl 2 (a0.ftypes.map Ap),aI a0.fa.fVars,aI a0.fa.fScopes,.sl 1 (a0.fa.fStates.map Al),.sl 17 (a0.fa.fEdges.map A5)],.fn 106 []] (fun r=>.sl 17 (r.map A5)):=⟨fun {r} hF=>by
 unfold O8 at hF
 refine cw bC ?_
 repeat' first
  |refine aE hF fun hF=>?_
  |refine aD [5] ?_;conv=>whnf
  |refine aL hF (fun hF=>?_) fun hF=>?_
  |refine aN ?_
  |refine aO ?_
  |refine aK hF fun x hF=>?_
  |refine aW hF fun a hF=>?_
  |refine aP hF fun l hF=>?_
  |exact ⟨_,hF,aA [(7027,27)]⟩
  |exact ⟨_,hF,aA []⟩
  |refine aR hF ?_ fun m v hF=>?_
  |exact aC (aJ 5 7027 149 17 rfl rfl) (aA [])
  |refine AndA ?_
  |refine aF ?_
  |exact aB hF⟩
instance z7q {n a0}:CI E0 (Dd n a0) false 50 [.agg [.sl 2 (a0.ftypes.map Ap),aI a0.fa.fVars,aI a0.fa.fScopes,.sl 1 (a0.fa.fStates.map Al),.sl 17 (a0.fa.fEdges.map A5)]] (fun r=>.mapv (List.map (encM aI AV.bool) (r))):=⟨fun {r} hF=>by
 unfold Dd at hF
 refine cw Tryz.func50 ?_
 repeat' first
  |refine aE hF fun hF=>?_
  |refine aD [9] ?_;conv=>whnf
  |refine aL hF (fun hF=>?_) fun hF=>?_
  |refine aN ?_
  |refine aO ?_
  |refine aW hF fun a hF=>?_
  |refine UpX.o aI AV.bool hF (by first|rfl|kernel_rfl) Ce (.refl _) (fun l hF=>?_)
  |refine OpX.mde aI AV.bool hF Ce rfl rfl rfl rfl rfl rfl rfl rfl rfl (by first|rfl|kernel_rfl) rfl (fun l hF=>?_)
  |exact ⟨_,hF,aA []⟩
  |refine aK hF fun x hF=>?_
  |refine LkX.o aI AV.bool hF (by first|rfl|kernel_rfl) Ce (.refl _) (fun v b hF=>?_)
  |refine aR hF (aA []) fun m v hF=>?_
  |refine AndA ?_
  |refine aF ?_
  |exact aB hF⟩
instance z5u {n a0 a1}:CI E0 (Qv n a0 a1) true 176 [B4 a0,.ref [aI a1]] (fun r=>.bool (r)):=by unfold Qv;exact aT [] Tryz.func176
instance z6n {n a0 b}:CI E0 (R7 n a0 b) true 235 [.sl 11 (a0.map B4),.fn 176 [.ref [aI b]]] aI:=by unfold R7;exact aT [] cF
end
noncomputable section
abbrev z07 {n a0 c}:=li (Gg n a0 c) (fun b=>⟨[(1,.fn 107 [.ptr 100000 0,.ptr 100001 0]),(2,.ptr 2 0),(5,.row 7027),(10,.sl 17 (a0.fa.fEdges.map A5)),(11,aI (((a0.fa.fEdges.map A5).length:Int))),(12,aI b.1)],[(100000,.box 111 [.sl 2 (b.2.1.map Ap),aI b.2.2.1,aI b.2.2.2.1,.sl 1 (b.2.2.2.2.1.map Al),.sl 17 (b.2.2.2.2.2.1.map A5)]),(100001,.box 3 [aI b.2.2.2.2.2.2.1]),(2,.box 111 [.sl 2 (a0.ftypes.map Ap),aI a0.fa.fVars,aI a0.fa.fScopes,.sl 1 (a0.fa.fStates.map Al),.sl 17 (a0.fa.fEdges.map A5)]),(7027,.row 149 17 (b.2.2.2.2.2.2.2.map A5))]⟩) fun _ _=>Gg.eq_2 ..
abbrev z0x {n b m0 a0 d}:=li (Gk n b m0 a0 d) (fun c=>⟨[(0,aI a0),(1,.ptr 100000 0),(2,.ptr 100001 0),(3,.ptr 100002 0),(4,.ptr 100003 0),(10,.sl 17 (m0.map A5)),(11,aI (((m0.map A5).length:Int))),(12,aI c.1)],[(100000,.box 24 [.sl 17 (c.2.1.map A5)]),(100001,.box 113 [.row 200001]),(100002,.box 3 [aI c.2.2.1]),(100003,.box 115 [.fn 109 [.ptr 100000 0,.ptr 100001 0,.ptr 100002 0,.ptr 100003 0]]),(200001,.mp (List.map (encM aI AV.bool) (c.2.2.2)))]⟩) fun _ _=>Gk.eq_2 ..
abbrev z0v {n a1 a0 b f c d}:=li (Ks n a1 a0 b f c d) (fun e=>⟨[(2,.ptr 2 0),(5,.row 7045),(8,.ptr 8 0),(11,.sl 1 (a1.map aI)),(12,aI (((a1.map aI).length:Int))),(13,aI b.1),(27,.sl 2 (c.fFields.map Cu)),(28,aI (((c.fFields.map Cu).length:Int))),(29,aI e.1)],[(2,.box 111 [.sl 2 (a0.ftypes.map Ap),aI a0.fa.fVars,aI a0.fa.fScopes,.sl 1 (a0.fa.fStates.map Al),.sl 17 (a0.fa.fEdges.map A5)]),(8,.box 37 [aI 0,aI b.1,aI f,aI b.1,.row 7039]),(7045,.row 37 5 (b.2.map Am)),(7039,.row 144 3 (e.2.map A6))]⟩) fun _ _=>Ks.eq_2 ..
abbrev z0w {n a1 a0 b}:=li (Kt n a1 a0 b) (fun c=>⟨[(2,.ptr 2 0),(5,.row 7045),(11,.sl 1 (a1.map aI)),(12,aI (((a1.map aI).length:Int))),(13,aI c.1)],[(2,.box 111 [.sl 2 (a0.ftypes.map Ap),aI a0.fa.fVars,aI a0.fa.fScopes,.sl 1 (a0.fa.fStates.map Al),.sl 17 (a0.fa.fEdges.map A5)]),(7045,.row 37 5 (c.2.map Am))]⟩) fun _ _=>Kt.eq_2 ..
abbrev z4f {n a1 a0 x3 b}:=li (H6 n a1 a0 x3 b) (fun c=>⟨[(6,.ptr 6 0),(11,.ptr 11 0),(12,.mapv (List.map (encM aI AV.bool) (x3))),(39,aI (((a1.fStates.map Al).length:Int))),(40,aI c)],[(6,.box 39 [aI 0,aI 0,.nils,aI 0]),(11,.box 111 [.sl 2 (a0.map Ap),aI a1.fVars,aI a1.fScopes,.sl 1 (a1.fStates.map Al),.sl 17 (a1.fEdges.map A5)])]⟩) fun _ _=>H6.eq_2 ..
abbrev z4o {n a0 b}:=li (J8 n a0 b) (fun c=>⟨[(0,.sl 5 (a0.map Am)),(3,.row 9),(10,.sl 5 (a0.map Am)),(11,aI (((a0.map Am).length:Int))),(12,aI c.1)],[(9,.mp (List.map (encM J6 AV.bool) (c.2)))]⟩) fun _ _=>J8.eq_2 ..
attribute [instance] z07 z0x z0v z0w z4f z4o
instance z5d {n a0 b}:CI E0 (Qq n a0 b) true 175 [.sl 11 (a0.map B4),.fn 176 [.ref [aI b]]] (fun r=>.bool (r)):=by unfold Qq;exact aT [] cG
instance z6q {n a0 a1 a2}:CI E0 (Ia n a0 a1 a2) true 108 [.agg [.sl 2 (a0.ftypes.map Ap),aI a0.fa.fVars,aI a0.fa.fScopes,.sl 1 (a0.fa.fStates.map Al),.sl 17 (a0.fa.fEdges.map A5)],aI a1,aI a2] (fun r=>.bool (r)):=⟨fun {r} hF=>by
 unfold Ia at hF
 refine cw Tryz.func108 ?_
 repeat' first
  |refine aM ?_;conv=>whnf
  |refine aL hF (fun hF=>?_) fun hF=>?_
  |refine aN ?_
  |refine aO ?_
  |refine aK hF fun x hF=>?_
  |refine B9.I hF (fun a hF=>?_) rfl rfl fun _=>bA rfl
  |refine AndA ?_
  |refine aF ?_
  |exact aB hF⟩
def z2u (a0:Ac)(m0:Aq)(m1:Int):List (Nat×Ent):=[(100000,.box 111 [.sl 2 (m0.ftypes.map Ap),aI m0.fa.fVars,aI m0.fa.fScopes,.sl 1 (m0.fa.fStates.map Al),.sl 17 (m0.fa.fEdges.map A5)]),(100001,.box 3 [aI m1])]
def O0 (r:Bool×Aq×Int):List (Nat×Ent):=[(100000,.box 111 [.sl 2 (r.2.1.ftypes.map Ap),aI r.2.1.fa.fVars,aI r.2.1.fa.fScopes,.sl 1 (r.2.1.fa.fStates.map Al),.sl 17 (r.2.1.fa.fEdges.map A5)]),(100001,.box 3 [aI r.2.2])]
def Rc (r:Bool×Aq×Int):AV:=.bool (r.1)
def z2r (r:Bool×Aq×Int):AS:=⟨[(4,.bool (r.1)),(1,.ptr 100000 0),(2,.ptr 100001 0)],O0 r⟩
theorem Xi {n a0 m0 m1 r}(hF:Lb n a0 m0 m1=some r):ConG E0.P none (CalF E0.P 107 0) [A5 a0,.ptr 100000 0,.ptr 100001 0] [] (z2u a0 m0 m1) (Rc r) (O0 r):=by
 unfold Lb at hF
 refine aZ (E:=(E0p 3)) (caps:=[]) _ bN rfl rfl rfl rfl rfl ?_
 repeat' first
  |refine aM ?_;conv=>whnf
  |refine aL hF (fun hF=>?_) fun hF=>?_
  |refine aN ?_
  |refine aO ?_
  |refine aW hF fun a hF=>?_
  |exact GX.A (res:=Rc) (meF:=O0) hF z2r
  |refine AndA ?_
  |refine aF ?_
def z0t (a0:Aq)(m0:Aq)(m1:Int):List (Nat×Ent):=[(100000,.box 111 [.sl 2 (m0.ftypes.map Ap),aI m0.fa.fVars,aI m0.fa.fScopes,.sl 1 (m0.fa.fStates.map Al),.sl 17 (m0.fa.fEdges.map A5)]),(100001,.box 3 [aI m1])]
def Nc (r:(List Ac)×Aq×Int):List (Nat×Ent):=[(100000,.box 111 [.sl 2 (r.2.1.ftypes.map Ap),aI r.2.1.fa.fVars,aI r.2.1.fa.fScopes,.sl 1 (r.2.1.fa.fStates.map Al),.sl 17 (r.2.1.fa.fEdges.map A5)]),(100001,.box 3 [aI r.2.2])]
def Qo (r:(List Ac)×Aq×Int):AV:=.sl 17 (r.1.map A5)
def z0r (r:(List Ac)×Aq×Int):AS:=⟨[(4,.sl 17 (r.1.map A5)),(1,.fn 107 [.ptr 100000 0,.ptr 100001 0])],Nc r⟩
theorem Xd {n a0 m0 m1 r}(hF:Nf n a0 m0 m1=some r):ConG E0.P none (CalF E0.P 105 0) [.agg [.sl 2 (a0.ftypes.map Ap),aI a0.fa.fVars,aI a0.fa.fScopes,.sl 1 (a0.fa.fStates.map Al),.sl 17 (a0.fa.fEdges.map A5)],.fn 107 [.ptr 100000 0,.ptr 100001 0]] [] (z0t a0 m0 m1) (Qo r) (Nc r):=by
 unfold Nf at hF
 refine aZ (E:=(E0p 2)) (caps:=[]) _ bC rfl rfl rfl rfl rfl ?_
 repeat' first
  |refine aE hF fun hF=>?_
  |refine bB hF 7027 rfl (fun hF=>?_)
  |refine aD [8] ?_;conv=>whnf
  |refine aL hF (fun hF=>?_) fun hF=>?_
  |refine aN ?_
  |refine aO ?_
  |refine GX.o (res:=Qo) (meF:=Nc) hF ?_;exact GX.mk (z0r _) (aA []) rfl _ rfl (by repeat' first|exact Sub.nil _|exact Sub.refl _|refine Sub.agg ?_|refine Sub.tup ?_|refine Sub.fn ?_|exact SubL.nil|refine SubL.cons ?_ ?_|refine Sub.sl _ ?_|exact SubE.nil|refine SubE.cons ?_ ?_) [100000,100001] ⟨bA ⟨1,0,_,_,_,_,_,aU rfl,rfl,rfl,rfl,rfl,rfl⟩,⟨bA ⟨1,1,_,_,_,_,_,aU rfl,rfl,rfl,rfl,rfl,rfl⟩,trivial⟩⟩ rfl
  |refine aK hF fun x hF=>?_
  |refine aW hF fun a hF=>?_
  |refine bF (Bb 22 hF) [(100000,100000),(100001,100001)] [(100000,100000),(100001,100001)] _ _ O0 Rc [] (fun a h=>aG (Xi h)) (Ay bN rfl rfl) rfl rfl rfl ⟨⟨rfl,rfl⟩,⟨⟨rfl,rfl⟩,trivial⟩⟩ (fun a=>⟨rfl,rfl,rfl,rfl,rfl,rfl,rfl,rfl⟩) (fun a hF=>?_)
  |refine bG (Bb 22 hF) [(100000,100000),(100001,100001)] [(100000,100000),(100001,100001)] _ _ O0 Rc [] (fun a h=>aG (Xi h)) (Ay bN rfl rfl) rfl rfl rfl ⟨⟨rfl,rfl⟩,⟨⟨rfl,rfl⟩,trivial⟩⟩ (fun a=>⟨rfl,rfl,rfl,rfl,rfl,rfl,rfl,rfl⟩) (fun a hF=>?_)
  |refine aP hF fun l hF=>?_
  |exact ⟨_,hF,aA [(7027,27)]⟩
  |exact ⟨_,hF,aA []⟩
  |refine aR hF ?_ fun m v hF=>?_
  |exact aC (aJ 5 7027 149 17 rfl rfl) (aA [])
  |refine AndA ?_
  |refine aF ?_
def z2t (a0:Int)(m0:(List Ac))(m1:(List (Int×Bool)))(m2:Int):List (Nat×Ent):=[(100000,.box 24 [.sl 17 (m0.map A5)]),(100001,.box 113 [.row 200001]),(200001,.mp (List.map (encM aI AV.bool) (m1))),(100002,.box 3 [aI m2]),(100003,.box 115 [.fn 109 [.ptr 100000 0,.ptr 100001 0,.ptr 100002 0,.ptr 100003 0]])]
def F8 (r:(List Int)×(List Ac)×(List (Int×Bool))×Int):List (Nat×Ent):=[(100000,.box 24 [.sl 17 (r.2.1.map A5)]),(100001,.box 113 [.row 250001]),(250001,.mp (List.map (encM aI AV.bool) (r.2.2.1))),(100002,.box 3 [aI r.2.2.2]),(100003,.box 115 [.fn 109 [.ptr 100000 0,.ptr 100001 0,.ptr 100002 0,.ptr 100003 0]])]
def Gu (r:(List Int)×(List Ac)×(List (Int×Bool))×Int):AV:=nlA 1 (r.1.map aI)
def Ua (r:(List Int)×(List Ac)×(List (Int×Bool))×Int):AS:=⟨[(6,nlA 1 (r.1.map aI)),(1,.ptr 100000 0),(2,.ptr 100001 0),(3,.ptr 100002 0),(4,.ptr 100003 0)],F8 r⟩
theorem Xh {n a0 m0 m1 m2 r}(hF:Ih n a0 m0 m1 m2=some r):ConG E0.P none (CalF E0.P 109 0) [aI a0,.ptr 100000 0,.ptr 100001 0,.ptr 100002 0,.ptr 100003 0] [] (z2t a0 m0 m1 m2) (Gu r) (F8 r):=by
 induction n generalizing a0 m0 m1 m2 r
 case zero=>cases hF
 case succ n ih =>
 unfold Ih at hF
 refine aZ (E:=(E0q 5)) (caps:=[]) _ aY rfl rfl rfl rfl rfl ?_
 repeat' first
  |refine aE hF fun hF=>?_
  |refine aD [10] ?_;conv=>whnf
  |refine aL hF (fun hF=>?_) fun hF=>?_
  |refine aN ?_
  |refine aO ?_
  |exact GX.A (res:=Gu) (meF:=F8) hF Ua (h1:=aA [(250001,200001)])
  |refine aK hF fun x hF=>?_
  |exact ⟨_,hF,aA []⟩
  |refine LkX.o aI AV.bool hF (by first|rfl|kernel_rfl) Ce (.refl _) (fun v b hF=>?_)
  |refine OpX.bldR aI hF rfl rfl rfl rfl rfl rfl rfl rfl rfl rfl rfl rfl rfl rfl rfl rfl (by first|exact SubR.refl _|(repeat' first|exact SubR.nil|refine SubR.cons ?_ ?_|exact SubL.nil|refine SubL.cons ?_ ?_|exact Sub.refl _|exact Sub.nil _)) rfl (fun l hF=>?_)
  |refine OpX.bld aI hF rfl rfl rfl rfl rfl rfl rfl rfl rfl rfl rfl rfl rfl rfl rfl rfl (fun l hF=>?_)
  |refine GX.o (res:=Gu) (meF:=F8) hF ?_;exact GX.mk (Ua _) (aC (LeX.frzAll 32 3 1 _ rfl) (aA [(250001,200001)])) rfl _ rfl (by repeat' first|exact Sub.nil _|exact Sub.refl _|refine Sub.agg ?_|refine Sub.tup ?_|refine Sub.fn ?_|exact SubL.nil|refine SubL.cons ?_ ?_|refine Sub.sl _ ?_|exact SubE.nil|refine SubE.cons ?_ ?_) [] trivial rfl
  |refine zmd hF (fun a t e hF=>?_);subst e
  |refine UpX.o aI AV.bool hF (by first|rfl|kernel_rfl) Ce (.refl _) (fun l hF=>?_)
  |refine bF (Bb 39 hF) [(100000,100000),(100001,100001),(100002,100002),(100003,100003),(200001,200001)] [(100000,100000),(100001,100001),(250001,40000002),(100002,100002),(100003,100003)] _ _ F8 Gu [200001] (fun a h=>aG (ih h)) (Ay aY rfl rfl) rfl rfl rfl ⟨⟨rfl,rfl⟩,⟨⟨rfl,rfl⟩,⟨⟨rfl,rfl⟩,⟨⟨rfl,rfl⟩,⟨⟨rfl,rfl⟩,trivial⟩⟩⟩⟩⟩ (fun a=>⟨rfl,rfl,rfl,rfl,rfl,rfl,rfl,Tl _ _ _⟩) (fun a hF=>?_);rcases a with ⟨_|⟨y,ys⟩,a⟩<;>(try simp only [bS,bO,List.isEmpty_nil,List.isEmpty_cons,aV,aS,Ab,Ae,K1] at hF)
  |refine bG (Bb 39 hF) [(100000,100000),(100001,100001),(100002,100002),(100003,100003),(200001,200001)] [(100000,100000),(100001,100001),(250001,40000002),(100002,100002),(100003,100003)] _ _ F8 Gu [200001] (fun a h=>aG (ih h)) (Ay aY rfl rfl) rfl rfl rfl ⟨⟨rfl,rfl⟩,⟨⟨rfl,rfl⟩,⟨⟨rfl,rfl⟩,⟨⟨rfl,rfl⟩,⟨⟨rfl,rfl⟩,trivial⟩⟩⟩⟩⟩ (fun a=>⟨rfl,rfl,rfl,rfl,rfl,rfl,rfl,Tl _ _ _⟩) (fun a hF=>?_);rcases a with ⟨_|⟨y,ys⟩,a⟩<;>(try simp only [bS,bO,List.isEmpty_nil,List.isEmpty_cons,aV,aS,Ab,Ae,K1] at hF)
  |refine cH (sz:=1) (l:=[]) (by first|exact bD rfl|exact bA rfl) rfl rfl rfl rfl rfl rfl rfl rfl ?_
  |refine cH (sz:=1) (l:=_::_) (by first|exact bD rfl|exact bA rfl) rfl rfl rfl rfl rfl rfl rfl rfl ?_
  |refine aP hF fun l hF=>?_
  |refine GX.o (res:=Gu) (meF:=F8) hF ?_;exact GX.mk (Ua _) (aC (LeX.frzAll 46 3 1 _ rfl) (aA [(250001,40000002)])) rfl _ rfl (by repeat' first|exact Sub.nil _|exact Sub.refl _|refine Sub.agg ?_|refine Sub.tup ?_|refine Sub.fn ?_|exact SubL.nil|refine SubL.cons ?_ ?_|refine Sub.sl _ ?_|exact SubE.nil|refine SubE.cons ?_ ?_) [] trivial rfl
  |exact ⟨_,hF,aA [(200001,40000002)]⟩
  |refine aR hF (aA []) fun m v hF=>?_
  |refine AndA ?_
  |refine aF ?_
instance z7p {n a0 a1}:CI E0 (Lo n a0 a1) false 51 [.agg [.sl 2 (a0.ftypes.map Ap),aI a0.fa.fVars,aI a0.fa.fScopes,.sl 1 (a0.fa.fStates.map Al),.sl 17 (a0.fa.fEdges.map A5)],aI a1] (fun r=>nlA 1 (r.map aI)):=⟨fun {r} hF=>by
 unfold Lo at hF
 refine cw Tryz.func51 ?_
 repeat' first
  |refine aM ?_;conv=>whnf
  |refine aL hF (fun hF=>?_) fun hF=>?_
  |refine aN ?_
  |refine aO ?_
  |refine bF (Bb 10 hF) [(100000,2),(100001,3)] [(100000,2),(100001,3)] _ _ Nc Qo [] (fun a h=>aG (Xd h)) (Ay bC rfl rfl) rfl rfl rfl ⟨⟨rfl,rfl⟩,⟨⟨rfl,rfl⟩,trivial⟩⟩ (fun a=>⟨rfl,rfl,rfl,rfl,rfl,rfl,rfl,rfl⟩) (fun a hF=>?_)
  |refine bG (Bb 10 hF) [(100000,2),(100001,3)] [(100000,2),(100001,3)] _ _ Nc Qo [] (fun a h=>aG (Xd h)) (Ay bC rfl rfl) rfl rfl rfl ⟨⟨rfl,rfl⟩,⟨⟨rfl,rfl⟩,trivial⟩⟩ (fun a=>⟨rfl,rfl,rfl,rfl,rfl,rfl,rfl,rfl⟩) (fun a hF=>?_)
  |refine bF (Bb 14 hF) [(100000,5),(100001,6),(100002,3),(100003,7),(200001,11)] [(100000,5),(100001,6),(250001,15000002),(100002,3),(100003,7)] _ _ F8 Gu [11] (fun a h=>aG (Xh h)) (Ay aY rfl rfl) rfl rfl rfl ⟨⟨rfl,rfl⟩,⟨⟨rfl,rfl⟩,⟨⟨rfl,rfl⟩,⟨⟨rfl,rfl⟩,⟨⟨rfl,rfl⟩,trivial⟩⟩⟩⟩⟩ (fun a=>⟨rfl,rfl,rfl,rfl,rfl,rfl,rfl,Tl _ _ _⟩) (fun a hF=>?_);rcases a with ⟨_|⟨y,ys⟩,a⟩<;>(try simp only [bS,bO,List.isEmpty_nil,List.isEmpty_cons,aV,aS,Ab,Ae,K1] at hF)
  |refine bG (Bb 14 hF) [(100000,5),(100001,6),(100002,3),(100003,7),(200001,11)] [(100000,5),(100001,6),(250001,15000002),(100002,3),(100003,7)] _ _ F8 Gu [11] (fun a h=>aG (Xh h)) (Ay aY rfl rfl) rfl rfl rfl ⟨⟨rfl,rfl⟩,⟨⟨rfl,rfl⟩,⟨⟨rfl,rfl⟩,⟨⟨rfl,rfl⟩,⟨⟨rfl,rfl⟩,trivial⟩⟩⟩⟩⟩ (fun a=>⟨rfl,rfl,rfl,rfl,rfl,rfl,rfl,Tl _ _ _⟩) (fun a hF=>?_);rcases a with ⟨_|⟨y,ys⟩,a⟩<;>(try simp only [bS,bO,List.isEmpty_nil,List.isEmpty_cons,aV,aS,Ab,Ae,K1] at hF)
  |refine AndA ?_
  |refine aF ?_
  |exact aB hF⟩
instance z6x {n a0 a1}:CI E0 (O4 n a0 a1) false 52 [.agg [.sl 2 (a0.ftypes.map Ap),aI a0.fa.fVars,aI a0.fa.fScopes,.sl 1 (a0.fa.fStates.map Al),.sl 17 (a0.fa.fEdges.map A5)],.sl 1 (a1.map aI)] (fun r=>.sl 5 (r.map Am)):=⟨fun {r} hF=>by
 unfold O4 at hF
 refine cw Tryz.func52 ?_
 repeat' first
  |refine aE hF fun hF=>?_
  |refine bB hF 7039 rfl (fun hF=>?_)
  |refine aD [11] ?_;conv=>whnf
  |refine aL hF (fun hF=>?_) fun hF=>?_
  |refine aN ?_
  |refine aO ?_
  |refine aK hF fun x hF=>?_
  |refine aP hF fun l hF=>?_
  |exact ⟨_,hF,aA [(7045,45)]⟩
  |exact ⟨_,hF,aA [(7039,39)]⟩
  |refine aR hF ?_ fun m v hF=>?_
  |exact aC (LeX.adoptC 8 4 7039 144 3 37 _ rfl rfl rfl) (aA [])
  |exact aC (aJ 5 7045 37 5 rfl rfl) (aA [])
  |refine AndA ?_
  |refine aF ?_
  |exact aB hF⟩
instance zdj {n a0 a1 a2}:CI E0 (D8 n a0 a1 a2) false 14 [.sl 2 (a0.map Ap),Br a1,aI a2] (fun r=>.tup [.agg [aI r.1.fVerdict,aI r.1.fBound,.sl 5 (r.1.fPrefix.map Am),aI r.1.fPeriod],aI r.2]):=⟨fun {r} hF=>by
 unfold D8 at hF
 refine cw Tryz.func14 ?_
 repeat' first
  |refine aE hF fun hF=>?_
  |refine aD [15] ?_;conv=>whnf
  |refine aL hF (fun hF=>?_) fun hF=>?_
  |refine aN ?_
  |refine aO ?_
  |refine aW (o:=Lo _ _ _) hF fun a hF=>?_;rcases a with _|⟨y,ys⟩<;>(try simp only [bS,bO,List.isEmpty_nil,List.isEmpty_cons,aV,aS,Ab,Ae,K1] at hF)
  |refine aW hF fun a hF=>?_
  |refine bI aI AV.bool hF Ce rfl rfl rfl rfl rfl rfl rfl rfl rfl rfl (by first|rfl|kernel_rfl) (.refl _) (fun v b hF=>?_)
  |exact ⟨_,hF,aA []⟩
  |refine cH (sz:=1) (l:=[]) (by first|exact bD rfl|exact bA rfl) rfl rfl rfl rfl rfl rfl rfl rfl ?_
  |refine cH (sz:=1) (l:=_::_) (by first|exact bD rfl|exact bA rfl) rfl rfl rfl rfl rfl rfl rfl rfl ?_
  |refine aR hF (aA []) fun m v hF=>?_
  |refine AndA ?_
  |refine aF ?_
  |exact aB hF⟩
instance zde {n a0}:CI E0 (Pb n a0) true 192 [Am a0] (fun r=>.bool (r)):=by unfold Pb;exact aT [] Tryz.func192
instance zhr {n a0}:CI E0 (Pw n a0) true 242 [Am a0] zfk:=by unfold Pw;exact aT [] Tryz.func242
instance zdm {n a0 a1}:CI E0 (Pd n a0 a1) true 193 [Am a0,Am a1] aI:=by unfold Pd;exact aT [] Tryz.func193
instance zhk {n a0}:CI E0 (Jp n a0) true 194 [Am a0] J6:=by unfold Jp;exact aT [] Tryz.func194
theorem zfh (a b:Fo):eqK (J6 a) (J6 b)=some (decide (a=b)):=by cases a;cases b;simp [J6,eqK,eqL,eq1,aI,Jr]
end
end Go.Proofs.YthbogefcfhmpgaaGreat
