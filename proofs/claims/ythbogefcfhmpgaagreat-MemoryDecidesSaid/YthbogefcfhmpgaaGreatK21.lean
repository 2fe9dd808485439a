/- What some functions compute, over plain values. -/
import Derived.Test.YthbogefcfhmpgaaGreatK20
set_option linter.unusedVariables false
set_option linter.unusedSimpArgs false
set_option maxRecDepth 100000
set_option maxHeartbeats 8000000
namespace Go.Proofs.YthbogefcfhmpgaaGreat
open Go.RowKit List
open SubL renaming refl->aA
open List renaming length_map->aB,pairwise_cons->aJ,mem_cons->aK,take_succ_eq_append_getElem->aN,getElem_mem->aP,drop_eq_nil_of_le->aQ
open LeX renaming a->aC,trans->bE,adopt->bF
open AW renaming stepU->aD,regO->aF,jI->bD,frzO->bG
open RetX renaming oB->aE
open Or renaming inr->aG,inl->aV
open Int renaming natCast_zero->aH
open Tryz renaming func308->aL
open IntKind renaming wrap->aM
open EqX renaming A->aO
open IdxX renaming A->aR
open MakX renaming o->aS
open NatX renaming o->aT
open SetX renaming o->aU
open A4 renaming o->aW,t->aX,f->aY
open CI renaming w->aZ
open Av renaming I->bA
open Af renaming I->bC
noncomputable section
end
noncomputable section
end
noncomputable section
abbrev z16 {n a0 b c}:=li (Ix n a0 b c) (fun d=>⟨[(1,.ptr 1 0),(3,.row 10),(4,aI b.1),(5,aI d.1)],[(1,.box 26 (Ar a0)),(10,.row 4 1 (d.2.map AV.bool))]⟩) fun _ _=>Ix.eq_2 ..
abbrev z17 {n a0 b}:=li (L3 n a0 b) (fun c=>⟨[(1,.ptr 1 0),(3,.row 10),(4,aI c.1)],[(1,.box 26 (Ar a0)),(10,.row 4 1 (c.2.map AV.bool))]⟩) fun _ _=>L3.eq_2 ..
abbrev z1v {n a0 b}:=li (P1 n a0 b) (fun c=>⟨[(0,.sl 1 (a0.map aI)),(5,.row 8),(6,aI c.1)],[(8,.row 4 1 (c.2.map AV.bool))]⟩) fun _ _=>P1.eq_2 ..
abbrev z4f {n a0 x3 x4 b}:=li (Ga n a0 x3 x4 b) (fun c=>⟨[(1,.ptr 1 0),(9,.sl 1 (x3.map AV.bool)),(10,.sl 1 (x4.map AV.bool)),(11,.row 34),(12,aI c.1)],[(1,.box 26 (Ar a0)),(34,.row 4 1 (c.2.map AV.bool))]⟩) fun _ _=>Ga.eq_2 ..
abbrev z5u {n a1 a0 b}:=li (Q0 n a1 a0 b) (fun c=>⟨[(0,.sl 1 (a0.map aI)),(1,aI a1),(5,aI c)],[]⟩) fun _ _=>Q0.eq_2 ..
abbrev z4c {n}:=jf (Jc n) (fun b=>⟨[(8,.bool (b))],[]⟩) fun _=>Jc.eq_1 ..
abbrev z4d {n a3 a2 a1 a0}:=jf (Jd n a3 a2 a1 a0) (fun b=>⟨[(1,aI a1),(2,.sl 1 (a2.map AV.bool)),(3,.sl 1 (List.map (fun q=>AV.sl 1 (List.map AV.bool q)) (a3))),(4,.ptr 4 0),(22,.bool (b))],[(4,.box 149 (Bq a0))]⟩) fun _=>Jd.eq_1 ..
abbrev z10 {n a2 a1 a0 b d e f}:=li (H6 n a2 a1 a0 b d e f) (fun c=>⟨[(1,.sl 1 (a1.map AV.bool)),(2,.sl 1 (a2.map AV.bool)),(3,.ptr 3 0),(7,.cont (b) 17),(10,.bool (c.1)),(11,aI d.2.1),(12,.ptr 12 0),(13,aI c.2.1)],[(3,.box 26 (Ar a0)),(17,.are 44 (c.2.2).1 (List.map (enQ AV.bool 4) (c.2.2).2)),(12,.box 149 (Bq e))]⟩) fun _ _=>H6.eq_2 ..
abbrev z14 {n a2 a1 a0 b c e d}:=jf (Fz n a2 a1 a0 b c e d) (fun f=>⟨[(1,.sl 1 (a1.map AV.bool)),(2,.sl 1 (a2.map AV.bool)),(3,.ptr 3 0),(7,.cont (b) 17),(10,.bool (c.1)),(11,aI c.2.1),(12,.ptr 12 0),(77,.bool (f))],[(3,.box 26 (Ar a0)),(17,.are 44 (c.2.2).1 (List.map (enQ AV.bool 4) (c.2.2).2)),(12,.box 149 (Bq d))]⟩) fun _=>Fz.eq_1 ..
abbrev z11 {n a2 a1 a0 b d}:=li (Em n a2 a1 a0 b d) (fun c=>⟨[(1,.sl 1 (a1.map AV.bool)),(2,.sl 1 (a2.map AV.bool)),(3,.ptr 3 0),(7,.cont (b) 17),(10,.bool (c.1)),(11,aI c.2.1)],[(3,.box 26 (Ar a0)),(17,.are 44 (c.2.2).1 (List.map (enQ AV.bool 4) (c.2.2).2))]⟩) fun _ _=>Em.eq_2 ..
abbrev z12 {n a2 a1 a0 b d}:=li (Iw n a2 a1 a0 b d) (fun c=>⟨[(1,.sl 1 (a1.map AV.bool)),(2,.sl 1 (a2.map AV.bool)),(3,.ptr 3 0),(7,.cont (b) 17),(10,.bool (c.1))],[(3,.box 26 (Ar a0)),(17,.are 44 (c.2).1 (List.map (enQ AV.bool 4) (c.2).2))]⟩) fun _ _=>Iw.eq_2 ..
abbrev z0z {n a2 a1 a0 b d}:=li (Oq n a2 a1 a0 b d) (fun c=>⟨[(1,.sl 1 (a1.map AV.bool)),(2,.sl 1 (a2.map AV.bool)),(3,.ptr 3 0),(7,.cont (b.1) 17),(8,aI b.2.1),(9,aI c.1)],[(3,.box 26 (Ar a0)),(17,.are 44 (c.2).1 (List.map (enQ AV.bool 4) (c.2).2))]⟩) fun _ _=>Oq.eq_2 ..
abbrev z13 {n a2 a1 a0 c}:=li (L0 n a2 a1 a0 c) (fun b=>⟨[(1,.sl 1 (a1.map AV.bool)),(2,.sl 1 (a2.map AV.bool)),(3,.ptr 3 0),(7,.cont (b.1) 17),(8,aI b.2.1)],[(3,.box 26 (Ar a0)),(17,.are 44 (b.2.2).1 (List.map (enQ AV.bool 4) (b.2.2).2))]⟩) fun _ _=>L0.eq_2 ..
abbrev z4b {n a1 a0 b}:=li (Pr n a1 a0 b) (fun c=>⟨[(1,aI a1),(2,.ptr 2 0),(5,aI c)],[(2,.box 149 (Bq a0))]⟩) fun _ _=>Pr.eq_2 ..
abbrev z5x {n a2 a0 b c d e}:=jf (Md n a2 a0 b c d e) (fun f=>⟨[(2,.sl 1 (a2.map AV.bool)),(3,.ptr 3 0),(7,.sl 17 (b.1.map Ab)),(8,aI b.2.1),(9,aI b.2.2),(10,aI c.1),(11,aI c.2),(34,.bool (f))],[(3,.box 26 (Ar a0))]⟩) fun _=>Md.eq_1 ..
attribute [instance] z16 z17 z1v z4f z5u z4c z4d z10 z14 z11 z12 z0z z13 z4b z5x
instance zdm {n a0}:CI E0 (Sq n a0) false 216 [B2 a0] (fun r=>.sl 1 (r.map AV.bool)):=⟨fun {r} hF=>by
 unfold Sq at hF
 refine cw Tryz.func216 ?_
 repeat' first
  |refine aF hF fun hF=>?_
  |refine aD [10] ?_;conv=>whnf
  |refine aW hF (fun hF=>?_) fun hF=>?_
  |refine aX ?_
  |refine aY ?_
  |refine aS AV.bool hF (by first|exact aA _|(repeat' first|exact SubL.nil|refine SubL.cons ?_ ?_|exact Sub.refl _|exact Sub.nil _|refine Sub.agg ?_)) (fun l hF=>?_)
  |refine aT hF (fun m hF=>?_)
  |refine aU AV.bool hF (fun x=>rfl) (fun x=>(by first|exact aA _|(repeat' first|exact SubL.nil|refine SubL.cons ?_ ?_|exact Sub.refl _|exact Sub.nil _|refine Sub.agg ?_))) (fun l hF=>?_)
  |exact ⟨_,hF,aC []⟩
  |refine aR hF fun x hF=>?_
  |refine EltX.o AV.bool hF (fun x hF=>?_)
  |refine bA hF (aC []) fun m v hF=>?_
  |refine AndA ?_
  |refine aO ?_
  |exact aE hF⟩
instance zcc {n a0}:CI E0 (Vn n a0) false 150 [B2 a0] (fun r=>.tup [.sl 1 (r.1.map aI),aI r.2]):=by unfold Vn;exact aZ [] Tryz.func150
instance zeq {n a0 a1}:CI E0 (Pz n a0 a1) false 151 [.sl 1 (a0.map aI),aI a1] (fun r=>.sl 1 (r.map AV.bool)):=⟨fun {r} hF=>by
 unfold Pz at hF
 refine cw Tryz.func151 ?_
 repeat' first
  |refine AW.step ?_;conv=>whnf
  |refine aW hF (fun hF=>?_) fun hF=>?_
  |refine aX ?_
  |refine aY ?_
  |refine aS AV.bool hF (by first|exact aA _|(repeat' first|exact SubL.nil|refine SubL.cons ?_ ?_|exact Sub.refl _|exact Sub.nil _|refine Sub.agg ?_)) (fun l hF=>?_)
  |refine aR hF fun x hF=>?_
  |refine aT hF (fun m hF=>?_)
  |refine aU AV.bool hF (fun x=>rfl) (fun x=>(by first|exact aA _|(repeat' first|exact SubL.nil|refine SubL.cons ?_ ?_|exact Sub.refl _|exact Sub.nil _|refine Sub.agg ?_))) (fun l hF=>?_)
  |exact ⟨_,hF,aC []⟩
  |refine bA hF (aC []) fun m v hF=>?_
  |refine AndA ?_
  |refine aO ?_
  |exact aE hF⟩
instance zh1 {n a0}:CI E0 (Mw n a0) false 85 [B2 a0] (fun r=>.tup [.sl 1 (r.1.map AV.bool),.sl 1 (r.2.map AV.bool)]):=⟨fun {r} hF=>by
 unfold Mw at hF
 refine cw Tryz.func85 ?_
 repeat' first
  |refine aF hF fun hF=>?_
  |refine aD [10] ?_;conv=>whnf
  |refine aW hF (fun hF=>?_) fun hF=>?_
  |refine aX ?_
  |refine aY ?_
  |refine bC hF fun a hF=>?_
  |refine aS AV.bool hF (by first|exact aA _|(repeat' first|exact SubL.nil|refine SubL.cons ?_ ?_|exact Sub.refl _|exact Sub.nil _|refine Sub.agg ?_)) (fun l hF=>?_)
  |refine aR hF fun x hF=>?_
  |refine aT hF (fun m hF=>?_)
  |refine aU AV.bool hF (fun x=>rfl) (fun x=>(by first|exact aA _|(repeat' first|exact SubL.nil|refine SubL.cons ?_ ?_|exact Sub.refl _|exact Sub.nil _|refine Sub.agg ?_))) (fun l hF=>?_)
  |exact ⟨_,hF,aC []⟩
  |refine bA hF (aC []) fun m v hF=>?_
  |refine AndA ?_
  |refine aO ?_
  |exact aE hF⟩
instance zjl {n a0 a1}:CI E0 (Fi n a0 a1) true 217 [.sl 1 (a0.map aI),aI a1] (fun r=>.bool (r)):=by unfold Fi;exact aZ [] Tryz.func217
def z83 (r:Bool):AV:=.bool (r)
instance z6e {n a0 a1 a2 a3}:CI E0 (Tc n a0 a1 a2 a3) true 152 [Ab a0,aI a1,.sl 1 (a2.map AV.bool),.sl 1 (List.map (fun q=>AV.sl 1 (List.map AV.bool q)) (a3))] (fun r=>.bool (r)):=⟨fun {r} hF=>by
 unfold Tc at hF
 refine cw Tryz.func152 ?_
 repeat' first
  |refine bD hF (fun v hF=>?_) fun hF=>?_
  |refine aF hF fun hF=>?_
  |refine aD [3,5] ?_;conv=>whnf
  |refine aW hF (fun hF=>?_) fun hF=>?_
  |refine aX ?_
  |refine aY ?_
  |refine bC hF fun a hF=>?_
  |refine aR hF fun x hF=>?_
  |exact ⟨_,hF,aC []⟩
  |refine IdxX.o (fun q=>AV.sl 1 (List.map AV.bool q)) hF fun x hF=>?_
  |refine AndA ?_
  |refine aO ?_
  |exact aE hF⟩
instance zdk {n a0 a1 a2}:CI E0 (Sn n a0 a1 a2) false 86 [B2 a0,.sl 1 (a1.map AV.bool),.sl 1 (a2.map AV.bool)] (fun r=>.sl 1 (List.map (fun q=>AV.sl 1 (List.map AV.bool q)) (r))):=⟨fun {r} hF=>by
 unfold Sn at hF
 refine cw Tryz.func86 ?_
 repeat' first
  |refine AW.arqO AV.bool 4 hF 17 rfl (fun hF=>?_)
  |refine AW.frqO AV.bool hF 17 rfl (fun hF=>?_)
  |refine bD hF (fun v hF=>?_) fun hF=>?_
  |refine aF hF fun hF=>?_
  |refine bG hF 17 rfl (fun hF=>?_)
  |refine aD [24,17,21,2] ?_;conv=>whnf
  |refine aW hF (fun hF=>?_) fun hF=>?_
  |refine aX ?_
  |refine aY ?_
  |refine MakX.on hF (fun m hF=>?_)
  |exact ⟨_,hF,aC []⟩
  |refine aR hF fun x hF=>?_
  |refine OpX.ixc hF rfl rfl rfl rfl rfl rfl rfl rfl (fun hF=>?_)
  |refine OpX.aob hF rfl rfl rfl rfl rfl rfl rfl (fun j hF=>?_)
  |refine OpX.aix AV.bool hF rfl rfl rfl rfl rfl rfl rfl rfl rfl (fun k hF=>?_)
  |refine OpX.ald AV.bool hF rfl rfl rfl rfl rfl rfl rfl (fun _=>rfl) (fun v hF=>?_)
  |refine B4.oQ hF z83 (fun a h=>z6e.h h) (fun q=>congrArg (fun z=>[_,_,_,z]) (congrArg (AV.sl 1) (zyh AV.bool 4 q).symm)) (fun _=>aG rfl) (fun a hF=>?_)
  |refine OpX.asr AV.bool hF rfl rfl rfl rfl rfl rfl rfl rfl rfl rfl rfl rfl rfl (fun m hF=>?_)
  |refine bA hF (aC []) fun m v hF=>?_
  |refine OpX.lnc rfl rfl rfl rfl rfl rfl ?_
  |refine aS AV.bool hF (by first|exact aA _|(repeat' first|exact SubL.nil|refine SubL.cons ?_ ?_|exact Sub.refl _|exact Sub.nil _|refine Sub.agg ?_)) (fun l hF=>?_)
  |refine OpX.asq AV.bool hF rfl rfl rfl rfl rfl rfl rfl rfl rfl rfl rfl (fun m hF=>?_)
  |refine AndA ?_
  |refine aO ?_
  |exact aE hF⟩
instance zgz {n a0 a1}:CI E0 (Tb n a0 a1) true 154 [Ab a0,aI a1] aI:=by unfold Tb;exact aZ [] Tryz.func154
end
noncomputable section
abbrev z5v {n a2 a0 b c}:=li (Jn n a2 a0 b c) (fun d=>⟨[(2,.sl 1 (a2.map AV.bool)),(3,.ptr 3 0),(7,.sl 17 (b.1.map Ab)),(8,aI b.2.1),(9,aI b.2.2),(10,aI d.1),(11,aI d.2)],[(3,.box 26 (Ar a0))]⟩) fun _ _=>Jn.eq_2 ..
abbrev z5w {n a2 a0 c}:=li (Ds n a2 a0 c) (fun b=>⟨[(2,.sl 1 (a2.map AV.bool)),(3,.ptr 3 0),(7,.sl 17 (b.1.map Ab)),(8,aI b.2.1),(9,aI b.2.2)],[(3,.box 26 (Ar a0))]⟩) fun _ _=>Ds.eq_2 ..
abbrev z4o {n a0 x2 x3 c}:=li (Lz n a0 x2 x3 c) (fun b=>⟨[(1,.ptr 1 0),(7,.sl 1 (x2.2.map AV.bool)),(8,.sl 1 (List.map (fun q=>AV.sl 1 (List.map AV.bool q)) (x3))),(9,.row 30),(10,.row 34),(11,aI b.1)],[(1,.box 26 (Ar a0)),(30,.row 3 1 (b.2.1.map aI)),(34,.row 4 1 (b.2.2.map AV.bool))]⟩) fun _ _=>Lz.eq_2 ..
attribute [instance] z5v z5w z4o 
instance zjm {n a0 a1 a2}:CI E0 (Th n a0 a1 a2) true 87 [B2 a0,aI a1,.sl 1 (a2.map AV.bool)] aI:=by unfold Th;exact aZ [9,12,15] Tryz.func87
instance zh5 {n a0}:CI E0 (Td n a0) false 27 [B2 a0] (fun r=>.tup [.sl 1 (r.1.map aI),.sl 1 (r.2.1.map AV.bool),aI r.2.2]):=⟨fun {r} hF=>by
 unfold Td at hF
 refine cw Tryz.func27 ?_
 repeat' first
  |refine aF hF fun hF=>?_
  |refine aD [11] ?_;conv=>whnf
  |refine aW hF (fun hF=>?_) fun hF=>?_
  |refine aX ?_
  |refine aY ?_
  |refine bC hF fun a hF=>?_
  |refine aS aI hF (by first|exact aA _|(repeat' first|exact SubL.nil|refine SubL.cons ?_ ?_|exact Sub.refl _|exact Sub.nil _|refine Sub.agg ?_)) (fun l hF=>?_)
  |refine aS AV.bool hF (by first|exact aA _|(repeat' first|exact SubL.nil|refine SubL.cons ?_ ?_|exact Sub.refl _|exact Sub.nil _|refine Sub.agg ?_)) (fun l hF=>?_)
  |refine aT hF (fun m hF=>?_)
  |refine aU AV.bool hF (fun x=>rfl) (fun x=>(by first|exact aA _|(repeat' first|exact SubL.nil|refine SubL.cons ?_ ?_|exact Sub.refl _|exact Sub.nil _|refine Sub.agg ?_))) (fun l hF=>?_)
  |refine aR hF fun x hF=>?_
  |refine IdxX.o (fun q=>AV.sl 1 (List.map AV.bool q)) hF fun x hF=>?_
  |refine aU aI hF (fun x=>rfl) (fun x=>(by first|exact aA _|(repeat' first|exact SubL.nil|refine SubL.cons ?_ ?_|exact Sub.refl _|exact Sub.nil _|refine Sub.agg ?_))) (fun l hF=>?_)
  |exact ⟨_,hF,aC []⟩
  |refine bA hF (aC []) fun m v hF=>?_
  |refine AndA ?_
  |refine aO ?_
  |exact aE hF⟩
end
noncomputable section
abbrev z5b {n a1 a0 b}:=li (Vv n a1 a0 b) (fun c=>⟨[(0,.sl 3 (a0.map Ac)),(1,.sl 3 (a1.map Ac)),(5,aI c)],[]⟩) fun _ _=>Vv.eq_2 ..
abbrev z57 {n a1 a0 b}:=li (M8 n a1 a0 b) (fun c=>⟨[(0,.sl 5 (a0.map Aj)),(1,.sl 5 (a1.map Aj)),(5,aI c)],[]⟩) fun _ _=>M8.eq_2 ..
abbrev z4g {n}:=jf (Hf n) (fun b=>⟨[(4,.bool (b))],[]⟩) fun _=>Hf.eq_1 ..
abbrev z2w {n a1 x1 x2 b}:=li (Lk n a1 x1 x2 b) (fun c=>⟨[(1,aI a1),(6,.sl 1 (x1.1.map aI)),(7,.sl 1 (x1.2.1.map AV.bool)),(10,.sl 1 (x2.2.map AV.bool)),(11,aI c.1),(12,aI c.2)],[]⟩) fun _ _=>Lk.eq_2 ..
abbrev z28 {n b a0 c}:=li (Dp n b a0 c) (fun d=>⟨[(1,.row 200000),(2,.ptr 2 0),(6,aI d.1)],[(2,.box 146 (C9 a0)),(200000,.row 4 1 (d.2.map AV.bool))]⟩) fun _ _=>Dp.eq_2 ..
abbrev z27 {n b a0 c}:=li (P6 n b a0 c) (fun d=>⟨[(1,.row 200000),(2,.ptr 2 0),(6,aI d.1)],[(2,.box 146 (C9 a0)),(200000,.row 4 1 (d.2.map AV.bool))]⟩) fun _ _=>P6.eq_2 ..
abbrev z26 {n b a0 c}:=li (P5 n b a0 c) (fun d=>⟨[(1,.row 200000),(2,.ptr 2 0),(6,aI d.1)],[(2,.box 146 (C9 a0)),(200000,.row 4 1 (d.2.map AV.bool))]⟩) fun _ _=>P5.eq_2 ..
abbrev z25 {n b a0 c}:=li (P4 n b a0 c) (fun d=>⟨[(1,.row 200000),(2,.ptr 2 0),(6,aI d.1)],[(2,.box 146 (C9 a0)),(200000,.row 4 1 (d.2.map AV.bool))]⟩) fun _ _=>P4.eq_2 ..
abbrev z0k {n x2 b}:=li (Ir n x2 b) (fun c=>⟨[(3,.row 6),(4,.row 7023),(5,aI c.1)],[(6,.row 4 1 (x2.map AV.bool)),(7023,.row 3 1 (c.2.map aI))]⟩) fun _ _=>Ir.eq_2 ..
abbrev z0l {n}:=jf (Ky n) (fun b=>⟨[(2,.bool (b))],[]⟩) fun _=>Ky.eq_1 ..
abbrev z4m {n a2 d b c}:=jf (Ly n a2 d b c) (fun e=>⟨[(5,.ptr 5 0),(9,.sl 11 (d.fGuards.map B1)),(10,aI b),(84,.bool (e))],[(5,.box 149 (Bq a2))]⟩) fun _=>Ly.eq_1 ..
abbrev z4j {n a2 c b}:=li (Je n a2 c b) (fun d=>⟨[(5,.ptr 5 0),(9,.sl 11 (c.fGuards.map B1)),(10,aI d)],[(5,.box 149 (Bq a2))]⟩) fun _ _=>Je.eq_2 ..
abbrev z4k {n a2 a1 b}:=li (Pu n a2 a1 b) (fun c=>⟨[(4,.ptr 4 0),(5,.ptr 5 0),(8,aI c)],[(4,.box 26 (Ar a1)),(5,.box 149 (Bq a2))]⟩) fun _ _=>Pu.eq_2 ..
abbrev z4l {n a2 a1 b}:=li (Pv n a2 a1 b) (fun c=>⟨[(4,.ptr 4 0),(5,.ptr 5 0),(7,aI c)],[(4,.box 26 (Ar a1)),(5,.box 149 (Bq a2))]⟩) fun _ _=>Pv.eq_2 ..
abbrev z4n {n a2 a1}:=jf (Jf n a2 a1) (fun b=>⟨[(4,.ptr 4 0),(5,.ptr 5 0),(21,.bool (b))],[(4,.box 26 (Ar a1)),(5,.box 149 (Bq a2))]⟩) fun _=>Jf.eq_1 ..
attribute [instance] z5b z57 z4g z2w z28 z27 z26 z25 z0k z0l z4m z4j z4k z4l z4n
instance zhk {n a0 a1}:CI E0 (Zj n a0 a1) true 218 [.sl 3 (a0.map Ac),.sl 3 (a1.map Ac)] (fun r=>.bool (r)):=by unfold Zj;exact aZ [] Tryz.func218
instance zga {n a0 a1}:CI E0 (Zh n a0 a1) true 155 [Aj a0,Aj a1] (fun r=>.bool (r)):=by unfold Zh;exact aZ [] Tryz.func155
instance zhi {n a0 a1}:CI E0 (Wp n a0 a1) true 88 [.sl 5 (a0.map Aj),.sl 5 (a1.map Aj)] (fun r=>.bool (r)):=by unfold Wp;exact aZ [] Tryz.func88
instance zh2 {n a0 a1}:CI E0 (Qk n a0 a1) true 31 [.agg [aI a0.fVerdict,aI a0.fBound,.sl 5 (a0.fPrefix.map Aj),aI a0.fPeriod],.agg [aI a1.fVerdict,aI a1.fBound,.sl 5 (a1.fPrefix.map Aj),aI a1.fPeriod]] (fun r=>.bool (r)):=by unfold Qk;exact aZ [1] Tryz.func31
instance zfu {n a0 a1}:CI E0 (Q9 n a0 a1) true 89 [B2 a0,aI a1] (fun r=>.tup [aI r.1,.bool (r.2)]):=by unfold Q9;exact aZ [9] Tryz.func89
def z6o (a0:Ap)(m0:(List Bool)):List (Nat×Ent):=[(200000,.row 4 1 (m0.map AV.bool))]
def Mc (r:(List Bool)):List (Nat×Ent):=[(200000,.row 4 1 (r.map AV.bool))]
def Px (r:(List Bool)):AV:=.tup []
def z6k (r:(List Bool)):AS:=⟨[(1,.row 200000)],Mc r⟩
theorem z05 {n a0 m0 r}(hF:E8 n a0 m0=some r):ConG E0.P none (CalF E0.P 308 0) [Ao a0,.row 200000] [] (z6o a0 m0) (Px r) (Mc r):=by
 induction n generalizing a0 m0 r
 case zero=>cases hF
 case succ n ih =>
 unfold E8 at hF
 refine ConG.walk (E:=(E0p 2)) (caps:=[]) _ aL rfl rfl rfl rfl rfl ?_
 repeat' first
  |refine AW.step ?_;conv=>whnf
  |refine aW hF (fun hF=>?_) fun hF=>?_
  |refine aX ?_
  |refine aY ?_
  |refine bC hF fun a hF=>?_
  |refine aT hF (fun m hF=>?_)
  |refine aU AV.bool hF (fun x=>rfl) (fun x=>(by first|exact aA _|(repeat' first|exact SubL.nil|refine SubL.cons ?_ ?_|exact Sub.refl _|exact Sub.nil _|refine Sub.agg ?_))) (fun l hF=>?_)
  |exact GX.A (res:=Px) (meF:=Mc) hF z6k
  |refine IdxX.oD hF Da (fun x hF=>?_)
  |refine B4.oM (B9 43 hF) [(200000,200000)] [(200000,200000)] _ _ Mc Px [] (fun a h=>ConG.up (ih h)) (B3 aL rfl rfl) rfl rfl rfl ⟨⟨rfl,rfl⟩,trivial⟩ (fun a=>⟨rfl,rfl,rfl,rfl,rfl,rfl,rfl,rfl⟩) (fun a hF=>?_)
  |refine Af.oM (B9 43 hF) [(200000,200000)] [(200000,200000)] _ _ Mc Px [] (fun a h=>ConG.up (ih h)) (B3 aL rfl rfl) rfl rfl rfl ⟨⟨rfl,rfl⟩,trivial⟩ (fun a=>⟨rfl,rfl,rfl,rfl,rfl,rfl,rfl,rfl⟩) (fun a hF=>?_)
  |exact ⟨_,hF,aC []⟩
  |refine bA hF (aC []) fun m v hF=>?_
  |refine AndA ?_
  |refine aO ?_
instance zcd {n a0}:CI E0 (Si n a0) false 267 [Ao a0] (fun r=>.sl 1 (r.map aI)):=⟨fun {r} hF=>by
 unfold Si at hF
 refine cw Tryz.func267 ?_
 repeat' first
  |refine aF hF fun hF=>?_
  |refine aD [7] ?_;conv=>whnf
  |refine aW hF (fun hF=>?_) fun hF=>?_
  |refine aX ?_
  |refine aY ?_
  |refine aS AV.bool hF (by first|exact aA _|(repeat' first|exact SubL.nil|refine SubL.cons ?_ ?_|exact Sub.refl _|exact Sub.nil _|refine Sub.agg ?_)) (fun l hF=>?_)
  |refine B4.oM (B9 9 hF) [(200000,6)] [(200000,6)] _ _ Mc Px [] (fun a h=>ConG.up (z05 h)) (B3 aL rfl rfl) rfl rfl rfl ⟨⟨rfl,rfl⟩,trivial⟩ (fun a=>⟨rfl,rfl,rfl,rfl,rfl,rfl,rfl,rfl⟩) (fun a hF=>?_)
  |refine Af.oM (B9 9 hF) [(200000,6)] [(200000,6)] _ _ Mc Px [] (fun a h=>ConG.up (z05 h)) (B3 aL rfl rfl) rfl rfl rfl ⟨⟨rfl,rfl⟩,trivial⟩ (fun a=>⟨rfl,rfl,rfl,rfl,rfl,rfl,rfl,rfl⟩) (fun a hF=>?_)
  |refine aT hF (fun m hF=>?_)
  |refine EltX.o AV.bool hF (fun x hF=>?_)
  |refine AppX.oA hF fun l hF=>?_
  |exact ⟨_,hF,aC [(7023,23)]⟩
  |exact ⟨_,hF,aC []⟩
  |refine bA hF ?_ fun m v hF=>?_
  |exact bE (bF 4 7023 3 1 rfl rfl) (aC [])
  |refine AndA ?_
  |refine aO ?_
  |exact aE hF⟩
instance zcs {n a0}:CI E0 (Pe n a0) true 219 [Ao a0] (fun r=>.bool (r)):=⟨fun {r} hF=>by
 unfold Pe at hF
 refine cw Tryz.func219 ?_
 repeat' first
  |refine bD hF (fun v hF=>?_) fun hF=>?_
  |refine aF hF fun hF=>?_
  |refine aD [1] ?_;conv=>whnf
  |refine aW hF (fun hF=>?_) fun hF=>?_
  |refine aX ?_
  |refine aY ?_
  |refine bC hF fun a hF=>?_
  |refine Af.S hF fun a hF=>?_
  |exact ⟨_,hF,aC []⟩
  |refine AndA ?_
  |refine aO ?_
  |exact aE hF⟩
instance zh4 {n a0 a1 a2}:CI E0 (K0 n a0 a1 a2) true 156 [.sl 2 (a0.map Al),B2 a1,Ab a2] (fun r=>.bool (r)):=⟨fun {r} hF=>by
 unfold K0 at hF
 refine cw Tryz.func156 ?_
 repeat' first
  |refine bD hF (fun v hF=>?_) fun hF=>?_
  |refine aF hF fun hF=>?_
  |refine aD [1,17] ?_;conv=>whnf
  |refine aW hF (fun hF=>?_) fun hF=>?_
  |refine aX ?_
  |refine aY ?_
  |refine aR hF fun x hF=>?_
  |exact ⟨_,hF,aC []⟩
  |refine bC hF fun a hF=>?_
  |refine bA hF (aC []) fun m v hF=>?_
  |refine IdxX.oD hF Da (fun x hF=>?_)
  |refine AndA ?_
  |refine aO ?_
  |exact aE hF⟩
end
noncomputable section
abbrev z2v {n b a4 a3 a2 a1 a0 c d e}:=jf (G3 n b a4 a3 a2 a1 a0 c d e) (fun f=>⟨[(0,.sl 2 (a0.map Al)),(2,aI a2),(3,.sl 1 (a3.map AV.bool)),(4,.sl 1 (a4.map aI)),(6,.ptr 6 0),(11,.row 7076),(12,aI c.1),(13,.ptr 13 0),(43,.bool (f))],[(6,.box 26 (Ar a1)),(13,.box 149 (Bq e)),(7076,.row 43 1 (List.map (fun q=>AV.sl 1 (List.map aI q)) (c.2)))]⟩) fun _=>G3.eq_1 ..
abbrev z2u {n b a4 a3 a2 a1 a0 c}:=li (G2 n b a4 a3 a2 a1 a0 c) (fun d=>⟨[(0,.sl 2 (a0.map Al)),(2,aI a2),(3,.sl 1 (a3.map AV.bool)),(4,.sl 1 (a4.map aI)),(6,.ptr 6 0),(11,.row 7076),(12,aI d.1)],[(6,.box 26 (Ar a1)),(7076,.row 43 1 (List.map (fun q=>AV.sl 1 (List.map aI q)) (d.2)))]⟩) fun _ _=>G2.eq_2 ..
abbrev z0y {n a1 a0 b}:=li (Oo n a1 a0 b) (fun c=>⟨[(1,.sl 1 (a1.map aI)),(2,.ptr 2 0),(5,aI c)],[(2,.box 140 (zmr a0))]⟩) fun _ _=>Oo.eq_2 ..
abbrev z4h {n a1 a0 b c}:=li (Hg n a1 a0 b c) (fun d=>⟨[(0,.sl 2 (a0.map Al)),(3,.ptr 3 0),(5,.row 12),(6,aI b.1),(7,aI d.1)],[(3,.box 26 (Ar a1)),(12,.row 4 1 (d.2.map AV.bool))]⟩) fun _ _=>Hg.eq_2 ..
abbrev z4i {n a1 a0 b}:=li (Lx n a1 a0 b) (fun c=>⟨[(0,.sl 2 (a0.map Al)),(3,.ptr 3 0),(5,.row 12),(6,aI c.1)],[(3,.box 26 (Ar a1)),(12,.row 4 1 (c.2.map AV.bool))]⟩) fun _ _=>Lx.eq_2 ..
abbrev z30 {n a2 a1 b e c d}:=jf (J4 n a2 a1 b e c d) (fun f=>⟨[(2,.sl 1 (a2.map aI)),(4,.ptr 4 0),(7,.row 7028),(12,.sl 1 (e.map AV.bool)),(13,aI c),(111,.bool (f))],[(4,.box 26 (Ar a1)),(7028,.row 4 1 (b.map AV.bool))]⟩) fun _=>J4.eq_1 ..
abbrev z2y {n a2 a1 b d c}:=li (Fe n a2 a1 b d c) (fun e=>⟨[(2,.sl 1 (a2.map aI)),(4,.ptr 4 0),(7,.row 7028),(12,.sl 1 (d.map AV.bool)),(13,aI e)],[(4,.box 26 (Ar a1)),(7028,.row 4 1 (b.map AV.bool))]⟩) fun _ _=>Fe.eq_2 ..
abbrev z2x {n a2 a1 a0 b c}:=li (Fd n a2 a1 a0 b c) (fun d=>⟨[(0,.sl 2 (a0.map Al)),(2,.sl 1 (a2.map aI)),(4,.ptr 4 0),(7,.row 7028),(8,aI b.1),(9,.row 40),(10,aI d.1)],[(4,.box 26 (Ar a1)),(7028,.row 4 1 (b.2.map AV.bool)),(40,.row 4 1 (d.2.map AV.bool))]⟩) fun _ _=>Fd.eq_2 ..
abbrev z2z {n a2 a1 a0 b}:=li (Ll n a2 a1 a0 b) (fun c=>⟨[(0,.sl 2 (a0.map Al)),(2,.sl 1 (a2.map aI)),(4,.ptr 4 0),(7,.row 7028),(8,aI c.1)],[(4,.box 26 (Ar a1)),(7028,.row 4 1 (c.2.map AV.bool))]⟩) fun _ _=>Ll.eq_2 ..
abbrev z31 {n a2 a1 a0}:=jf (J5 n a2 a1 a0) (fun b=>⟨[(0,.sl 2 (a0.map Al)),(2,.sl 1 (a2.map aI)),(4,.ptr 4 0),(24,.bool (b))],[(4,.box 26 (Ar a1))]⟩) fun _=>J5.eq_1 ..
abbrev z15 {n a1 a0 x6 b}:=li (Ot n a1 a0 x6 b) (fun c=>⟨[(0,.sl 2 (a0.map Al)),(4,.ptr 4 0),(11,.sl 1 (List.map (fun q=>AV.sl 1 (List.map aI q)) (x6))),(12,aI c)],[(4,.box 26 (Ar a1))]⟩) fun _ _=>Ot.eq_2 ..
abbrev z3r {n a1 x4 b}:=li (Pk n a1 x4 b) (fun c=>⟨[(3,.ptr 3 0),(5,.sl 2 (x4.fFields.map C7)),(6,aI c)],[(3,.box 37 (Np a1))]⟩) fun _ _=>Pk.eq_2 ..
abbrev z3s {n a1 a0}:=jf (J8 n a1 a0) (fun b=>⟨[(0,.sl 2 (a0.map Al)),(3,.ptr 3 0),(43,.bool (b))],[(3,.box 37 (Np a1))]⟩) fun _=>J8.eq_1 ..
abbrev z3t {n a1 a0}:=jf (G8 n a1 a0) (fun b=>⟨[(0,.sl 2 (a0.map Al)),(3,.ptr 3 0),(33,.bool (b))],[(3,.box 37 (Np a1))]⟩) fun _=>G8.eq_1 ..
abbrev z3u {n a1 a0}:=jf (J9 n a1 a0) (fun b=>⟨[(0,.sl 2 (a0.map Al)),(3,.ptr 3 0),(15,.bool (b))],[(3,.box 37 (Np a1))]⟩) fun _=>J9.eq_1 ..
abbrev z4e {n a1 a0 b}:=li (Ps n a1 a0 b) (fun c=>⟨[(0,.sl 5 (a0.map Aj)),(1,aI a1),(5,aI c)],[]⟩) fun _ _=>Ps.eq_2 ..
attribute [instance] z2v z2u z0y z4h z4i z30 z2y z2x z2z z31 z15 z3r z3s z3t z3u z4e
def z7d (r:(List (List Int))):AV:=.sl 1 (List.map (fun q=>AV.sl 1 (List.map aI q)) (r))
theorem z2n {n a0 a1 a2 a3 a4 r}(hF:Ju n a0 a1 a2 a3 a4=some r):Con E0 false 90 [.sl 2 (a0.map Al),B2 a1,aI a2,.sl 1 (a3.map AV.bool),.sl 1 (a4.map aI)] (.sl 1 (List.map (fun q=>AV.sl 1 (List.map aI q)) (r))):=by
 induction n generalizing a0 a1 a2 a3 a4 r
 case zero=>cases hF
 case succ n ih =>
 unfold Ju at hF
 refine cw Tryz.func90 ?_
 repeat' first
  |refine bD hF (fun v hF=>?_) fun hF=>?_
  |refine aF hF fun hF=>?_
  |refine bG hF 50 rfl (fun hF=>?_)
  |refine bG hF 63 rfl (fun hF=>?_)
  |refine aD [8,12,6,9] ?_;conv=>whnf
  |refine aW hF (fun hF=>?_) fun hF=>?_
  |refine aX ?_
  |refine aY ?_
  |refine aR hF fun x hF=>?_
  |exact ⟨_,hF,aC []⟩
  |refine AppX.oA hF fun l hF=>?_
  |refine aT hF (fun m hF=>?_)
  |refine aU AV.bool hF (fun x=>rfl) (fun x=>(by first|exact aA _|(repeat' first|exact SubL.nil|refine SubL.cons ?_ ?_|exact Sub.refl _|exact Sub.nil _|refine Sub.agg ?_))) (fun l hF=>?_)
  |refine Af.o hF z7d (fun a h=>ih h) (fun a hF=>?_)
  |exact ⟨_,hF,aC [(7076,76)]⟩
  |exact ⟨_,hF,aC [(7076,54)]⟩
  |refine bC hF fun a hF=>?_
  |refine bA hF ?_ fun m v hF=>?_
  |exact bE (bF 11 7076 43 1 rfl rfl) (aC [])
  |refine AndA ?_
  |refine aO ?_
  |exact aE hF
instance zft {n a0 a1 a2 a3 a4}:CI E0 (Ju n a0 a1 a2 a3 a4) false 90 [.sl 2 (a0.map Al),B2 a1,aI a2,.sl 1 (a3.map AV.bool),.sl 1 (a4.map aI)] (fun r=>.sl 1 (List.map (fun q=>AV.sl 1 (List.map aI q)) (r))):=⟨z2n⟩
instance zdj {n a0 a1}:CI E0 (Sm n a0 a1) true 157 [Aq a0,.sl 1 (a1.map aI)] (fun r=>.bool (r)):=by unfold Sm;exact aZ [] Tryz.func157
instance zh3 {n a0 a1}:CI E0 (Ql n a0 a1) false 158 [.sl 2 (a0.map Al),B2 a1] (fun r=>.sl 1 (r.map AV.bool)):=⟨fun {r} hF=>by
 unfold Ql at hF
 refine cw Tryz.func158 ?_
 repeat' first
  |refine aF hF fun hF=>?_
  |refine aD [9] ?_;conv=>whnf
  |refine aW hF (fun hF=>?_) fun hF=>?_
  |refine aX ?_
  |refine aY ?_
  |refine aS AV.bool hF (by first|exact aA _|(repeat' first|exact SubL.nil|refine SubL.cons ?_ ?_|exact Sub.refl _|exact Sub.nil _|refine Sub.agg ?_)) (fun l hF=>?_)
  |exact ⟨_,hF,aC []⟩
  |refine aR hF fun x hF=>?_
  |refine bC hF fun a hF=>?_
  |refine aT hF (fun m hF=>?_)
  |refine aU AV.bool hF (fun x=>rfl) (fun x=>(by first|exact aA _|(repeat' first|exact SubL.nil|refine SubL.cons ?_ ?_|exact Sub.refl _|exact Sub.nil _|refine Sub.agg ?_))) (fun l hF=>?_)
  |refine EltX.o AV.bool hF (fun x hF=>?_)
  |refine bA hF (aC []) fun m v hF=>?_
  |refine AndA ?_
  |refine aO ?_
  |exact aE hF⟩
instance zfv {n a0 a1 a2}:CI E0 (Mo n a0 a1 a2) true 91 [.sl 2 (a0.map Al),B2 a1,.sl 1 (a2.map aI)] (fun r=>.bool (r)):=⟨fun {r} hF=>by
 unfold Mo at hF
 refine cw Tryz.func91 ?_
 repeat' first
  |refine bD hF (fun v hF=>?_) fun hF=>?_
  |refine aF hF fun hF=>?_
  |refine aD [1,13,20] ?_;conv=>whnf
  |refine aW hF (fun hF=>?_) fun hF=>?_
  |refine aX ?_
  |refine aY ?_
  |refine aS AV.bool hF (by first|exact aA _|(repeat' first|exact SubL.nil|refine SubL.cons ?_ ?_|exact Sub.refl _|exact Sub.nil _|refine Sub.agg ?_)) (fun l hF=>?_)
  |refine aT hF (fun m hF=>?_)
  |refine aU AV.bool hF (fun x=>rfl) (fun x=>(by first|exact aA _|(repeat' first|exact SubL.nil|refine SubL.cons ?_ ?_|exact Sub.refl _|exact Sub.nil _|refine Sub.agg ?_))) (fun l hF=>?_)
  |refine bC hF fun a hF=>?_
  |exact ⟨_,hF,aC []⟩
  |refine EltX.o AV.bool hF (fun x hF=>?_)
  |refine aR hF fun x hF=>?_
  |refine bA hF ?_ fun m v hF=>?_
  |exact aC []
  |exact ⟨_,hF,aC [(7028,40)]⟩
  |exact aC [(7028,28)]
  |refine AndA ?_
  |refine aO ?_
  |exact aE hF⟩
instance zdl {n a0 a1 a2}:CI E0 (So n a0 a1 a2) true 32 [.sl 2 (a0.map Al),B2 a1,aI a2] (fun r=>.tup [aI r.1,aI r.2]):=⟨fun {r} hF=>by
 unfold So at hF
 refine cw Tryz.func32 ?_
 repeat' first
  |refine aF hF fun hF=>?_
  |refine bG hF 24 rfl (fun hF=>?_)
  |refine aD [6] ?_;conv=>whnf
  |refine aW hF (fun hF=>?_) fun hF=>?_
  |refine aX ?_
  |refine aY ?_
  |refine bC hF fun a hF=>?_
  |refine aS AV.bool hF (by first|exact aA _|(repeat' first|exact SubL.nil|refine SubL.cons ?_ ?_|exact Sub.refl _|exact Sub.nil _|refine Sub.agg ?_)) (fun l hF=>?_)
  |refine aT hF (fun m hF=>?_)
  |refine aU AV.bool hF (fun x=>rfl) (fun x=>(by first|exact aA _|(repeat' first|exact SubL.nil|refine SubL.cons ?_ ?_|exact Sub.refl _|exact Sub.nil _|refine Sub.agg ?_))) (fun l hF=>?_)
  |refine Af.S hF fun a hF=>?_
  |refine IdxX.o (fun q=>AV.sl 1 (List.map aI q)) hF fun x hF=>?_
  |exact ⟨_,hF,aC []⟩
  |refine bA hF (aC []) fun m v hF=>?_
  |refine AndA ?_
  |refine aO ?_
  |exact aE hF⟩
instance zgc {n a0 a1}:CI E0 (We n a0 a1) true 220 [.sl 2 (a0.map Al),Aj a1] aI:=by unfold We;exact aZ [1,3,5] Tryz.func220
instance zgd {n a0 a1}:CI E0 (Qe n a0 a1) true 159 [.sl 2 (a0.map Al),Aj a1] aI:=by unfold Qe;exact aZ [] Tryz.func159
instance zh0 {n a0 a1}:CI E0 (Qj n a0 a1) true 160 [.sl 5 (a0.map Aj),aI a1] (fun r=>.bool (r)):=by unfold Qj;exact aZ [] Tryz.func160
end
noncomputable section
abbrev z1t {n}:=jf (L7 n) (fun b=>⟨[(2,.bool (b))],[]⟩) fun _=>L7.eq_1 ..
abbrev z1u {n a0}:=jt (L8 n a0) (fun b=>⟨[(1,.ptr 1 0),(3,aI b)],[(1,.box 39 [aI a0.fVerdict,aI a0.fBound,.sl 5 (a0.fPrefix.map Aj),aI a0.fPeriod])]⟩) fun _=>L8.eq_1 ..
abbrev z1s {n a3 a2 a1 a0 b}:=li (P0 n a3 a2 a1 a0 b) (fun c=>⟨[(0,.sl 2 (a0.map Al)),(2,aI a2),(5,.ptr 5 0),(7,.ptr 7 0),(10,.row 7044),(11,aI c.1)],[(5,.box 26 (Ar a1)),(7,.box 39 [aI a3.fVerdict,aI a3.fBound,.sl 5 (a3.fPrefix.map Aj),aI a3.fPeriod]),(7044,.row 3 1 (c.2.map aI))]⟩) fun _ _=>P0.eq_2 ..
abbrev z1w {n}:=jf (L9 n) (fun b=>⟨[(60,.bool (b))],[]⟩) fun _=>L9.eq_1 ..
abbrev z1x {n a3 a2 a1}:=jf (La n a3 a2 a1) (fun b=>⟨[(2,aI a2),(5,.ptr 5 0),(7,.ptr 7 0),(46,.bool (b))],[(5,.box 26 (Ar a1)),(7,.box 39 [aI a3.fVerdict,aI a3.fBound,.sl 5 (a3.fPrefix.map Aj),aI a3.fPeriod])]⟩) fun _=>La.eq_1 ..
abbrev z1y {n a3 a2 a1 a0}:=jf (J0 n a3 a2 a1 a0) (fun b=>⟨[(0,.sl 2 (a0.map Al)),(2,aI a2),(5,.ptr 5 0),(7,.ptr 7 0),(26,.bool (b))],[(5,.box 26 (Ar a1)),(7,.box 39 [aI a3.fVerdict,aI a3.fBound,.sl 5 (a3.fPrefix.map Aj),aI a3.fPeriod])]⟩) fun _=>J0.eq_1 ..
abbrev z0c {n}:=jf (Ip n) (fun b=>⟨[(2,.bool (b))],[]⟩) fun _=>Ip.eq_1 ..
abbrev z0a {n}:=jf (Kx n) (fun b=>⟨[(2,.bool (b))],[]⟩) fun _=>Kx.eq_1 ..
abbrev z09 {n}:=jf (Io n) (fun b=>⟨[(2,.bool (b))],[]⟩) fun _=>Io.eq_1 ..
abbrev z0b {n a0 x3 b}:=jf (Fy n a0 x3 b) (fun c=>⟨[(1,.ptr 1 0),(3,.ptr 3 0),(6,aI b.1),(65,.bool (c))],[(1,.box 28 [.sl 2 (a0.fTypes.map Al),aI a0.fA.fVars,aI a0.fA.fScopes,.sl 1 (a0.fA.fStates.map Aq),.sl 17 (a0.fA.fEdges.map Ab),aI a0.fRate]),(3,.box 39 [aI x3.1.fVerdict,aI x3.1.fBound,.sl 5 (x3.1.fPrefix.map Aj),aI x3.1.fPeriod])]⟩) fun _=>Fy.eq_1 ..
attribute [instance] z1t z1u z1s z1w z1x z1y z0c z0a z09 z0b
instance zep {n a0}:CI E0 (Py n a0) true 161 [.agg [aI a0.fVerdict,aI a0.fBound,.sl 5 (a0.fPrefix.map Aj),aI a0.fPeriod]] (fun r=>.bool (r)):=by unfold Py;exact aZ [3,5] Tryz.func161
instance zeo {n a0 a1 a2 a3}:CI E0 (W4 n a0 a1 a2 a3) true 92 [.sl 2 (a0.map Al),B2 a1,aI a2,.agg [aI a3.fVerdict,aI a3.fBound,.sl 5 (a3.fPrefix.map Aj),aI a3.fPeriod]] aI:=⟨fun {r} hF=>by
 unfold W4 at hF
 refine cw Tryz.func92 ?_
 repeat' first
  |refine AW.step ?_;conv=>whnf
  |refine aW hF (fun hF=>?_) fun hF=>?_
  |refine aX ?_
  |refine aY ?_
  |refine bC hF fun a hF=>?_
  |refine B4.I hF (fun a hF=>?_) rfl rfl fun _=>aG rfl
  |refine aR hF fun x hF=>?_
  |refine AppX.oA hF fun l hF=>?_
  |exact ⟨_,hF,aC [(7044,44)]⟩
  |refine bA hF ?_ fun m v hF=>?_
  |exact bE (bF 10 7044 3 1 rfl rfl) (aC [])
  |refine AndA ?_
  |refine aO ?_
  |exact aE hF⟩
instance zer {n a0 a1 a2 a3}:CI E0 (Me n a0 a1 a2 a3) true 33 [.sl 2 (a0.map Al),B2 a1,aI a2,.agg [aI a3.fVerdict,aI a3.fBound,.sl 5 (a3.fPrefix.map Aj),aI a3.fPeriod]] aI:=by unfold Me;exact aZ [4,10,13] Tryz.func33
theorem z0f {n a0 r}(hF:Vf n a0=some r):Con E0 true 6 [.agg [.sl 2 (a0.fTypes.map Al),aI a0.fA.fVars,aI a0.fA.fScopes,.sl 1 (a0.fA.fStates.map Aq),.sl 17 (a0.fA.fEdges.map Ab),aI a0.fRate]] (.bool (r)):=by
 unfold Vf at hF
 refine cw Tryz.func6 ?_
 repeat' first
  |refine bD hF (fun v hF=>?_) fun hF=>?_
  |refine aF hF fun hF=>?_
  |refine aD [6,8,11,12] ?_;conv=>whnf
  |refine aW hF (fun hF=>?_) fun hF=>?_
  |refine aX ?_
  |refine aY ?_
  |refine Af.o hF z2t (fun a h=>z0v h) (fun a hF=>?_)
  |refine bC hF fun a hF=>?_
  |refine Af.S hF fun a hF=>?_
  |exact ⟨_,hF,aC []⟩
  |refine AndA ?_
  |refine aO ?_
  |exact aE hF
end
section
variable {α:Type} {c:α->α->Int}
theorem TO.asym (h:TO c){a b:α}(k:c a b<0):¬c b a<0:=by have:=h.neg a b;omega
theorem TO.lt_ne (h:TO c){a b:α}(k:c a b<0):a≠b:=fun e=>by subst e;exact h.irr _ k
def Str (c:α->α->Int)(l:List α):Prop:=l.Pairwise (fun x y=>c x y<0)
theorem Str.uniq (h:TO c):∀ {l m:List α},Str c l->Str c m->(∀ x,x∈l ↔ x∈m)->l=m
 |[],[],_,_,_=>rfl
 |[],y::m,_,_,hm=>by have:=(hm y).2 (by simp);simp at this
 |x::l,[],_,_,hm=>by have:=(hm x).1 (by simp);simp at this
 |x::l,y::m,h1,h2,hm=>by
  obtain ⟨a1,a2⟩:=aJ.1 h1
  obtain ⟨b1,b2⟩:=aJ.1 h2
  have hxy:x=y:=by
   rcases aK.1 ((hm x).1 (by simp)) with e|e
   ·exact e
   ·rcases aK.1 ((hm y).2 (by simp)) with e'|e'
    ·exact e'.symm
    ·exact absurd (a1 y e') (h.asym (b1 x e))
  subst hxy
  congr 1
  refine Str.uniq h a2 b2 (fun z=>⟨fun hz=>?_,fun hz=>?_⟩)
  ·rcases aK.1 ((hm z).1 (mem_cons_of_mem _ hz)) with e|e
   ·exact absurd e.symm (h.lt_ne (a1 z hz))
   ·exact e
  ·rcases aK.1 ((hm z).2 (mem_cons_of_mem _ hz)) with e|e
   ·exact absurd e.symm (h.lt_ne (b1 z hz))
   ·exact e
def insU (c:α->α->Int)(x:α):List α->List α
 |[]=>[x]
 |y::l=>if c y x<0 then y::insU c x l else if c y x=0 then y::l else x::y::l
theorem zfp (h:TO c)(x z:α):∀ l:List α,z∈insU c x l ↔ z=x\/z∈l
 |[]=>by simp [insU]
 |y::l=>by
  unfold insU
  split
  ·simp only [aK,zfp h x z l]
   constructor
   ·rintro (h|h|h)<;>simp [h]
   ·rintro (h|h|h)<;>simp [h]
  ·split
   ·rename_i e
    have:=(h.zero _ _).1 e
    subst this
    simp only [aK]
    constructor
    ·intro k;exact aG k
    ·rintro (k|k)
     ·exact aV k
     ·exact k
   ·simp only [aK]
theorem zo6 (h:TO c)(x:α):∀ l:List α,Str c l->Str c (insU c x l)
 |[],_=>by simp [insU,Str]
 |y::l,hl=>by
  obtain ⟨h1,h2⟩:=aJ.1 hl
  unfold insU
  split
  ·rename_i k
   refine aJ.2 ⟨fun z hz=>?_,zo6 h x l h2⟩
   rcases (zfp h x z l).1 hz with e|e
   ·rw [e];exact k
   ·exact h1 z e
  ·split
   ·exact hl
   ·rename_i k1 k2
    have k3:c x y<0:=by have:=h.neg y x;have:=h.one y x;omega
    refine aJ.2 ⟨fun z hz=>?_,hl⟩
    rcases aK.1 hz with e|e
    ·rw [e];exact k3
    ·exact h.trans _ _ _ k3 (h1 z e)
def puts (c:α->α->Int)(s:List α)(l:List α):List α:=l.foldl (fun s x=>insU c x s) s
def setL (c:α->α->Int)(l:List α):List α:=puts c [] l
theorem zhz (s:List α)(x:α)(l:List α):puts c s (x::l)=puts c (insU c x s) l:=rfl
theorem znd (h:TO c)(z:α):∀ (l s:List α),z∈puts c s l ↔ z∈s\/z∈l
 |[],s=>by simp [puts]
 |x::l,s=>by
  rw [zhz,znd h z l,zfp h]
  simp only [aK]
  constructor
  ·rintro ((k|k)|k)<;>simp [k]
  ·rintro (k|k|k)<;>simp [k]
theorem znc (h:TO c):∀ (l s:List α),Str c s->Str c (puts c s l)
 |[],_,hs=>hs
 |x::l,s,hs=>by rw [zhz];exact znc h l _ (zo6 h x s hs)
theorem zn6 (h:TO c)(z:α)(l:List α):z∈setL c l ↔ z∈l:=by unfold setL;rw [znd h];simp
theorem ztr (h:TO c)(l:List α):Str c (setL c l):=znc h l [] (by simp [Str])
variable [DecidableEq α]
def ddA (p:α):List α->List α
 |[]=>[]
 |y::l=>if y=p then ddA p l else y::ddA y l
def dd:List α->List α
 |[]=>[]
 |x::l=>x::ddA x l
end
abbrev Va:=A6
abbrev Ev:=Aw
abbrev Exn:=Ap
abbrev be:ByteArray:=ByteArray.empty
abbrev va0:Va:=⟨0,0,ByteArray.empty⟩
def vcP (v:Va):Int :=
 if v.fKind<0 then 1 else if 2<v.fKind then 1 else if v.fKind=2 then (if v.fNum=0 then (if 64<v.fText.size then 13 else 0) else 3) else
 if v.fText=be then (if v.fKind=1 then (if v.fNum<0 then 2 else if 1<v.fNum then 2 else 0) else if v.fNum < -1099511627776 then 2 else if 1099511627776<v.fNum then 2 else 0) else 3
theorem Yz (n:Nat)(v:Va):Ec n v=some (vcP v):=by
 unfold Ec vcP
 simp only [A3,Ax,Km]
 grind
variable {β:Type}
theorem zms {α:Type}(p:Prop)[Decidable p](x y:Option α)(k:α->Option β):bnd (if p then x else y) k=if p then bnd x k else bnd y k:=by split<;>rfl
theorem p_vc (n:Nat)(v:Va):Gs n v=some (vcP v):=by
 obtain ⟨k,x,t⟩:=v
 unfold Gs Nm vcP
 simp only [A3,Ax,Km]
 by_cases k0:k=0
 ·subst k0
  by_cases ht:t=be
  ·subst ht
   have hs:be.size=0:=rfl
   simp [hs,A0,zms]
   grind
  ·simp [ht]
 ·by_cases k1:k=1
  ·subst k1
   by_cases ht:t=be
   ·subst ht
    have hs:be.size=0:=rfl
    simp [hs,A0,zms]
    grind
   ·simp [ht]
  ·by_cases k2:k=2
   ·subst k2
    simp [A0,zms]
    grind
   grind
theorem zyt (x y:Va):(decide (x.fKind=y.fKind) && (decide (x.fNum=y.fNum) && ((x.fText.toList == y.fText.toList) && true)))=decide (x=y):=by
 cases x;cases y
 simp [Km]
theorem Yc (x:Va):(decide (x.fKind=0) && (decide (x.fNum=0) && ((x.fText.toList == ByteArray.empty.toList) && true)))=decide (x=va0):=zyt x va0
def arP (op:Int):Int:=if op<0 then -1 else if 12<op then -1 else if op<5 then 0 else if op=12 then 1 else 2
theorem zu8 (n:Nat)(op:Int):T5 n op=some (arP op):=by
 unfold T5 arP
 simp only [Am,Aa,G6,Eo,A3,Au,decide_eq_true_eq]
 by_cases h1:op<0
 ·simp [h1,show op≠0 by omega,show op≠1 by omega,show op≠2 by omega,show op≠3 by omega,show op≠4 by omega,show op≠5 by omega,show op≠6 by omega,show op≠7 by omega,show op≠8 by omega,show op≠9 by omega,show op≠10 by omega,show op≠11 by omega,show op≠12 by omega]
 ·by_cases h2:12<op
  ·simp [h1,h2,show op≠0 by omega,show op≠1 by omega,show op≠2 by omega,show op≠3 by omega,show op≠4 by omega,show op≠5 by omega,show op≠6 by omega,show op≠7 by omega,show op≠8 by omega,show op≠9 by omega,show op≠10 by omega,show op≠11 by omega,show op≠12 by omega]
  ·have:op=0\/op=1\/op=2\/op=3\/op=4\/op=5\/op=6\/op=7\/op=8\/op=9\/op=10\/op=11\/op=12:=by omega
   rcases this with rfl|rfl|rfl|rfl|rfl|rfl|rfl|rfl|rfl|rfl|rfl|rfl|rfl<;>rfl
theorem zx8 (n:Nat)(op:Int):Ui n op=some (if op<0 then (0,false) else if 12<op then (0,false) else (arP op,true)):=by
 unfold Ui arP
 simp only [Am,Aa,Nd,A3,Au,decide_eq_true_eq,if_true]
 grind
def usV (op:Int):Bool:=decide (op=1) || decide (op=2) || decide (op=3) || decide (op=4)
def usF (op:Int):Bool:=decide (op=1) || decide (op=4)
theorem zqv (n:Nat)(op:Int):Qm n op=some (usV op,usF op):=by
 unfold Qm
 simp only [Am,Aa,M5,Jg,A3,Au,decide_eq_true_eq,if_true]
 by_cases h1:op=1
 ·subst h1;rfl
 ·by_cases h2:op=2
  ·subst h2;rfl
  ·by_cases h3:op=3
   ·subst h3;rfl
   ·by_cases h4:op=4
    ·subst h4;rfl
    ·simp [usV,usF,h1,h2,h3,h4]
theorem zvp (n:Nat)(op:Int):Rl n op=some (usV op,usF op):=by
 unfold Rl
 simp only [Am,Aa,Ni,Nh,A3,Au,decide_eq_true_eq,if_true]
 by_cases h1:op=1
 ·subst h1;rfl
 ·by_cases h2:op=2
  ·subst h2;rfl
  ·by_cases h3:op=3
   ·subst h3;rfl
   ·by_cases h4:op=4
    ·subst h4;rfl
    ·simp [usV,usF,h1,h2,h3,h4]
def suP (k:Int)(v:Va):Bool:=decide (v.fKind=0) || decide (k=4) || decide (k=5)
theorem zwu (n:Nat)(k:Int)(v:Va):Uh n k v=some (suP k v):=by
 unfold Uh
 simp only [Am,Aa,Ki,A3]
 by_cases h1:v.fKind=0
 ·simp [suP,h1]
 ·by_cases h2:k=4
  ·simp [suP,h1,h2]
  ·simp [suP,h1,h2]
theorem zfd (n:Nat)(k:Int)(v:Va):Mq n k v=some (decide (k=0) || suP k v):=by
 unfold Mq
 simp only [Am,Aa,H9,A3]
 by_cases h1:v.fKind=0
 ·simp [suP,h1]
 ·by_cases h2:k=4
  ·by_cases h3:k=0
   ·simp [suP,h1,h2,h3]
   ·simp [suP,h1,h2]
  ·by_cases h3:k=0
   ·simp [suP,h1,h2,h3]
   ·simp [suP,h1,h2,h3]
def ndP (e:Exn):Int :=
 if arP e.fOp<0 then 1 else if (e.fArgs.length:Int)≠arP e.fOp then 15 else
 if (usV e.fOp && (decide (e.fVar<0) || decide (16<=e.fVar))) || (usF e.fOp && (decide (e.fField<0) || decide (8<=e.fField))) then 2 else
 if decide (e.fOp=4) && (decide (e.fKind<1) || decide (5<e.fKind)) then 1 else
 if (decide (e.fOp=4) || decide (e.fOp=0)) && !decide (vcP e.fValue=0) then vcP e.fValue else
 if decide (e.fOp=4) && (!(suP e.fKind e.fValue) || (decide (e.fKind=1) && !decide (e.fValue=va0))) then 9 else
 if (!(usV e.fOp) && !decide (e.fVar=0)) || (!(usF e.fOp) && !decide (e.fField=0)) || (!decide (e.fOp=4) && !decide (e.fKind=0)) || (!(decide (e.fOp=4) || decide (e.fOp=0)) && !decide (e.fValue=va0)) then 3 else 0
theorem zon (op:Int)(h:¬arP op<0):op=0\/op=1\/op=2\/op=3\/op=4\/(usV op=false/\usF op=false/\op≠0/\op≠4):=by
 unfold arP at h
 by_cases h0:op=0
 ·exact aV h0
 by_cases h1:op=1
 ·exact aG (aV h1)
 by_cases h2:op=2
 ·exact aG (aG (aV h2))
 by_cases h3:op=3
 ·omega
 by_cases h4:op=4
 ·omega
 exact aG (aG (aG (aG (aG ⟨by simp [usV,h1,h2,h3,h4],by simp [usF,h1,h4],h0,h4⟩))))
theorem us0:usV 0=false/\usF 0=false:=by decide
theorem us1:usV 1=true/\usF 1=true:=by decide
theorem us2:usV 2=true/\usF 2=false:=by decide
theorem us3:usV 3=true/\usF 3=false:=by decide
theorem us4:usV 4=true/\usF 4=true:=by decide
theorem zwv (n:Nat)(e:Exn):Mx n e=some (ndP e):=by
 unfold Mx
 rw [zu8,A0,zqv]
 simp only [A0,aB,A3,Ax,Yz,zfd,Am,Aa,E7,Jh,M7,M6,Hh,Bx,Yc]
 unfold ndP
 by_cases ha:arP e.fOp<0
 ·rw [if_pos ha,if_pos ha]
 rw [if_neg ha,if_neg ha]
 by_cases hl:(e.fArgs.length:Int)=arP e.fOp
 rotate_left
 ·rw [if_neg hl,if_pos hl]
 rw [if_pos hl,if_neg (show ¬((e.fArgs.length:Int)≠arP e.fOp) from fun h=>h hl)]
 have hc:=zon e.fOp ha
 obtain ⟨op,args,var,field,kind,val⟩:=e
 simp only at *
 clear hl ha
 rcases hc with rfl|rfl|rfl|rfl|rfl|⟨h1,h2,h3,h4⟩
 ·simp [us0,Au]
  grind
 ·simp [us1,Au]
  grind
 ·simp [us2,Au]
  grind
 ·simp [us3,Au]
  grind
 ·simp [us4,Au]
  grind
 ·simp [h1,h2,h3,h4,Au]
  grind
theorem zly (n:Nat)(e:Exn):U8 n e=some (if vcP e.fValue=0 then (if decide (e.fOp=4) && (!(suP e.fKind e.fValue) || (decide (e.fKind=1) && !decide (e.fValue=va0))) then 9 else 0) else vcP e.fValue):=by
 unfold U8
 rw [p_vc,A0]
 simp only [A3,Ax,zwu,A0,Am,Aa,Hy,Yc]
 obtain ⟨op,args,var,field,kind,val⟩:=e
 simp only
 by_cases h:op=4
 ·subst h
  simp [Au]
  grind
 ·simp [h,Au]
  split<;>rfl
theorem zzf (n:Nat)(e:Exn):Up n e=some (ndP e):=by
 unfold Up
 rw [zx8,A0,zvp]
 simp only [A0,aB,A3,Ax,zly,Am,Aa,Eh,Kk,Nk,Nj,Bz,Yc]
 unfold ndP
 by_cases ha:arP e.fOp<0
 ·rw [if_pos ha]
  have:e.fOp<0\/12<e.fOp:=by
   unfold arP at ha
   by_cases h1:e.fOp<0
   ·exact aV h1
   ·omega
  rcases this with h|h
  ·rw [if_pos h,A7]
  ·by_cases h':e.fOp<0
   ·rw [if_pos h',A7]
   ·rw [if_neg h',if_pos h,A7]
 have hb:¬e.fOp<0/\¬12<e.fOp:=by
  unfold arP at ha
  refine ⟨fun h=>ha (by rw [if_pos h];decide),fun h=>ha ?_⟩
  by_cases h1:e.fOp<0
  ·rw [if_pos h1];decide
  ·rw [if_neg h1,if_pos h];decide
 rw [if_neg hb.1,if_neg hb.2,if_neg ha,A8]
 by_cases hl:(e.fArgs.length:Int)=arP e.fOp
 rotate_left
 ·rw [if_neg hl,if_pos hl]
 rw [if_pos hl,if_neg (show ¬((e.fArgs.length:Int)≠arP e.fOp) from fun h=>h hl)]
 have hc:=zon e.fOp ha
 obtain ⟨op,args,var,field,kind,val⟩:=e
 simp only at *
 clear hl ha hb
 rcases hc with rfl|rfl|rfl|rfl|rfl|⟨h1,h2,h3,h4⟩
 ·simp [us0,Au]
  grind
 ·simp [us1,Au]
  grind
 ·simp [us2,Au]
  grind
 ·simp [us3,Au]
  grind
 ·simp [us4,Au]
  grind
 ·simp [h1,h2,h3,h4,Au]
  grind
inductive ETr:Nat->Exn->Prop
 |mk (l:List (Nat×Exn)) (e:Exn) (h:∀ p∈l,ETr p.1 p.2) (ha:e.fArgs=l.map (fun p=>Ao p.2)):ETr (1+(l.map (·.1)).sum) e
inductive ETrO:Nat->Exn->Prop
 |mk (l:List (Nat×Exn)) (e:Exn) (hn:ndP e=0) (h:∀ p∈l,ETrO p.1 p.2) (ha:e.fArgs=l.map (fun p=>Ao p.2)):ETrO (1+(l.map (·.1)).sum) e
theorem ETr.pos {s:Nat}{e:Exn}(h:ETr s e):1<=s:=by cases h;omega
variable {l:List (Nat×Exn)}
theorem Ie {p:Nat×Exn}(h:p∈l):p.1<=(l.map (·.1)).sum:=by
 induction l with
 |nil=>cases h
 |cons x l ih =>
  grind
theorem O2 (h:∀ p∈l,1<=p.1):l.length<=(l.map (·.1)).sum:=by
 induction l with
 |nil=>simp
 |cons x l ih =>
  grind
def preS (l:List (Nat×Exn))(k:Nat):Nat:=((l.take k).map (·.1)).sum
theorem zi2 {k:Nat}(h:k<l.length):preS l (k+1)=preS l k+l[k].1:=by
 unfold preS
 rw [aN h,map_append,sum_append]
 simp_all
theorem zne {k:Nat}(h:l.length<=k):preS l k=(l.map (·.1)).sum:=by unfold preS;rw [take_of_length_le h]
theorem zqr (l:List (Nat×Exn))(k:Nat):preS l k<=(l.map (·.1)).sum:=by
 unfold preS
 conv=>rhs;rw [<-take_append_drop k l]
 grind
theorem Gz {k:Nat}(h:k<l.length)(K:Exn->Option β):idxD Bp (l.map fun p=>Ao p.2) (k:Int) K=K l[k].2:=by
 unfold idxD
 rw [if_pos (by omega)]
 simp only [Int.toNat_natCast,getElem?_map,getElem?_eq_getElem h,Option.map_some,Ub]
theorem ze9 (most:Int)(hm:0<=most)(hm2:most<=1000000)(n:Nat)(l:List (Nat×Exn))(e:Exn)(ha:e.fArgs=l.map (fun p=>Ao p.2))(hs:(l.map (·.1)).sum<=4000000)(hl:l.length<=4000000)
  (ih:∀ p∈l,∃ c:Int,Du n p.2 most=some c/\1<=c/\c<=p.1/\(c<=most->c=p.1)) :
  ∀ (m k:Nat) (v:Int),k<=l.length->l.length<m+k->1<=v->v<=1+preS l k->(v<=most->v=1+preS l k) ->
   ∃ c:Int,Ep n (Du n) most e (fun y=>some y) m (v,(k:Int))=some c/\1<=c/\c<=1+(l.map (·.1)).sum/\(c<=most->c=1+(l.map (·.1)).sum)
 |0,k,v,h1,h2,_,_,_=>by omega
 |m+1,k,v,h1,h2,h3,h4,h5=>by
  unfold Ep
  simp only [Am,Aa,J7,ha,aB,A3,A7]
  have hle:=zqr l k
  by_cases h:k<l.length
  ·rw [if_pos (by omega)]
   by_cases hv:v<=most
   ·rw [if_pos hv,Gz h]
    obtain ⟨c,c1,c2,c3,c4⟩:=ih l[k] (aP h)
    rw [c1,A0,Ae k (by omega),Cd _ (by have:=Ie (aP h);omega)]
    have hp:=zi2 h
    have hv5:=h5 hv
    exact ze9 most hm hm2 n l e ha hs hl ih m (k+1) (v+c) (by omega) (by omega) (by omega) (by omega) (fun hq=>by have:=c4 (by omega);omega)
   grind
  ·rw [if_neg (by omega)]
   have hp:=zne (l:=l) (k:=k) (by omega)
   grind
theorem zr8 (most:Int)(hm:0<=most)(hm2:most<=1000000):∀ (s:Nat) (e:Exn),ETr s e->s<=4000000->∀ n,s+1<n->∃ c:Int,Du n e most=some c/\1<=c/\c<=s/\(c<=most->c=s):=by
 intro s
 induction s using Nat.strongRecOn with
 |ind s IH =>
  intro e ht hs n hn
  cases ht with
  |mk l e h ha =>
   obtain ⟨n',rfl⟩:∃ n',n=n' + 1:=⟨n-1,by omega⟩
   have hl:=O2 (l:=l) (fun p hp=>(h p hp).pos)
   simp only [Du]
   obtain ⟨c,c1,c2,c3,c4⟩:=ze9 most hm hm2 n' l e ha (by omega) (by omega) (fun p hp=>by
    have:=Ie hp
    exact IH p.1 (by omega) p.2 (h p hp) (by omega) n' (by omega)) n' 0 1 (by omega) (by omega) (by omega) (by omega) (fun _=>by simp [preS])
   grind
theorem zi6 (n:Nat)(l:List (Nat×Exn))(e:Exn)(ha:e.fArgs=l.map (fun p=>Ao p.2))(hs:(l.map (·.1)).sum<=4000000)(hl:l.length<=4000000)
  (ih:∀ p∈l,∃ d:Int,Dt n p.2=some d/\Ia n p.2=some ((p.1:Int),d)/\0<=d/\d<=p.1) :
  ∀ (m k:Nat) (d:Int),k<=l.length->l.length<m+k->0<=d->d<=preS l k ->
   ∃ D:Int,G7 n (Dt n) e (fun y=>some (aM .i64 (y+1))) m (d,(k:Int))=some (D+1)/\Rh n (Ia n) e (fun y0 y1=>some (y0,(aM .i64 (y1+1)))) m (((1+preS l k:Nat):Int),d,(k:Int))=some (((1+(l.map (·.1)).sum:Nat):Int),D+1)/\0<=D/\D<=(l.map (·.1)).sum
 |0,k,d,h1,h2,_,_=>by omega
 |m+1,k,d,h1,h2,h3,h4=>by
  unfold G7 Rh
  simp only [ha,aB,A3]
  have hle:=zqr l k
  by_cases h:k<l.length
  ·rw [if_pos (by omega),if_pos (by omega),Gz h,Gz h]
   obtain ⟨c,c1,c2,c3,c4⟩:=ih l[k] (aP h)
   have hp:=zi2 h
   have hm:=Ie (aP h)
   rw [c1,c2,A0,A0,Ae k (by omega),Cd _ (by omega)]
   have e1:(((1+preS l k:Nat):Int)+((l[k].1:Nat):Int))=((1+preS l (k+1):Nat):Int):=by omega
   simp only
   rw [e1]
   exact zi6 n l e ha hs hl ih m (k+1) (max d c) (by omega) (by omega) (by omega) (by omega)
  ·rw [if_neg (by omega),if_neg (by omega)]
   have hp:=zne (l:=l) (k:=k) (by omega)
   refine ⟨d,by rw [Cd _ (by omega)],?_,h3,by omega⟩
   rw [Cd _ (by omega),hp]
theorem zvr:∀ (s:Nat) (e:Exn),ETr s e->s<=4000000->∀ n,s+1<n->∃ d:Int,Dt n e=some d/\Ia n e=some ((s:Int),d)/\0<=d/\d<=s:=by
 intro s
 induction s using Nat.strongRecOn with
 |ind s IH =>
  intro e ht hs n hn
  cases ht with
  |mk l e h ha =>
   obtain ⟨n',rfl⟩:∃ n',n=n' + 1:=⟨n-1,by omega⟩
   have hl:=O2 (l:=l) (fun p hp=>(h p hp).pos)
   simp only [Dt,Ia]
   obtain ⟨D,d1,d2,d3,d4⟩:=zi6 n' l e ha (by omega) (by omega) (fun p hp=>by
    have:=Ie hp
    exact IH p.1 (by omega) p.2 (h p hp) (by omega) n' (by omega)) n' 0 0 (by omega) (by omega) (by omega) (by simp)
   exact ⟨D+1,d1,d2,by omega,by push_cast;omega⟩
theorem ze4 (n:Nat)(l:List (Nat×Exn))(e:Exn)(ha:e.fArgs=l.map (fun p=>Ao p.2))(hl:l.length<=4000000)
  (ih:∀ p∈l,∃ r:Int,Ea n p.2=some r/\I7 n p.2=some r/\(r=0->ETrO p.1 p.2)) :
  ∀ (m k:Nat),k<=l.length->l.length<m+k->(∀ p∈l.take k,ETrO p.1 p.2) ->
   ∃ r:Int,G5 n (Ea n) e (some 0) m (k:Int)=some r/\Re n (I7 n) e (some 0) m (k:Int)=some r/\(r=0->∀ p∈l,ETrO p.1 p.2)
 |0,k,h1,h2,_=>by omega
 |m+1,k,h1,h2,h3=>by
  unfold G5 Re
  simp only [ha,aB,A3,Ax]
  by_cases h:k<l.length
  ·rw [if_pos (by omega),if_pos (by omega),Gz h,Gz h]
   obtain ⟨r,r1,r2,r3⟩:=ih l[k] (aP h)
   rw [r1,r2,A0,A0,Ae k (by omega)]
   by_cases hr:r=0
   ·rw [if_pos hr,if_pos hr]
    refine ze4 n l e ha hl ih m (k+1) (by omega) (by omega) (fun p hp=>?_)
    rw [aN h,mem_append,mem_singleton] at hp
    grind
   simp_all
  ·rw [if_neg (by omega),if_neg (by omega)]
   grind
theorem zwt:∀ (s:Nat) (e:Exn),ETr s e->s<=4000000->∀ n,s+1<n->∃ r:Int,Ea n e=some r/\I7 n e=some r/\(r=0->ETrO s e):=by
 intro s
 induction s using Nat.strongRecOn with
 |ind s IH =>
  intro e ht hs n hn
  cases ht with
  |mk l e h ha =>
   obtain ⟨n',rfl⟩:∃ n',n=n' + 1:=⟨n-1,by omega⟩
   have hl:=O2 (l:=l) (fun p hp=>(h p hp).pos)
   simp only [Ea,I7,zwv,zzf,A0,Ax,A3]
   by_cases hn0:ndP e=0
   ·rw [if_pos hn0,if_pos hn0]
    obtain ⟨r,r1,r2,r3⟩:=ze4 n' l e ha (by omega) (fun p hp=>by
     have:=Ie hp
     exact IH p.1 (by omega) p.2 (h p hp) (by omega) n' (by omega)) n' 0 (by omega) (by omega) (by simp)
    exact ⟨r,r1,r2,fun hr=>.mk l e hn0 (r3 hr) ha⟩
   simp_all
theorem zra (s:Nat)(e:Exn)(ht:ETr s e)(hs:s<=4000000)(n:Nat)(hn:s+1<n):∃ r:Int,Eb n e=some r/\I8 n e=some r/\(r=0->ETrO s e):=by
 obtain ⟨c,c1,c2,c3,c4⟩:=zr8 64 (by omega) (by omega) s e ht hs n hn
 obtain ⟨d,d1,d2,d3,d4⟩:=zvr s e ht hs n hn
 obtain ⟨r,r1,r2,r3⟩:=zwt s e ht hs n hn
 unfold Eb I8
 rw [c1,d1,d2,r1,r2]
 simp only [A0,A3]
 grind
def wrP (k:Int)(v:Va):Int:=if vcP v=0 then (if suP k v=true then 0 else 9) else vcP v
theorem zlt (n:Nat)(k:Int)(hk:1<=k/\k<=5)(v:Va):Nb n k v=some (wrP k v):=by
 unfold Nb R6 wrP suP
 simp only [p_vc,A0,A3,Ax,Am,Aa,Hx]
 by_cases h:vcP v=0
 ·rw [if_pos h,if_pos h]
  by_cases h0:v.fKind=0
  ·simp [h0,Au,A0]
  ·by_cases h1:k=1
   ·simp [h0,h1,Au,A0]
   ·by_cases h2:k=2
    ·simp [h0,h1,h2,Au,A0]
    ·by_cases h3:k=3
     ·simp [h0,h1,h2,h3,Au,A0]
     ·have:k=4\/k=5:=by omega
      rcases this with rfl|rfl<;>simp [h0,Au,A0]
 ·rw [if_neg h,if_neg h]
theorem znh (n:Nat)(k:Int)(hk:1<=k/\k<=5)(v:Va):Qc n k v=some (wrP k v):=by
 unfold Qc wrP
 simp only [Yz,zfd,A0,A3,Ax]
 have h0:decide (k=0)=false:=by rw [decide_eq_false];omega
 simp only [h0,Bool.false_or]
 by_cases h:vcP v=0
 ·rw [if_pos h,if_pos h]
  cases suP k v<;>simp [Au]
 ·rw [if_neg h,if_neg h]
def comb (k:Int)(a b:Va):Va:=if k=1 then ⟨0,aM .i64 (a.fNum+b.fNum),be⟩ else if k=2 then ⟨0,min a.fNum b.fNum,be⟩ else if k=3 then ⟨0,max a.fNum b.fNum,be⟩ else if k=4 then a else b
theorem zwy (n:Nat)(k:Int)(hk:1<=k/\k<=5)(a b:Va):Ss n k a b=some (comb k a b):=by
 unfold Ss comb
 simp only [A3]
 grind
theorem zzo (n:Nat)(k:Int)(hk:1<=k/\k<=5)(a b:Va):Tw n k a b=some (comb k a b):=by
 unfold Tw comb
 simp only [O4,Cr,A0,Wm,Wl,Wk,Wj,Wh,Wg]
 grind
def AInv (k:Int)(i:Nat)(V:Va):Prop:=if i=0 then V=va0 else if k=1 then V.fKind=0/\V.fText=be/\-((i:Int)*1099511627776)<=V.fNum/\V.fNum<=(i:Int)*1099511627776 else vcP V=0/\suP k V=true
variable {k:Int}{i:Nat}{V:Va}
theorem AInv.check (n:Nat)(hk:1<=k/\k<=5)(hi:i<=4096)(h:AInv k i V):Qd n ⟨k,(i:Int),V⟩=some 0/\U7 n ⟨k,(i:Int),V⟩=some 0:=by
 have w1:aM .i64 ((i:Int)*1099511627776)=(i:Int)*1099511627776:=Cd _ (by omega)
 have w2:aM .i64 (0-(i:Int)*1099511627776)=-((i:Int)*1099511627776):=by rw [Cd _ (by omega)];omega
 have k0:¬k=0:=by omega
 have ka:(0:Int)<=k:=by omega
 have c0:¬(i:Int)<0:=by omega
 have c1:¬4096<(i:Int):=by omega
 unfold Qd U7 K1 R7
 simp only [A0,A3,Ax,Am,Aa,Ji,K5,Lu,Lt,Ha,Ls,My,Yc,p_vc,Yz,w1,w2,ka,hk.2,if_true,decide_true,A8,c0,c1,if_false,decide_false,A7,k0,Km]
 unfold AInv at h
 by_cases hi0:i=0
 ·rw [if_pos hi0] at h
  subst hi0
  subst h
  simp [Au]
 ·rw [if_neg hi0] at h
  have hi1:¬(i:Int)=0:=by omega
  simp only [hi1,if_false,decide_false,A7]
  by_cases k1:k=1
  ·grind
  ·rw [if_neg k1] at h
   obtain ⟨h1,h2⟩:=h
   simp only [k1,if_false,h1,zfd,h2,A0,if_true,Bool.or_true]
   refine ⟨by simp [Au],?_⟩
   have:=zlt n k hk V
   unfold Nb wrP at this
   rw [p_vc,A0] at this
   simp only [h1,h2,if_true,decide_true,Bool.not_true,A7] at this
   cases hs:R6 n k V with
   |none=>rw [hs] at this;unfold bnd at this;cases this
   |some b =>
    rw [hs,A0] at this
    cases b with
    |true=>simp [A0,Au]
    |false=>simp [Au] at this
def Fv (k:Int)(i:Nat)(V x:Va):Va:=if i=0 then x else comb k V x
theorem AInv.step (hk:1<=k/\k<=5)(hi:i<=4096){x:Va}(h:AInv k i V)(hx:wrP k x=0):AInv k (i+1) (Fv k i V x):=by
 have hv:vcP x=0/\suP k x=true:=by
  unfold wrP at hx
  by_cases h1:vcP x=0
  ·simp_all
  ·omega
 have hn:x.fKind=0->x.fText=be/\-1099511627776<=x.fNum/\x.fNum<=1099511627776:=fun h0=>by
  have:=hv.1
  unfold vcP at this
  grind
 have hs:k=1\/k=2\/k=3->x.fKind=0:=fun h=>by
  have:=hv.2
  simp only [suP,Bool.or_eq_true,decide_eq_true_eq] at this
  omega
 have nv:∀ q:Int,-1099511627776<=q->q<=1099511627776->vcP ⟨0,q,be⟩=0:=fun q h1 h2=>by
  unfold vcP
  grind
 unfold AInv at h ⊢
 rw [if_neg (by omega)]
 unfold Fv
 by_cases hi0:i=0
 ·simp_all
 ·rw [if_neg hi0] at h
  rw [if_neg hi0]
  by_cases k1:k=1
  ·rw [if_pos k1] at h ⊢
   obtain ⟨h1,h2,h3,h4⟩:=h
   obtain ⟨a,b,c⟩:=hn (hs (aV k1))
   unfold comb
   rw [if_pos k1]
   rw [Cd _ (by omega)]
   grind
  ·rw [if_neg k1] at h ⊢
   obtain ⟨h1,h2⟩:=h
   have hV:V.fKind=0->-1099511627776<=V.fNum/\V.fNum<=1099511627776:=fun h0=>by
    unfold vcP at h1
    omega
   have hVs:k=2\/k=3->V.fKind=0:=fun h=>by
    simp only [suP,Bool.or_eq_true,decide_eq_true_eq] at h2
    omega
   unfold comb
   rw [if_neg k1]
   by_cases k2:k=2
   ·rw [if_pos k2]
    obtain ⟨a,b,c⟩:=hn (hs (aG (aV k2)))
    obtain ⟨d,e⟩:=hV (hVs (aV k2))
    exact ⟨nv _ (by omega) (by omega),by simp [suP]⟩
   ·rw [if_neg k2]
    by_cases k3:k=3
    ·rw [if_pos k3]
     obtain ⟨a,b,c⟩:=hn (hs (aG (aG k3)))
     obtain ⟨d,e⟩:=hV (hVs (aG k3))
     exact ⟨nv _ (by omega) (by omega),by simp [suP]⟩
    grind
theorem zzd (n:Nat)(hk:1<=k/\k<=5)(hi:i<4096)(h:AInv k i V)(x:Va):N3 n ⟨k,(i:Int),V⟩ x=some (if wrP k x=0 then (⟨k,((i+1:Nat):Int),Fv k i V x⟩,0) else (⟨0,0,⟨0,0,be⟩⟩,wrP k x)):=by
 unfold N3
 rw [(h.check n hk (by omega)).1,A0]
 simp only [znh n k hk,A0,A3,Ax,zwy n k hk,Am,Aa,Jr,if_true]
 rw [Ae i (by omega)]
 by_cases hx:wrP k x=0
 ·rw [if_pos hx,if_pos hx,if_neg (by omega),if_neg (by omega)]
  unfold Fv
  by_cases h0:i=0
  all_goals simp_all
 ·rw [if_neg hx,if_neg hx]
def bad (k:Int):List Va->Option Int
 |[]=>none
 |x::l=>if wrP k x=0 then bad k l else some (wrP k x)
def fV (k:Int):Nat->Va->List Va->Va
 |_,V,[]=>V
 |i,V,x::l=>fV k (i+1) (Fv k i V x) l
theorem zni (n:Nat)(hk:1<=k/\k<=5)(init:Va)(l:List Va)(hl:l.length<=4096)(K:Int->Int->Int->Int->ByteArray->Option (Va×Int)):∀ (m i:Nat) (V:Va),i<=l.length->l.length<m+i->AInv k i V ->
  Gi n init l K m ((i:Int),k,(i:Int),V.fKind,V.fNum,V.fText)=(match bad k (l.drop i) with|some e=>some (va0,e)|none=>K k (l.length:Int) (fV k i V (l.drop i)).fKind (fV k i V (l.drop i)).fNum (fV k i V (l.drop i)).fText)/\(bad k (l.drop i)=none->AInv k l.length (fV k i V (l.drop i)))
 |0,i,V,h1,h2,_=>by omega
 |m+1,i,V,h1,h2,h3=>by
  unfold Gi
  simp only [aB,A3,Ax]
  by_cases h:i<l.length
  ·rw [if_pos (by omega),Ad h]
   have ha:=zzd n hk (i:=i) (by omega) h3 l[i]
   have hV:V=⟨V.fKind,V.fNum,V.fText⟩:=rfl
   rw [<-hV,ha,A0,Di l i h]
   simp only [bad,fV]
   by_cases hx:wrP k l[i]=0
   ·simp only [hx,if_true]
    rw [Ae i (by omega)]
    exact zni n hk init l hl K m (i+1) _ (by omega) (by omega) (h3.step hk (by omega) hx)
   grind
  ·rw [if_neg (by omega),aQ (by omega)]
   have:i=l.length:=by omega
   subst this
   exact ⟨rfl,fun _=>h3⟩
theorem zr1 (n:Nat)(hk:1<=k/\k<=5)(init:Va)(l:List Va)(hl:l.length<=4096)(K:Option (Va×Int)):∀ (m i:Nat),i<=l.length->l.length<m+i->R8 n init l k K m (i:Int)=(match bad k (l.drop i) with|some e=>some (va0,e)|none=>K)
 |0,i,h1,h2=>by omega
 |m+1,i,h1,h2=>by
  unfold R8
  simp only [aB,A3,Ax]
  by_cases h:i<l.length
  ·rw [if_pos (by omega),Ad h,zlt n k hk,A0,Di l i h]
   simp only [bad]
   by_cases hx:wrP k l[i]=0
   ·simp only [hx,if_true]
    rw [Ae i (by omega)]
    exact zr1 n hk init l hl K m (i+1) (by omega) (by omega)
   ·simp only [hx,if_false]
  ·rw [if_neg (by omega),aQ (by omega)]
   rfl
theorem zbt (n:Nat)(hk:1<=k/\k<=5)(l:List Va)(hl:l.length<=4096)(K:Int->Int->Int->Int->ByteArray->Option Bj):∀ (m i:Nat) (V:Va),i<=l.length->l.length<m+i ->
  Qi n k l K m ((i:Int),k,(i:Int),V.fKind,V.fNum,V.fText)=K k (l.length:Int) (fV k i V (l.drop i)).fKind (fV k i V (l.drop i)).fNum (fV k i V (l.drop i)).fText
 |0,i,V,h1,h2=>by omega
 |m+1,i,V,h1,h2=>by
  unfold Qi
  simp only [aB,A3]
  by_cases h:i<l.length
  ·rw [if_pos (by omega),Ad h,Di l i h]
   unfold Wy Wu Wv
   have k0:¬k=0:=by omega
   have hV:V=⟨V.fKind,V.fNum,V.fText⟩:=rfl
   simp only [A3,k0,if_false,A0]
   rw [<-hV,zzo n k hk]
   simp only [fV]
   by_cases h0:i=0
   ·have:((i:Nat):Int)=0:=by omega
    rw [if_pos this,A0,Ae i (by omega)]
    have e:=zbt n hk l hl K m (i+1) (Fv k i V l[i]) (by omega) (by omega)
    have e2:Fv k i V l[i]=l[i]:=by unfold Fv;rw [if_pos h0]
    rw [e2] at e ⊢
    have e3:((i+1:Nat):Int)=1:=by omega
    rw [e3] at e ⊢
    rw [A0]
    exact e
   ·rw [if_neg (by omega),if_neg (by omega),A0,A0,Ae i (by omega)]
    have e:=zbt n hk l hl K m (i+1) (Fv k i V l[i]) (by omega) (by omega)
    have e2:Fv k i V l[i]=comb k V l[i]:=by unfold Fv;rw [if_neg h0]
    rw [e2] at e ⊢
    rw [A0]
    exact e
  ·rw [if_neg (by omega),aQ (by omega)]
   have:i=l.length:=by omega
   subst this
   rfl
theorem zu6 (n:Nat)(hk:1<=k/\k<=5)(hi:i<=4096)(h:AInv k i V)(init:Va):∃ r,Jq n ⟨k,(i:Int),V⟩ init=some r/\R2 n ⟨k,(i:Int),V⟩ init=some r:=by
 obtain ⟨h1,h2⟩:=h.check n hk hi
 unfold Jq R2
 rw [h1,h2]
 simp only [A0,znh n k hk,zlt n k hk,A3,Ax,Am,Aa,Lf,Mv,if_true,Au]
 repeat' split
 all_goals exact ⟨_,rfl,rfl⟩
theorem p_of (n:Nat)(hn:5000<n)(hk:1<=k/\k<=5)(l:List Va)(init:Va):∃ r,I0 n k l init=some r/\Ri n k l init=some r:=by
 unfold I0 Ri K1 R7
 have ka:(0:Int)<=k:=by omega
 simp only [A0,A3,Ax,Am,Aa,Ji,K5,ka,hk.2,if_true,aB,decide_true,A8]
 by_cases h:4096<l.length
 ·rw [if_pos (by omega),if_pos (by omega)]
  exact ⟨_,rfl,rfl⟩
 ·rw [if_neg (by omega),if_neg (by omega)]
  have e1:=zni n hk init l (by omega) (fun y0 y1 y2 y3 y4=>bnd (Jq n (⟨y0,y1,⟨y2,y3,y4⟩⟩:Bj) init) fun x47=>some (x47.1,x47.2)) n 0 va0 (by omega) (by omega) (by simp [AInv])
  have e2:=zr1 n hk init l (by omega) (bnd (U3 n (⟨k,0,⟨0,0,ByteArray.empty⟩⟩:Bj) l k) fun x42=>bnd (R2 n x42 init) fun x43=>some (x43.1,x43.2)) n 0 (by omega) (by omega)
  simp only [aH,drop_zero] at e1 e2
  rw [e1.1,e2]
  cases hb:bad k l with
  |some e=>exact ⟨_,rfl,rfl⟩
  |none =>
   have hi:=e1.2 hb
   have e3:=zbt n hk l (by omega) (fun y0 y1 y2 y3 y4=>some (⟨y0,y1,⟨y2,y3,y4⟩⟩:Bj)) n 0 va0 (by omega) (by omega)
   simp only [aH,drop_zero] at e3
   unfold U3
   rw [e3]
   simp only [A0]
   obtain ⟨r,r1,r2⟩:=zu6 n hk (i:=l.length) (by omega) hi init
   rw [r1,r2]
   simp only [A0]
   exact ⟨_,rfl,rfl⟩
def evs (vs:List (List Ev))(v:Int):List Ev:=if v<0 then [] else if (vs.length:Int)<=v then [] else vs.getD v.toNat []
theorem Kp {α:Type}{l:List α}{i:Int}(d:α)(k:α->Option β)(h0:0<=i)(h1:i<(l.length:Int)):idx l i k=k (l.getD i.toNat d):=by
 obtain ⟨m,rfl⟩:∃ m:Nat,i=m:=⟨i.toNat,by omega⟩
 have hm:m<l.length:=by omega
 rw [Ad hm]
 simp_all
theorem zbn (n:Nat)(vs:List (List Ev))(v:Int):Hl n ⟨vs⟩ v=some (evs vs v):=by
 unfold Hl evs
 simp only [Am,Aa,Ld,aB,A3,A8]
 by_cases h:v<0
 ·rw [if_pos h,if_pos h]
 ·rw [if_neg h,if_neg h]
  by_cases h2:(vs.length:Int)<=v
  ·rw [if_pos h2,if_pos h2]
  ·rw [if_neg h2,if_neg h2,Kp [] _ (by omega) (by omega)]
theorem zfe (n:Nat)(vs:List (List Ev))(own:Int)(ev:Ev)(v:Int):Pp n ⟨vs⟩ own ev v=some (evs vs v):=by
 unfold Pp evs
 simp only [Am,Aa,Kz,aB,A3,A8]
 by_cases h:v<0
 ·rw [if_pos h,if_pos h]
 ·rw [if_neg h,if_neg h]
  by_cases h2:(vs.length:Int)<=v
  ·rw [if_pos h2,if_pos h2]
  ·rw [if_neg h2,if_neg h2,Kp [] _ (by omega) (by omega)]
theorem zr6 (n:Nat)(ev:Ev)(f:Int)(hf:0<=f):Nn n ev f=some (if (ev.fValues.length:Int)<=f then (va0,6) else (ev.fValues.getD f.toNat va0,0)):=by
 unfold Nn
 simp only [aB,A3]
 by_cases h:(ev.fValues.length:Int)<=f
 ·rw [if_pos h,if_pos h]
 ·rw [if_neg h,if_neg h,Kp va0 _ hf (by omega)]
theorem ze5 (n:Nat)(e:Exn)(hf:0<=e.fField)(es:List Ev)(hl:es.length<=1000000)(K K':List Va->Option (Va×Int))(hK:∀ l,∃ r,K l=some r/\K' l=some r):∀ (m i:Nat) (acc:List Va),i<=es.length->es.length<m+i->acc.length=i ->
  ∃ r,Gc n e es K m ((i:Int),acc)=some r/\Oy n e es K' m ((i:Int),acc)=some r
 |0,i,acc,h1,h2,_=>by omega
 |m+1,i,acc,h1,h2,h3=>by
  unfold Gc Oy
  simp only [aB,A3,Ax]
  by_cases h:i<es.length
  ·rw [if_pos (by omega),if_pos (by omega)]
   simp only [Ad h]
   rw [zr6 n _ _ hf,A0]
   by_cases hv:(es[i].fValues.length:Int)<=e.fField
   ·simp_all
   ·rw [if_neg hv,if_neg hv,Kp va0 _ hf (by omega)]
    simp only [if_true]
    rw [Bs (by simp;omega) (by omega),Bs (by simp;omega) (by omega),Ae i (by omega)]
    exact ze5 n e hf es hl K K' hK m (i+1) _ (by omega) (by omega) (by simp;omega)
  ·rw [if_neg (by omega),if_neg (by omega)]
   exact hK acc
theorem znx {e:Exn}(h:ndP e=0):0<=arP e.fOp/\(e.fArgs.length:Int)=arP e.fOp/\(usF e.fOp=true->0<=e.fField)/\(e.fOp=4->1<=e.fKind/\e.fKind<=5):=by
 unfold ndP at h
 grind
inductive Occ (i:Nat):Exn->Prop
 |here (e:Exn) (h:usV e.fOp=true) (hv:e.fVar=(i:Int)):Occ i e
 |sub (e y:Exn) (hy:Ao y∈e.fArgs) (h:Occ i y):Occ i e
theorem zzs {e:Exn}(h:ndP e=0)(hu:usV e.fOp=true):0<=e.fVar/\e.fVar<16:=by
 unfold ndP at h
 grind
theorem zzi (n:Nat)(hn:2000000<n)(e:Exn)(hnd:ndP e=0)(h0:e.fArgs.length=0)(a b:List (List Ev))(hoc:∀ i:Nat,Occ i e->evs a (i:Int)=evs b (i:Int))(hb:∀ v,(evs a v).length<=1000000)(own:Int)(ev:Ev) :
  ∃ r,Hu n e ⟨a⟩ own ev=some r/\Q7 n ⟨b⟩ own ev e=some r:=by
 obtain ⟨f1,f2,f3,f4⟩:=znx hnd
 by_cases o0:e.fOp=0
 ·unfold Hu Q7
  simp only [zbn,zfe,A0,A3,o0,if_true]
  exact ⟨_,rfl,rfl⟩
 have hu:usV e.fOp=true:=by
  unfold arP at f1 f2
  by_cases q1:e.fOp<0
  ·rw [if_pos q1] at f1;omega
  by_cases q2:12<e.fOp
  ·rw [if_neg q1,if_pos q2] at f1;omega
  rw [if_neg q1,if_neg q2] at f2
  by_cases q3:e.fOp<5
  ·unfold usV
   grind
  ·rw [if_neg q3] at f2
   split at f2<;>omega
 have hab:evs a e.fVar=evs b e.fVar:=by
  have hv:=zzs hnd hu
  have:=hoc e.fVar.toNat (.here e hu (by omega))
  rwa [show ((e.fVar.toNat:Nat):Int)=e.fVar by omega] at this
 unfold Hu Q7
 simp only [zbn,zfe,<-hab,A0,A3,Ax,aB]
 rw [if_neg o0,if_neg o0]
 by_cases o3:e.fOp=3
 ·simp_all
 rw [if_neg o3,if_neg o3]
 by_cases o4:e.fOp=4
 ·rw [if_pos o4,if_pos o4]
  unfold Vz
  rw [zfe,<-hab,A0]
  have hf:=f3 (by rw [o4];decide)
  have hk:=f4 o4
  obtain ⟨r,r1,r2⟩:=ze5 n e hf (evs a e.fVar) (hb _) (fun y=>bnd (I0 n e.fKind y e.fValue) fun x44=>some (x44.1,x44.2)) (fun y=>bnd (Ri n e.fKind y e.fValue) fun x43=>some (x43.1,x43.2)) (fun l=>by
   obtain ⟨r,r1,r2⟩:=p_of n (by omega) hk l e.fValue
   exact ⟨r,by rw [r1,A0],by rw [r2,A0]⟩) n 0 [] (by omega) (by have:=hb e.fVar;omega) rfl
  simp only [aH] at r1 r2
  rw [r1,r2]
  exact ⟨r,rfl,by rw [A0]⟩
 rw [if_neg o4,if_neg o4]
 have hop:e.fOp=1\/e.fOp=2:=by
  unfold arP at f1 f2
  by_cases q1:e.fOp<0
  ·rw [if_pos q1] at f1;omega
  by_cases q2:12<e.fOp
  ·rw [if_neg q1,if_pos q2] at f1;omega
  rw [if_neg q1,if_neg q2] at f2
  by_cases q3:e.fOp<5
  ·omega
  ·omega
 simp only [Am,Aa,Li,Lh]
 unfold Qn
 simp only [zbn,A0,A3,Ax,aB]
 have tail:∀ x:Ev,∃ r,(if e.fOp=2 then some ((⟨0,x.fTime,be⟩:Va),(0:Int)) else if (x.fValues.length:Int)<=e.fField then some (va0,6) else idx x.fValues e.fField fun x50=>bnd (Ec n x50) fun x51=>if x51=0 then (idx x.fValues e.fField fun x52=>some (x52,0)) else some (va0,x51))=some r /\
   (if e.fOp=2 then some ((⟨0,x.fTime,be⟩:Va),(0:Int)) else bnd (Nn n (⟨x.fSource,x.fSeq,x.fType,x.fTime,x.fValues⟩:Aw) e.fField) fun x9=>if x9.2=0 then (bnd (Gs n x9.1) fun x12=>if x12=0 then some (x9.1,0) else some (va0,x12)) else if x9.2=0 then some (x9.1,0) else some (va0,x9.2))=some r:=fun x=>by
  by_cases o2:e.fOp=2
  ·simp_all
  rw [if_neg o2,if_neg o2]
  have o1:e.fOp=1:=by omega
  have hf:=f3 (by rw [o1];decide)
  rw [zr6 n _ _ hf,A0]
  by_cases hv:(x.fValues.length:Int)<=e.fField
  ·simp only [hv,if_true]
   exact ⟨_,rfl,rfl⟩
  ·simp only [hv,if_false]
   rw [Kp va0 _ hf (by omega),Kp va0 _ hf (by omega),Yz,p_vc,A0]
   simp only [if_true,A0]
   split
   all_goals simp_all
 by_cases ho:e.fVar=own
 ·rw [if_pos ho,if_pos ho,A0]
  simp only [A8]
  exact tail ev
 ·rw [if_neg ho,if_neg ho]
  by_cases he:(evs a e.fVar).length=0
  ·rw [if_pos (by omega),if_pos (by omega),A0]
   simp only [A7]
   exact ⟨_,rfl,rfl⟩
  ·rw [if_neg (by omega),if_neg (by omega),Cd _ (by have:=hb e.fVar;omega),Kp ev _ (by omega) (by omega),Kp ev _ (by omega) (by omega),A0]
   simp only [A8]
   exact tail _
theorem zp4 (n:Nat)(op:Int)(h:5<=op/\op<=12):Lo n op=some (if op<9 then 0 else if op=9 then -1 else 1):=by
 have:op=5\/op=6\/op=7\/op=8\/op=9\/op=10\/op=11\/op=12:=by omega
 unfold Lo
 simp only [Am,Aa,H5,Iu,A3]
 grind
theorem z8w (n:Nat)(op:Int)(h:5<=op/\op<=12)(ks:List Int)(hl:ks.length<=4000000):∀ (m i:Nat),i<=ks.length->ks.length<m+i->∃ r,Cw n ks op (some 0) m (i:Int)=some r/\Gm n ks op (some 0) m (i:Int)=some r/\(r=0\/r=9)
 |0,i,h1,h2=>by omega
 |m+1,i,h1,h2=>by
  unfold Cw Gm
  simp only [aB,A3,Ax,zp4 n op h,A0,Am,Aa,E5,I1,K7]
  by_cases hi:i<ks.length
  ·have hlt:((i:Nat):Int)<((ks.length:Nat):Int):=by omega
   simp only [hlt,if_true]
   obtain ⟨r,r1,r2,r3⟩:=z8w n op h ks hl m (i+1) (by omega) (by omega)
   rw [Ae i (by omega),r1,r2]
   have hz:∀ (K:Int->Option Int),idx ks 0 K=K (ks.headD 0):=fun K=>by
    have:=Ad (l:=ks) (i:=0) (by omega) K
    simp only [aH] at this
    rw [this]
    congr 1
    cases ks with
    |nil=>simp at hi
    |cons x q=>rfl
   have hx:∀ (K:Int->Option Int),idx ks (i:Int) K=K ks[i]:=fun K=>Ad hi K
   simp only [hz,hx]
   generalize ks[i]=k
   generalize ks.headD 0=k0
   have:op=5\/op=6\/op=7\/op=8\/op=9\/op=10\/op=11\/op=12:=by omega
   clear r1 r2 hz hx h
   rcases this with rfl|rfl|rfl|rfl|rfl|rfl|rfl|rfl
   all_goals
    simp [Au]
    first
    |(by_cases q:k=0<;>simp [q,r3])
    |(by_cases q:k=1<;>simp [q,r3])
    |(by_cases q:k=k0<;>simp [q,r3])
  ·have hlt:¬((i:Nat):Int)<((ks.length:Nat):Int):=by omega
   simp only [hlt,if_false]
   exact ⟨0,rfl,rfl,aV rfl⟩
theorem zr5 (n:Nat)(b:Bool):Dz n b=some (if b=true then ⟨1,1,be⟩ else ⟨1,0,be⟩):=by
 unfold Dz X7
 cases b<;>simp [Au,A0]
theorem zlv (n:Nat)(b:Bool):D7 n b=some (if b=true then ⟨1,1,be⟩ else ⟨1,0,be⟩):=by
 unfold D7
 cases b<;>simp [Au]
end Go.Proofs.YthbogefcfhmpgaaGreat
