/- What some functions compute, over plain values. -/
import Derived.Test.YtidhlpjgifoneaaGreatK28
set_option linter.unusedVariables false
set_option linter.unusedSimpArgs false
set_option maxRecDepth 100000
set_option maxHeartbeats 8000000
namespace Go.Proofs.YtidhlpjgifoneaaGreat
open Go.RowKit List
open List renaming pairwise_cons->aA,mem_cons->aD,mem_cons_of_mem->aL,length_cons->aS
open Or renaming inl->aB,inr->aF
open LeX renaming a->aC,trans->aQ,adopt->aR
open Tryz renaming func136->aE,func208->aG,func93->bA
open ConG renaming up->aH
open RetX renaming oB->aJ
open AW renaming stepU->aK,regO->aN,step->aT
open EqX renaming A->aM
open IdxX renaming A->aO,o->bB
open Aa renaming o->aU,t->aV,f->aW
open Af renaming I->aZ,oM->bD
noncomputable section
abbrev z3i {n b a c}:=li (Dr n b a c) (fun d=>⟨[(1,.row 200000),(2,.ptr 2 0),(6,aI d.1)],[(2,.box 111 (Cm a)),(200000,.row 4 1 (d.2.map AV.bool))]⟩) fun _ _=>Dr.eq_2 ..
abbrev z3h {n b a c}:=li (Pj n b a c) (fun d=>⟨[(1,.row 200000),(2,.ptr 2 0),(6,aI d.1)],[(2,.box 111 (Cm a)),(200000,.row 4 1 (d.2.map AV.bool))]⟩) fun _ _=>Pj.eq_2 ..
abbrev z3g {n b a c}:=li (Pi n b a c) (fun d=>⟨[(1,.row 200000),(2,.ptr 2 0),(6,aI d.1)],[(2,.box 111 (Cm a)),(200000,.row 4 1 (d.2.map AV.bool))]⟩) fun _ _=>Pi.eq_2 ..
abbrev z3f {n b a c}:=li (Ph n b a c) (fun d=>⟨[(1,.row 200000),(2,.ptr 2 0),(6,aI d.1)],[(2,.box 111 (Cm a)),(200000,.row 4 1 (d.2.map AV.bool))]⟩) fun _ _=>Ph.eq_2 ..
abbrev z12 {n a b}:=li (Hz n a b) (fun c=>⟨[(3,.row 6),(4,.row 7023),(5,aI c.1)],[(6,.row 4 1 (a.map AV.bool)),(7023,.row 3 1 (c.2.map aI))]⟩) fun _ _=>Hz.eq_2 ..
abbrev z2q {n a b}:=li (Pd n a b) (fun c=>⟨[(1,.row 200000),(4,.sl 1 (a.map aI)),(5,aI c.1)],[(200000,.row 4 1 (c.2.map AV.bool))]⟩) fun _ _=>Pd.eq_2 ..
abbrev z6x {n b c}:=li (Qu n b c) (fun d=>⟨[(5,.row 11),(8,.sl 17 (b.1.map B7)),(9,aI b.2.1),(10,aI d.1)],[(11,.row 4 1 (d.2.map AV.bool))]⟩) fun _ _=>Qu.eq_2 ..
abbrev z6y {n c}:=li (H4 n c) (fun b=>⟨[(5,.row 11),(8,.sl 17 (b.1.map B7)),(9,aI b.2.1)],[(11,.row 4 1 (b.2.2.map AV.bool))]⟩) fun _ _=>H4.eq_2 ..
abbrev z6z {n d e a b}:=li (Ls n d e a b) (fun c=>⟨[(1,aI d),(2,.ptr 2 0),(5,.row 11),(6,.sl 11 (a.fGuards.map Be)),(7,aI c.1)],[(2,.box 25 (B4 e)),(11,.row 4 1 (c.2.map AV.bool))]⟩) fun _ _=>Ls.eq_2 ..
abbrev z2t {n a b d e f c g h}:=jf (I6 n a b d e f c g h) (fun j=>⟨[(1,.ptr 1 0),(3,.cont (b) 7003),(5,aI d.1),(6,aI e.1),(7,.ptr 7 0),(8,aI c.1),(47,.bool (j))],[(1,.box 25 (B4 a)),(7003,.are 150 (c.2).1 (List.map (enQ AV.bool 4) (c.2).2)),(7,.box 115 (C7 f))]⟩) fun _=>I6.eq_1 ..
abbrev z41 {n a b d e f g}:=li (Eg n a b d e f g) (fun c=>⟨[(1,.ptr 1 0),(3,.cont (b) 7003),(5,aI d.1),(6,aI e.1),(7,.ptr 7 0),(8,aI c.1)],[(1,.box 25 (B4 a)),(7003,.are 150 (c.2).1 (List.map (enQ AV.bool 4) (c.2).2)),(7,.box 115 (C7 f))]⟩) fun _ _=>Eg.eq_2 ..
abbrev z42 {n a b d e}:=li (Gm n a b d e) (fun c=>⟨[(1,.ptr 1 0),(3,.cont (b) 7003),(5,aI d.1),(6,aI c.1)],[(1,.box 25 (B4 a)),(7003,.are 150 (c.2).1 (List.map (enQ AV.bool 4) (c.2).2))]⟩) fun _ _=>Gm.eq_2 ..
abbrev z43 {n a b d}:=li (Ib n a b d) (fun c=>⟨[(1,.ptr 1 0),(3,.cont (b) 7003),(5,aI c.1)],[(1,.box 25 (B4 a)),(7003,.are 150 (c.2).1 (List.map (enQ AV.bool 4) (c.2).2))]⟩) fun _ _=>Ib.eq_2 ..
abbrev z44 {n a c}:=li (Pw n a c) (fun b=>⟨[(1,.ptr 1 0),(3,.cont (b.1) 7003),(4,aI b.2.1)],[(1,.box 25 (B4 a)),(7003,.are 150 (b.2.2).1 (List.map (enQ AV.bool 4) (b.2.2).2))]⟩) fun _ _=>Pw.eq_2 ..
abbrev z8g {n a d b}:=li (Mb n a d b) (fun c=>⟨[(1,aI a),(2,.ptr 2 0),(5,.row 7030),(6,aI c.1)],[(2,.box 60 (Bl d)),(7030,.row 74 3 (c.2.map Bf))]⟩) fun _ _=>Mb.eq_2 ..
attribute [instance] z3i z3h z3g z3f z12 z2q z6x z6y z6z z2t z41 z42 z43 z44 z8g
def z8e (b:B1)(a:(List Bool)):List (Nat×Ent):=[(200000,.row 4 1 (a.map AV.bool))]
def Lr (r:(List Bool)):List (Nat×Ent):=[(200000,.row 4 1 (r.map AV.bool))]
def Qt (r:(List Bool)):AV:=.tup []
def z8a (r:(List Bool)):AS:=⟨[(1,.row 200000)],Lr r⟩
theorem z0k {n d e r}(b:E5 n d e=some r):ConG E0.P none (CalF E0.P 208 0) [Av d,.row 200000] [] (z8e d e) (Qt r) (Lr r):=by
 induction n generalizing d e r
 case zero=>cases b
 case succ n f =>
 unfold E5 at b;refine ConG.walk (E:=(E0p 2)) (caps:=[]) _ aG rfl rfl rfl rfl rfl ?_;repeat' first
  |refine aT ?_;conv=>whnf
  |refine aU b (fun b=>?_) fun b=>?_
  |refine aV ?_
  |refine aW ?_
  |refine aZ b fun a b=>?_
  |refine NatX.o b (fun m b=>?_)
  |refine SetX.o AV.bool b (fun x=>rfl) (fun x=>(by first|exact SubL.refl _|(repeat' first|exact SubL.nil|refine SubL.cons ?_ ?_|exact Sub.refl _|exact Sub.nil _|refine Sub.agg ?_))) (fun l b=>?_)
  |exact GX.A (res:=Qt) (meF:=Lr) b z8a
  |refine IdxX.oD b D4 (fun x b=>?_)
  |refine B9.oM (Bm 43 b) [(200000,200000)] [(200000,200000)] _ _ Lr Qt [] (fun a h=>aH (f h)) (B0 aG rfl rfl) rfl rfl rfl ⟨⟨rfl,rfl⟩,trivial⟩ (fun a=>⟨rfl,rfl,rfl,rfl,rfl,rfl,rfl,rfl⟩) (fun a b=>?_)
  |refine bD (Bm 43 b) [(200000,200000)] [(200000,200000)] _ _ Lr Qt [] (fun a h=>aH (f h)) (B0 aG rfl rfl) rfl rfl rfl ⟨⟨rfl,rfl⟩,trivial⟩ (fun a=>⟨rfl,rfl,rfl,rfl,rfl,rfl,rfl,rfl⟩) (fun a b=>?_)
  |exact ⟨_,b,aC []⟩
  |refine Ax.I b (aC []) fun m v b=>?_
  |refine AndA ?_
  |refine aM ?_
instance zer {n d}:CI E0 (U0 n d) false 177 [Av d] (fun r=>.sl 1 (r.map aI)):=⟨fun {r} b=>by
 unfold U0 at b;refine cw Tryz.func177 ?_;repeat' first
  |refine aN b fun b=>?_
  |refine aK [7] ?_;conv=>whnf
  |refine aU b (fun b=>?_) fun b=>?_
  |refine aV ?_
  |refine aW ?_
  |refine MakX.o AV.bool b (by first|exact SubL.refl _|(repeat' first|exact SubL.nil|refine SubL.cons ?_ ?_|exact Sub.refl _|exact Sub.nil _|refine Sub.agg ?_)) (fun l b=>?_)
  |refine B9.oM (Bm 9 b) [(200000,6)] [(200000,6)] _ _ Lr Qt [] (fun a h=>aH (z0k h)) (B0 aG rfl rfl) rfl rfl rfl ⟨⟨rfl,rfl⟩,trivial⟩ (fun a=>⟨rfl,rfl,rfl,rfl,rfl,rfl,rfl,rfl⟩) (fun a b=>?_)
  |refine bD (Bm 9 b) [(200000,6)] [(200000,6)] _ _ Lr Qt [] (fun a h=>aH (z0k h)) (B0 aG rfl rfl) rfl rfl rfl ⟨⟨rfl,rfl⟩,trivial⟩ (fun a=>⟨rfl,rfl,rfl,rfl,rfl,rfl,rfl,rfl⟩) (fun a b=>?_)
  |refine NatX.o b (fun m b=>?_)
  |refine EltX.o AV.bool b (fun x b=>?_)
  |refine AppX.oA b fun l b=>?_
  |exact ⟨_,b,aC [(7023,23)]⟩
  |exact ⟨_,b,aC []⟩
  |refine Ax.I b ?_ fun m v b=>?_
  |exact aQ (aR 4 7023 3 1 rfl rfl) (aC [])
  |refine AndA ?_
  |refine aM ?_
  |exact aJ b⟩
def z8d (b:B1)(a:(List Bool)):List (Nat×Ent):=[(200000,.row 4 1 (a.map AV.bool))]
def H3 (r:(List Bool)):List (Nat×Ent):=[(200000,.row 4 1 (r.map AV.bool))]
def Io (r:(List Bool)):AV:=.tup []
def z89 (r:(List Bool)):AS:=⟨[(1,.row 200000)],H3 r⟩
theorem Pu {n d e r}(b:Lt n d e=some r):ConG E0.P none (CalF E0.P 136 0) [Av d,.row 200000] [] (z8d d e) (Io r) (H3 r):=by
 unfold Lt at b;refine ConG.walk (E:=(E0p 2)) (caps:=[]) _ aE rfl rfl rfl rfl rfl ?_;repeat' first
  |refine aT ?_;conv=>whnf
  |refine aU b (fun b=>?_) fun b=>?_
  |refine aV ?_
  |refine aW ?_
  |refine aZ b fun a b=>?_
  |exact GX.A (res:=Io) (meF:=H3) b z89
  |refine aO b fun x b=>?_
  |refine NatX.o b (fun m b=>?_)
  |refine SetX.o AV.bool b (fun x=>rfl) (fun x=>(by first|exact SubL.refl _|(repeat' first|exact SubL.nil|refine SubL.cons ?_ ?_|exact Sub.refl _|exact Sub.nil _|refine Sub.agg ?_))) (fun l b=>?_)
  |exact ⟨_,b,aC []⟩
  |refine Ax.I b (aC []) fun m v b=>?_
  |refine AndA ?_
  |refine aM ?_
def V2 (r:(List Bool)):AV:=.row 0
theorem z0n {n e d r}(b:V4 n e d=some r):ConT E0 93 [Bj e,aI d] 4 1 (r.map AV.bool) (V2 r):=by
 unfold V4 at b;refine ConT.walk _ bA rfl (B0 bA rfl rfl) rfl rfl ?_;repeat' first
  |refine aT ?_;conv=>whnf
  |refine aU b (fun b=>?_) fun b=>?_
  |refine aV ?_
  |refine aW ?_
  |refine MakX.o AV.bool b (by first|exact SubL.refl _|(repeat' first|exact SubL.nil|refine SubL.cons ?_ ?_|exact Sub.refl _|exact Sub.nil _|refine Sub.agg ?_)) (fun l b=>?_)
  |refine aO b fun x b=>?_
  |refine aZ b fun a b=>?_
  |refine B9.oM (Bm 46 b) [(200000,11)] [(200000,11)] _ _ H3 Io [] (fun a h=>aH (Pu h)) (B0 aE rfl rfl) rfl rfl rfl ⟨⟨rfl,rfl⟩,trivial⟩ (fun a=>⟨rfl,rfl,rfl,rfl,rfl,rfl,rfl,rfl⟩) (fun a b=>?_)
  |refine bD (Bm 46 b) [(200000,11)] [(200000,11)] _ _ H3 Io [] (fun a h=>aH (Pu h)) (B0 aE rfl rfl) rfl rfl rfl ⟨⟨rfl,rfl⟩,trivial⟩ (fun a=>⟨rfl,rfl,rfl,rfl,rfl,rfl,rfl,rfl⟩) (fun a b=>?_)
  |exact ⟨_,b,aC []⟩
  |refine IdxX.oD b D4 (fun x b=>?_)
  |refine B9.oM (Bm 66 b) [(200000,11)] [(200000,11)] _ _ H3 Io [] (fun a h=>aH (Pu h)) (B0 aE rfl rfl) rfl rfl rfl ⟨⟨rfl,rfl⟩,trivial⟩ (fun a=>⟨rfl,rfl,rfl,rfl,rfl,rfl,rfl,rfl⟩) (fun a b=>?_)
  |refine bD (Bm 66 b) [(200000,11)] [(200000,11)] _ _ H3 Io [] (fun a h=>aH (Pu h)) (B0 aE rfl rfl) rfl rfl rfl ⟨⟨rfl,rfl⟩,trivial⟩ (fun a=>⟨rfl,rfl,rfl,rfl,rfl,rfl,rfl,rfl⟩) (fun a b=>?_)
  |refine Ax.I b (aC []) fun m v b=>?_
  |refine B9.oM (Bm 30 b) [(200000,11)] [(200000,11)] _ _ H3 Io [] (fun a h=>aH (Pu h)) (B0 aE rfl rfl) rfl rfl rfl ⟨⟨rfl,rfl⟩,trivial⟩ (fun a=>⟨rfl,rfl,rfl,rfl,rfl,rfl,rfl,rfl⟩) (fun a b=>?_)
  |refine bD (Bm 30 b) [(200000,11)] [(200000,11)] _ _ H3 Io [] (fun a h=>aH (Pu h)) (B0 aE rfl rfl) rfl rfl rfl ⟨⟨rfl,rfl⟩,trivial⟩ (fun a=>⟨rfl,rfl,rfl,rfl,rfl,rfl,rfl,rfl⟩) (fun a b=>?_)
  |refine AndA ?_
  |refine aM ?_
  |refine TX.o (rl:=fun r=>r.map AV.bool) (res:=V2) b ?_;exact TX.mk _ 11 (LeX.refl _ _ _) _ rfl rfl (by repeat' first|exact Sub.nil _|exact Sub.refl _|refine Sub.agg ?_|refine Sub.tup ?_|refine Sub.fn ?_|exact SubL.nil|refine SubL.cons ?_ ?_|refine Sub.sl _ ?_|exact SubE.nil|refine SubE.cons ?_ ?_)
  |refine TX.o (rl:=fun r=>r.map AV.bool) (res:=V2) b ?_;exact TX.mk _ 9000 (aR 4 9000 4 1 rfl rfl) _ rfl rfl (by repeat' first|exact Sub.nil _|exact Sub.refl _|refine Sub.agg ?_|refine Sub.tup ?_|refine Sub.fn ?_|exact SubL.nil|refine SubL.cons ?_ ?_|refine Sub.sl _ ?_|exact SubE.nil|refine SubE.cons ?_ ?_)
instance zjh {n d}:CI E0 (Mc n d) false 57 [Bj d] (fun r=>.sl 1 (List.map (fun q=>AV.sl 1 (List.map AV.bool q)) (r))):=⟨fun {r} b=>by
 unfold Mc at b;refine cw Tryz.func57 ?_;repeat' first
  |refine AW.arzO (ty:=150) AV.bool b 3 7003 4 rfl rfl rfl (fun b=>?_)
  |refine AW.frqO AV.bool b 7003 rfl (fun b=>?_)
  |refine AW.jI b (fun v b=>?_) fun b=>?_
  |refine aN b fun b=>?_
  |refine AW.frzO b 7003 rfl (fun b=>?_)
  |refine aK [17,14,16,2] ?_;conv=>whnf
  |refine aU b (fun b=>?_) fun b=>?_
  |refine aV ?_
  |refine aW ?_
  |exact ⟨_,b,aC []⟩
  |refine aO b fun x b=>?_
  |refine OpX.ixc b rfl rfl rfl rfl rfl rfl rfl rfl (fun b=>?_)
  |refine OpX.aob b rfl rfl rfl rfl rfl rfl rfl (fun j b=>?_)
  |refine OpX.aix AV.bool b rfl rfl rfl rfl rfl rfl rfl rfl rfl (fun k b=>?_)
  |refine OpX.ald AV.bool b rfl rfl rfl rfl rfl rfl rfl (fun _=>rfl) (fun v b=>?_)
  |refine OpX.asr AV.bool b rfl rfl rfl rfl rfl rfl rfl rfl rfl rfl rfl rfl rfl (fun m b=>?_)
  |refine Ax.I b (aC []) fun m v b=>?_
  |refine Af.oR b (fun r=>r) AV.bool V2 rfl (fun a h=>z0n h) (fun a b=>?_)
  |refine Af.oR b (fun r=>r) AV.bool V2 rfl (fun a h=>ConT.sub (by repeat' first|exact Sub.nil _|exact Sub.refl _|refine Sub.agg ?_|refine Sub.tup ?_|refine Sub.fn ?_|exact SubL.nil|refine SubL.cons ?_ ?_|refine Sub.sl _ ?_|exact SubE.nil|refine SubE.cons ?_ ?_) (z0n h)) (fun a b=>?_)
  |refine OpX.bla AV.bool rfl rfl rfl rfl rfl rfl rfl rfl rfl rfl ?_
  |refine OpX.aap AV.bool b rfl rfl rfl rfl rfl rfl rfl rfl rfl rfl rfl rfl rfl rfl rfl rfl rfl rfl (fun m b=>?_)
  |exact ⟨_,b,aC [(7003,21)]⟩
  |refine AndA ?_
  |refine aM ?_
  |exact aJ b⟩
end
noncomputable section
abbrev z40 {n d a b}:=li (Pv n d a b) (fun c=>⟨[(7,.sl 3 (d.map Bf)),(8,.sl 3 (a.map Bf)),(9,aI c)],[]⟩) fun _ _=>Pv.eq_2 ..
abbrev z2x {n a e f b c}:=jf (Km n a e f b c) (fun d=>⟨[(0,.sl 1 (List.map (fun q=>AV.sl 1 (List.map AV.bool q)) (f))),(4,.ptr 4 0),(5,.ptr 5 0),(8,aI b),(76,.bool (d))],[(4,.box 60 (Bl e)),(5,.box 60 (Bl a))]⟩) fun _=>Km.eq_1 ..
abbrev z2u {n a d e b}:=li (Gi n a d e b) (fun c=>⟨[(0,.sl 1 (List.map (fun q=>AV.sl 1 (List.map AV.bool q)) (e))),(4,.ptr 4 0),(5,.ptr 5 0),(8,aI c)],[(4,.box 60 (Bl d)),(5,.box 60 (Bl a))]⟩) fun _ _=>Gi.eq_2 ..
abbrev z2w {n a e f b c}:=jf (Kl n a e f b c) (fun d=>⟨[(0,.sl 1 (List.map (fun q=>AV.sl 1 (List.map AV.bool q)) (f))),(4,.ptr 4 0),(5,.ptr 5 0),(7,aI b),(57,.bool (d))],[(4,.box 60 (Bl e)),(5,.box 60 (Bl a))]⟩) fun _=>Kl.eq_1 ..
abbrev z2v {n a d e b}:=li (I7 n a d e b) (fun c=>⟨[(0,.sl 1 (List.map (fun q=>AV.sl 1 (List.map AV.bool q)) (e))),(4,.ptr 4 0),(5,.ptr 5 0),(7,aI c)],[(4,.box 60 (Bl d)),(5,.box 60 (Bl a))]⟩) fun _ _=>I7.eq_2 ..
abbrev z2y {n a d e}:=jf (Ko n a d e) (fun b=>⟨[(0,.sl 1 (List.map (fun q=>AV.sl 1 (List.map AV.bool q)) (e))),(4,.ptr 4 0),(5,.ptr 5 0),(22,.bool (b))],[(4,.box 60 (Bl d)),(5,.box 60 (Bl a))]⟩) fun _=>Ko.eq_1 ..
abbrev z2r {n a e b c}:=li (Fm n a e b c) (fun d=>⟨[(0,.sl 1 (List.map (fun q=>AV.sl 1 (List.map AV.bool q)) (e))),(1,.sl 3 (a.map A4)),(5,.row 7061),(6,aI b.1),(7,.bool (d.1)),(8,aI d.2)],[(7061,.row 60 3 (b.2.map A4))]⟩) fun _ _=>Fm.eq_2 ..
abbrev z2s {n a d b}:=li (Gh n a d b) (fun c=>⟨[(0,.sl 1 (List.map (fun q=>AV.sl 1 (List.map AV.bool q)) (d))),(1,.sl 3 (a.map A4)),(5,.row 7061),(6,aI c.1)],[(7061,.row 60 3 (c.2.map A4))]⟩) fun _ _=>Gh.eq_2 ..
abbrev z1f {n a e f b c}:=jf (Ka n a e f b c) (fun d=>⟨[(1,.sl 5 (e.map A6)),(2,.sl 4 (a.map Ar)),(3,.ptr 3 0),(7,aI b),(51,.bool (d))],[(3,.box 25 (B4 f))]⟩) fun _=>Ka.eq_1 ..
abbrev z1g {n a e f b c}:=jf (Kb n a e f b c) (fun d=>⟨[(1,.sl 5 (e.map A6)),(2,.sl 4 (a.map Ar)),(3,.ptr 3 0),(7,aI b),(34,.bool (d))],[(3,.box 25 (B4 f))]⟩) fun _=>Kb.eq_1 ..
abbrev z1e {n a d e b}:=li (Gf n a d e b) (fun c=>⟨[(1,.sl 5 (d.map A6)),(2,.sl 4 (a.map Ar)),(3,.ptr 3 0),(7,aI c)],[(3,.box 25 (B4 e))]⟩) fun _ _=>Gf.eq_2 ..
attribute [instance] z40 z2x z2u z2w z2v z2y z2r z2s     z1f z1g z1e
instance zox {n d b}:CI E0 (S5 n d b) false 178 [A4 d,aI b] (fun r=>.sl 3 (r.map Bf)):=⟨fun {r} a=>by
 unfold S5 at a;refine cw Tryz.func178 ?_;repeat' first
  |refine aN a fun a=>?_
  |refine aK [5] ?_;conv=>whnf
  |refine aU a (fun a=>?_) fun a=>?_
  |refine aV ?_
  |refine aW ?_
  |refine aO a fun x a=>?_
  |refine AppX.oA a fun l a=>?_
  |exact ⟨_,a,aC [(7030,30)]⟩
  |exact ⟨_,a,aC []⟩
  |refine Ax.I a ?_ fun m v a=>?_
  |exact aQ (aR 5 7030 74 3 rfl rfl) (aC [])
  |refine AndA ?_
  |refine aM ?_
  |exact aJ a⟩
instance zjg {n d b a}:CI E0 (Un n d b a) true 137 [A4 d,A4 b,aI a] (fun r=>.bool (r)):=by unfold Un;exact CI.w [] Tryz.func137
instance zhs {n f e d}:CI E0 (Lv n f e d) true 94 [.sl 1 (List.map (fun q=>AV.sl 1 (List.map AV.bool q)) (f)),A4 e,A4 d] (fun r=>.bool (r)):=⟨fun {r} b=>by
 unfold Lv at b;refine cw Tryz.func94 ?_;repeat' first
  |refine AW.jI b (fun v b=>?_) fun b=>?_
  |refine aN b fun b=>?_
  |refine aK [1,6,11] ?_;conv=>whnf
  |refine aU b (fun b=>?_) fun b=>?_
  |refine aV ?_
  |refine aW ?_
  |exact ⟨_,b,aC []⟩
  |refine bB (fun q=>AV.sl 1 (List.map AV.bool q)) b fun x b=>?_
  |refine aO b fun x b=>?_
  |refine aZ b fun a b=>?_
  |refine Ax.I b (aC []) fun m v b=>?_
  |refine AndA ?_
  |refine aM ?_
  |exact aJ b⟩
instance zhr {n e d}:CI E0 (Qv n e d) false 58 [.sl 1 (List.map (fun q=>AV.sl 1 (List.map AV.bool q)) (e)),.sl 3 (d.map A4)] (fun r=>.sl 3 (r.map A4)):=⟨fun {r} b=>by
 unfold Qv at b;refine cw Tryz.func58 ?_;repeat' first
  |refine aN b fun b=>?_
  |refine aK [9,11] ?_;conv=>whnf
  |refine aU b (fun b=>?_) fun b=>?_
  |refine aV ?_
  |refine aW ?_
  |refine aO b fun x b=>?_
  |refine AppX.oA b fun l b=>?_
  |exact ⟨_,b,aC [(7061,61)]⟩
  |exact ⟨_,b,aC []⟩
  |refine aZ b fun a b=>?_
  |refine Ax.I b ?_ fun m v b=>?_
  |exact aC []
  |exact aQ (aR 5 7061 60 3 rfl rfl) (aC [])
  |refine AndA ?_
  |refine aM ?_
  |exact aJ b⟩
instance zfd {n d b a}:CI E0 (Y0 n d b a) true 123 [Bj d,.sl 5 (b.map A6),.sl 4 (a.map Ar)] aI:=by unfold Y0;exact CI.w [6,8] Tryz.func123
end
noncomputable section
abbrev z30 {n a e b c}:=jf (Kp n a e b c) (fun d=>⟨[(1,.sl 2 (a.map Ae)),(2,.ptr 2 0),(5,aI b),(59,.bool (d))],[(2,.box 25 (B4 e))]⟩) fun _=>Kp.eq_1 ..
abbrev z31 {n a e b c}:=jf (Gj n a e b c) (fun d=>⟨[(1,.sl 2 (a.map Ae)),(2,.ptr 2 0),(5,aI b),(43,.bool (d))],[(2,.box 25 (B4 e))]⟩) fun _=>Gj.eq_1 ..
abbrev z2z {n a d b}:=li (Fn n a d b) (fun c=>⟨[(1,.sl 2 (a.map Ae)),(2,.ptr 2 0),(5,aI c)],[(2,.box 25 (B4 d))]⟩) fun _ _=>Fn.eq_2 ..
abbrev z38 {n a d e}:=jf (Kt n a d e) (fun b=>⟨[(1,.sl 5 (d.map A6)),(3,.ptr 3 0),(5,.ptr 5 0),(18,.bool (b))],[(3,.box 25 (B4 e)),(5,.box 60 (Bl a))]⟩) fun _=>Kt.eq_1 ..
abbrev z5o {n a g h b e c d}:=jf (Lf n a g h b e c d) (fun f=>⟨[(1,.sl 5 (g.map A6)),(3,.ptr 3 0),(5,.ptr 5 0),(7,aI b),(8,.sl 3 (e.map A4)),(9,aI c),(65,.bool (f))],[(3,.box 25 (B4 h)),(5,.box 31 [.sl 1 (List.map (fun q=>AV.sl 3 (List.map A4 q)) (a.fSets))])]⟩) fun _=>Lf.eq_1 ..
abbrev z5m {n a f g b d c}:=li (Ig n a f g b d c) (fun e=>⟨[(1,.sl 5 (f.map A6)),(3,.ptr 3 0),(5,.ptr 5 0),(7,aI b),(8,.sl 3 (d.map A4)),(9,aI e)],[(3,.box 25 (B4 g)),(5,.box 31 [.sl 1 (List.map (fun q=>AV.sl 3 (List.map A4 q)) (a.fSets))])]⟩) fun _ _=>Ig.eq_2 ..
abbrev z5n {n a d e b}:=li (Qj n a d e b) (fun c=>⟨[(1,.sl 5 (d.map A6)),(3,.ptr 3 0),(5,.ptr 5 0),(7,aI c)],[(3,.box 25 (B4 e)),(5,.box 31 [.sl 1 (List.map (fun q=>AV.sl 3 (List.map A4 q)) (a.fSets))])]⟩) fun _ _=>Qj.eq_2 ..
abbrev z1v {n a d e b}:=li (Oy n a d e b) (fun c=>⟨[(0,.sl 1 (List.map (fun q=>AV.sl 1 (List.map AV.bool q)) (e))),(1,.sl 3 (d.map A4)),(5,.ptr 5 0),(7,aI c)],[(5,.box 60 (Bl a))]⟩) fun _ _=>Oy.eq_2 ..
abbrev z2n {n a g h b c e d}:=li (Pa n a g h b c e d) (fun f=>⟨[(1,.sl 5 (g.map A6)),(3,.ptr 3 0),(5,.ptr 5 0),(7,.sl 1 (List.map (fun q=>AV.sl 1 (List.map AV.bool q)) (b.1))),(8,aI b.2),(9,aI c),(10,.sl 3 (e.1.map A4)),(12,aI f)],[(3,.box 25 (B4 h)),(5,.box 31 [.sl 1 (List.map (fun q=>AV.sl 3 (List.map A4 q)) (a.fSets))])]⟩) fun _ _=>Pa.eq_2 ..
abbrev z2o {n a e f b c}:=li (Pb n a e f b c) (fun d=>⟨[(1,.sl 5 (e.map A6)),(3,.ptr 3 0),(5,.ptr 5 0),(7,.sl 1 (List.map (fun q=>AV.sl 1 (List.map AV.bool q)) (b.1))),(8,aI b.2),(9,aI d)],[(3,.box 25 (B4 f)),(5,.box 31 [.sl 1 (List.map (fun q=>AV.sl 3 (List.map A4 q)) (a.fSets))])]⟩) fun _ _=>Pb.eq_2 ..
abbrev z2p {n a d e b}:=li (Pc n a d e b) (fun c=>⟨[(1,.sl 5 (d.map A6)),(3,.ptr 3 0),(5,.ptr 5 0),(7,.sl 1 (List.map (fun q=>AV.sl 1 (List.map AV.bool q)) (c.1))),(8,aI c.2)],[(3,.box 25 (B4 e)),(5,.box 31 [.sl 1 (List.map (fun q=>AV.sl 3 (List.map A4 q)) (a.fSets))])]⟩) fun _ _=>Pc.eq_2 ..
attribute [instance] z30 z31 z2z z38 z5o z5m z5n z1v z2n z2o z2p   
instance zht {n b a}:CI E0 (Ya n b a) true 124 [Bj b,.sl 2 (a.map Ae)] aI:=by unfold Ya;exact CI.w [4,6] Tryz.func124
instance zhx {n d b a}:CI E0 (Qy n d b a) true 86 [Bj d,.sl 5 (b.map A6),A4 a] aI:=by unfold Qy;exact CI.w [1] Tryz.func86
instance zks {n f e d}:CI E0 (Uu n f e d) true 50 [Bj f,.sl 5 (e.map A6),.agg [.sl 1 (List.map (fun q=>AV.sl 3 (List.map A4 q)) (d.fSets))]] aI:=⟨fun {r} b=>by
 unfold Uu at b;refine cw Tryz.func50 ?_;repeat' first
  |refine AW.jI b (fun v b=>?_) fun b=>?_
  |refine aN b fun b=>?_
  |refine aK [15] ?_;conv=>whnf
  |refine aU b (fun b=>?_) fun b=>?_
  |refine aV ?_
  |refine aW ?_
  |refine bB (fun q=>AV.sl 3 (List.map A4 q)) b fun x b=>?_
  |exact ⟨_,b,aC []⟩
  |refine SlsX.o A6 b (fun l b=>?_)
  |refine aO b fun x b=>?_
  |refine aZ b fun a b=>?_
  |refine Ax.I b (aC []) fun m v b=>?_
  |refine AndA ?_
  |refine aM ?_
  |exact aJ b⟩
instance zg4 {n d b a}:CI E0 (Qk n d b a) true 87 [.sl 1 (List.map (fun q=>AV.sl 1 (List.map AV.bool q)) (d)),.sl 3 (b.map A4),A4 a] (fun r=>.bool (r)):=by unfold Qk;exact CI.w [] Tryz.func87
instance zhp {n f e d}:CI E0 (Ue n f e d) true 51 [Bj f,.sl 5 (e.map A6),.agg [.sl 1 (List.map (fun q=>AV.sl 3 (List.map A4 q)) (d.fSets))]] (fun r=>.bool (r)):=⟨fun {r} b=>by
 unfold Ue at b;refine cw Tryz.func51 ?_;repeat' first
  |refine aT ?_;conv=>whnf
  |refine aU b (fun b=>?_) fun b=>?_
  |refine aV ?_
  |refine aW ?_
  |refine aZ b fun a b=>?_
  |refine bB (fun q=>AV.sl 3 (List.map A4 q)) b fun x b=>?_
  |exact ⟨_,b,aC []⟩
  |refine aO b fun x b=>?_
  |refine Ax.I b (aC []) fun m v b=>?_
  |refine AndA ?_
  |refine aM ?_
  |exact aJ b⟩
instance zhq {n d b a}:CI E0 (Ip n d b a) true 18 [Bj d,.sl 5 (b.map A6),.agg [.sl 1 (List.map (fun q=>AV.sl 3 (List.map A4 q)) (a.fSets))]] aI:=by unfold Ip;exact CI.w [] Tryz.func18
end
noncomputable section
abbrev z1d {n d a b}:=li (Ow n d a b) (fun c=>⟨[(5,.ptr 5 0),(6,.ptr 6 0),(9,.sl 1 (List.map (fun q=>AV.sl 1 (List.map AV.bool q)) (a))),(10,.ptr 10 0),(11,aI c.1)],[(5,.box 31 [.sl 1 (List.map (fun q=>AV.sl 3 (List.map A4 q)) (d.fSets))]),(6,.box 31 [.nils]),(10,.box 31 [.row 7039]),(7039,.row 57 1 (List.map (fun q=>AV.sl 3 (List.map A4 q)) (c.2)))]⟩) fun _ _=>Ow.eq_2 ..
abbrev z06 {n}:=jf (Hw n) (fun b=>⟨[(6,.bool (b))],[]⟩) fun _=>Hw.eq_1 ..
abbrev z07 {n a d e}:=jf (Ey n a d e) (fun b=>⟨[(1,.sl 5 (d.map A6)),(3,.ptr 3 0),(5,.ptr 5 0),(19,.bool (b))],[(3,.box 25 (B4 e)),(5,.box 31 [.sl 1 (List.map (fun q=>AV.sl 3 (List.map A4 q)) (a.fSets))])]⟩) fun _=>Ey.eq_1 ..
attribute [instance] z1d z06 z07
instance zfc {n f e d}:CI E0 (L1 n f e d) false 25 [Bj f,.sl 5 (e.map A6),.agg [.sl 1 (List.map (fun q=>AV.sl 3 (List.map A4 q)) (d.fSets))]] (fun r=>.tup [.agg [.sl 1 (List.map (fun q=>AV.sl 3 (List.map A4 q)) (r.1.fSets))],aI r.2]):=⟨fun {r} b=>by
 unfold L1 at b;refine cw Tryz.func25 ?_;repeat' first
  |refine aT ?_;conv=>whnf
  |refine aU b (fun b=>?_) fun b=>?_
  |refine aV ?_
  |refine aW ?_
  |refine aZ b fun a b=>?_
  |refine bB (fun q=>AV.sl 3 (List.map A4 q)) b fun x b=>?_
  |refine AppX.oA b fun l b=>?_
  |exact ⟨_,b,aC [(7039,39)]⟩
  |refine Ax.I b ?_ fun m v b=>?_
  |exact aQ (LeX.adoptC 10 0 7039 57 1 31 _ rfl rfl rfl) (aC [])
  |refine AndA ?_
  |refine aM ?_
  |exact aJ b⟩
theorem z0f {n f e d r}(b:Xt n f e d=some r):Con E0 true 9 [Bj f,.sl 5 (e.map A6),.agg [.sl 1 (List.map (fun q=>AV.sl 3 (List.map A4 q)) (d.fSets))]] (.bool (r)):=by
 unfold Xt at b;refine cw Tryz.func9 ?_;repeat' first
  |refine AW.jI b (fun v b=>?_) fun b=>?_
  |refine aN b fun b=>?_
  |refine aK [1,5] ?_;conv=>whnf
  |refine aU b (fun b=>?_) fun b=>?_
  |refine aV ?_
  |refine aW ?_
  |refine aZ b fun a b=>?_
  |exact ⟨_,b,aC []⟩
  |refine AndA ?_
  |refine aM ?_
  |exact aJ b
end
section
variable {α:Type} {c:α->α->Int}
theorem TO.asym (h:TO c){a b:α}(k:c a b<0):¬c b a<0:=by have:=h.neg a b;omega
theorem TO.lt_ne (h:TO c){a b:α}(k:c a b<0):a≠b:=fun e=>by subst e;exact h.irr _ k
def Str (c:α->α->Int)(l:List α):Prop:=l.Pairwise (fun x y=>c x y<0)
theorem Str.uniq (h:TO c):∀ {l m:List α},Str c l->Str c m->(∀ x,x∈l ↔ x∈m)->l=m
 |[],[],_,_,_=>rfl
 |[],y::m,_,_,hm=>by have:=(hm y).2 (by simp);simp at this
 |x::l,[],_,_,hm=>by have:=(hm x).1 (by simp);simp at this
 |x::l,y::m,h1,i,hm=>by
  obtain ⟨g,k⟩:=aA.1 h1;obtain ⟨f,j⟩:=aA.1 i;have b:x=y:=by
   rcases aD.1 ((hm x).1 (by simp)) with e|e
   ·exact e
   ·rcases aD.1 ((hm y).2 (by simp)) with d|d
    ·exact d.symm
    ·exact absurd (g y d) (h.asym (f x e))
  subst b;congr 1;refine Str.uniq h k j (fun z=>⟨fun a=>?_,fun a=>?_⟩)
  ·rcases aD.1 ((hm z).1 (aL _ a)) with e|e
   ·exact absurd e.symm (h.lt_ne (g z a))
   ·exact e
  ·rcases aD.1 ((hm z).2 (aL _ a)) with e|e
   ·exact absurd e.symm (h.lt_ne (f z a))
   ·exact e
def insU (c:α->α->Int)(x:α):List α->List α
 |[]=>[x]
 |y::l=>if c y x<0 then y::insU c x l else if c y x=0 then y::l else x::y::l
theorem Xb (h:TO c)(x z:α):∀ l:List α,z∈insU c x l ↔ z=x\/z∈l
 |[]=>by simp [insU]
 |y::l=>by
  unfold insU;split
  ·simp only [aD,Xb h x z l];constructor
   ·rintro (h|h|h)<;>simp [h]
   ·rintro (h|h|h)<;>simp [h]
  ·split
   ·rename_i e;have:=(h.zero _ _).1 e;subst this;simp only [aD];constructor
    ·intro k;exact aF k
    ·rintro (k|k)
     ·exact aB k
     ·exact k
   ·simp only [aD]
theorem ztb (h:TO c)(x:α):∀ l:List α,Str c l->Str c (insU c x l)
 |[],_=>by simp [insU,Str]
 |y::l,b=>by
  obtain ⟨h1,f⟩:=aA.1 b;unfold insU;split
  ·rename_i k;refine aA.2 ⟨fun z a=>?_,ztb h x l f⟩;rcases (Xb h x z l).1 a with e|e
   ·rw [e];exact k
   ·exact h1 z e
  ·split
   ·exact b
   ·rename_i i g;have d:c x y<0:=by have:=h.neg y x;have:=h.one y x;omega
    refine aA.2 ⟨fun z a=>?_,b⟩;rcases aD.1 a with e|e
    ·rw [e];exact d
    ·exact h.trans _ _ _ d (h1 z e)
theorem O3 (c:α->α->Int)(x:α):∀ l:List α,(insU c x l).length<=l.length+1
 |[]=>by simp [insU]
 |y::l=>by
  unfold insU;have:=O3 c x l;split
  ·simp only [aS];omega
  ·split<;>simp only [aS]<;>omega
def puts (c:α->α->Int)(s:List α)(l:List α):List α:=l.foldl (fun s x=>insU c x s) s
def setL (c:α->α->Int)(l:List α):List α:=puts c [] l
theorem Jn (s:List α)(x:α)(l:List α):puts c s (x::l)=puts c (insU c x s) l:=rfl
theorem Zd (s l m:List α):puts c s (l++m)=puts c (puts c s l) m:=by simp [puts,foldl_append]
theorem Xa (h:TO c)(z:α):∀ (l s:List α),z∈puts c s l ↔ z∈s\/z∈l
 |[],s=>by simp [puts]
 |x::l,s=>by
  rw [Jn,Xa h z l,Xb h];simp only [aD];constructor
  ·rintro ((k|k)|k)<;>simp [k]
  ·rintro (k|k|k)<;>simp [k]
theorem zs1 (h:TO c):∀ (l s:List α),Str c s->Str c (puts c s l)
 |[],_,a=>a
 |x::l,s,a=>by rw [Jn];exact zs1 h l _ (ztb h x s a)
theorem zct:∀ (l s:List α),(puts c s l).length<=s.length+l.length
 |[],s=>by simp [puts]
 |x::l,s=>by
  rw [Jn];have:=zct l (insU c x s);have:=O3 c x s;simp only [aS];omega
theorem Dm (h:TO c)(z:α)(l:List α):z∈setL c l ↔ z∈l:=by unfold setL;rw [Xa h];simp
theorem X9 (h:TO c)(l:List α):Str c (setL c l):=zs1 h l [] (by simp [Str])
theorem zcq (l:List α):(setL c l).length<=l.length:=by have:=zct (c:=c) l [];simpa [setL] using this
theorem zw7 (h:TO c){l m:List α}(hm:∀ x,x∈l ↔ x∈m):setL c l=setL c m:=Str.uniq h (X9 h l) (X9 h m) (fun x=>by rw [Dm h,Dm h,hm])
theorem zpc (h:TO c){l:List α}(a:Str c l):setL c l=l:=Str.uniq h (X9 h l) a (fun x=>Dm h x l)
variable [DecidableEq α]
def ddA (p:α):List α->List α
 |[]=>[]
 |y::l=>if y=p then ddA p l else y::ddA y l
def dd:List α->List α |[]=>[] |x::l=>x::ddA x l
theorem zje (p z:α):∀ l:List α,ddA p (l++[z])=ddA p l++(if z=(p::l).getLast (by simp) then [] else [z])
 |[]=>by by_cases h:z=p<;>simp [ddA,h]
 |y::l=>by
  have e:(p::y::l).getLast (by simp)=(y::l).getLast (by simp):=by rw [getLast_cons (by simp)]
  simp only [cons_append,ddA];rw [e];by_cases h:y=p
  ·subst h;rw [if_pos rfl,if_pos rfl,zje y z l]
  ·rw [if_neg h,if_neg h,zje y z l];rfl
theorem Jw (l:List α)(z:α)(h:l≠[]):dd (l++[z])=dd l++(if z=l.getLast h then [] else [z]):=by
 cases l with
 |nil=>exact absurd rfl h
 |cons x l =>
  show x::ddA x (l++[z])=_;rw [zje];rfl
theorem zqo (x:α):∀ (l:List α) (p:α),x∈ddA p l\/x=p ↔ x∈l\/x=p
 |[],p=>by simp [ddA]
 |y::l,p=>by
  unfold ddA;split
  ·rename_i h;subst h;rw [zqo x l y];simp only [aD];constructor
   ·rintro (k|k)<;>simp [k]
   ·rintro ((k|k)|k)<;>simp [k]
  ·have:=zqo x l y;simp only [aD];constructor
   ·rintro ((k|k)|k)
    ·exact aB (aB k)
    ·rcases this.1 (aB k) with q|q
     ·exact aB (aF q)
     ·exact aB (aB q)
    ·exact aF k
   ·rintro ((k|k)|k)
    ·exact aB (aB k)
    ·rcases this.2 (aB k) with q|q
     ·exact aB (aF q)
     ·exact aB (aB q)
    ·exact aF k
theorem y7p (x:α)(l:List α):x∈dd l ↔ x∈l:=by
 cases l with
 |nil=>simp [dd]
 |cons y l =>
  simp only [dd,aD];have:=zqo x l y;constructor
  ·rintro (k|k)
   ·exact aB k
   ·rcases this.1 (aB k) with q|q
    ·exact aF q
    ·exact aB q
  ·rintro (k|k)
   ·exact aB k
   ·rcases this.2 (aB k) with q|q
    ·exact aF q
    ·exact aB q
theorem zqn (h:TO c):∀ (l:List α) (p:α),(p::l).Pairwise (fun x y=>ltOf c y x=false)->Str c (p::ddA p l)
 |[],p,_=>by simp [ddA,Str]
 |y::l,p,i=>by
  obtain ⟨h1,g⟩:=aA.1 i;have d:∀ z,z∈y::l->¬c z p<0:=fun z a=>of_decide_eq_false (h1 z a)
  unfold ddA;split
  ·rename_i e;refine zqn h l p (aA.2 ⟨fun z a=>h1 z (aL _ a),(aA.1 g).2⟩)
  ·rename_i e;have f:=zqn h l y g;have b:c p y<0:=by
    rcases h.tri p y with k|k|k
    ·exact k
    ·exact absurd k.symm e
    ·exact absurd k (d y (by simp))
   refine aA.2 ⟨fun z a=>?_,f⟩;rcases aD.1 a with k|k
   ·rw [k];exact b
   ·exact h.trans _ _ _ b ((aA.1 f).1 z k)
theorem zyu (h:TO c)(l:List α):dd (Et c l)=setL c l:=by
 have a:=z8i h.swo l;refine Str.uniq h ?_ (X9 h l) (fun x=>by rw [y7p,Dm h];exact (Nt c l).mem_iff);cases b:Et c l with
 |nil=>simp [dd,Str]
 |cons x q=>rw [b] at a;exact zqn h q x a
end
abbrev Va:=Ab
abbrev Ev:=A8
abbrev Exn:=B1
abbrev be:ByteArray:=ByteArray.empty
abbrev va0:Va:=⟨0,0,ByteArray.empty⟩
def vcP (v:Va):Int :=
 if v.fKind<0 then 1 else if 2<v.fKind then 1 else if v.fKind=2 then (if v.fNum=0 then (if 64<v.fText.size then 13 else 0) else 3) else
 if v.fText=be then (if v.fKind=1 then (if v.fNum<0 then 2 else if 1<v.fNum then 2 else 0) else if v.fNum < -1099511627776 then 2 else if 1099511627776<v.fNum then 2 else 0) else 3
theorem y0y (n:Nat)(v:Va):Ha n v=some (vcP v):=by
 unfold Ha vcP;simp only [A5,Ah,Nz];grind
theorem zrd {α a:Type}(p:Prop)[Decidable p](x y:Option α)(k:α->Option a):bnd (if p then x else y) k=if p then bnd x k else bnd y k:=by split<;>rfl
theorem p_vc (n:Nat)(v:Va):Hj n v=some (vcP v):=by
 obtain ⟨k,x,t⟩:=v;unfold Hj Nk vcP;simp only [A5,Ah,Nz];by_cases f:k=0
 ·subst f;by_cases a:t=be
  ·subst a;have b:be.size=0:=rfl;simp [b,A3,zrd];grind
  ·simp [a]
 ·by_cases e:k=1
  ·subst e;by_cases a:t=be
   ·subst a;have b:be.size=0:=rfl;simp [b,A3,zrd];grind
   ·simp [a]
  ·by_cases d:k=2
   ·subst d;simp [A3,zrd];grind
   grind
theorem y5y (x y:Va):(decide (x.fKind=y.fKind) && (decide (x.fNum=y.fNum) && ((x.fText.toList == y.fText.toList) && true)))=decide (x=y):=by
 cases x;cases y;simp [Nz]
theorem zie (x:Va):(decide (x.fKind=0) && (decide (x.fNum=0) && ((x.fText.toList == ByteArray.empty.toList) && true)))=decide (x=va0):=y5y x va0
def arP (op:Int):Int:=if op<0 then -1 else if 12<op then -1 else if op<5 then 0 else if op=12 then 1 else 2
theorem y13 (n:Nat)(op:Int):Uq n op=some (arP op):=by
 unfold Uq arP;simp only [Ay,Al,Fu,Eh,A5,Aw,decide_eq_true_eq];by_cases h1:op<0
 ·simp [h1,show op≠0 by omega,show op≠1 by omega,show op≠2 by omega,show op≠3 by omega,show op≠4 by omega,show op≠5 by omega,show op≠6 by omega,show op≠7 by omega,show op≠8 by omega,show op≠9 by omega,show op≠10 by omega,show op≠11 by omega,show op≠12 by omega]
 ·by_cases a:12<op
  ·simp [h1,a,show op≠0 by omega,show op≠1 by omega,show op≠2 by omega,show op≠3 by omega,show op≠4 by omega,show op≠5 by omega,show op≠6 by omega,show op≠7 by omega,show op≠8 by omega,show op≠9 by omega,show op≠10 by omega,show op≠11 by omega,show op≠12 by omega]
  ·have:op=0\/op=1\/op=2\/op=3\/op=4\/op=5\/op=6\/op=7\/op=8\/op=9\/op=10\/op=11\/op=12:=by omega
   rcases this with rfl|rfl|rfl|rfl|rfl|rfl|rfl|rfl|rfl|rfl|rfl|rfl|rfl<;>rfl
theorem y4i (n:Nat)(op:Int):Wp n op=some (if op<0 then (0,false) else if 12<op then (0,false) else (arP op,true)):=by
 unfold Wp arP;simp only [Ay,Al,Nc,A5,Aw,decide_eq_true_eq,if_true];grind
def usV (op:Int):Bool:=decide (op=1) || decide (op=2) || decide (op=3) || decide (op=4)
def usF (op:Int):Bool:=decide (op=1) || decide (op=4)
theorem zx0 (n:Nat)(op:Int):Rr n op=some (usV op,usF op):=by
 unfold Rr;simp only [Ay,Al,Ll,Ii,A5,Aw,decide_eq_true_eq,if_true];by_cases h1:op=1
 ·subst h1;rfl
 ·by_cases d:op=2
  ·subst d;rfl
  ·by_cases b:op=3
   ·subst b;rfl
   ·by_cases a:op=4
    ·subst a;rfl
    ·simp [usV,usF,h1,d,b,a]
theorem y2m (n:Nat)(op:Int):T0 n op=some (usV op,usF op):=by
 unfold T0;simp only [Ay,Al,Nh,Ng,A5,Aw,decide_eq_true_eq,if_true];by_cases h1:op=1
 ·subst h1;rfl
 ·by_cases d:op=2
  ·subst d;rfl
  ·by_cases b:op=3
   ·subst b;rfl
   ·by_cases a:op=4
    ·subst a;rfl
    ·simp [usV,usF,h1,d,b,a]
def suP (k:Int)(v:Va):Bool:=decide (v.fKind=0) || decide (k=4) || decide (k=5)
theorem y40 (n:Nat)(k:Int)(v:Va):Wo n k v=some (suP k v):=by
 unfold Wo;simp only [Ay,Al,Jj,A5];by_cases h1:v.fKind=0
 ·simp [suP,h1]
 ·by_cases a:k=4
  ·simp [suP,h1,a]
  ·simp [suP,h1,a]
theorem zim (n:Nat)(k:Int)(v:Va):Mg n k v=some (decide (k=0) || suP k v):=by
 unfold Mg;simp only [Ay,Al,Gq,A5];by_cases h1:v.fKind=0
 ·simp [suP,h1]
 ·by_cases b:k=4
  ·by_cases a:k=0
   ·simp [suP,h1,b,a]
   ·simp [suP,h1,b]
  ·by_cases a:k=0
   ·simp [suP,h1,b,a]
   ·simp [suP,h1,b,a]
def ndP (e:Exn):Int :=
 if arP e.fOp<0 then 1 else if (e.fArgs.length:Int)≠arP e.fOp then 15 else
 if (usV e.fOp && (decide (e.fVar<0) || decide (16<=e.fVar))) || (usF e.fOp && (decide (e.fField<0) || decide (8<=e.fField))) then 2 else
 if decide (e.fOp=4) && (decide (e.fKind<1) || decide (5<e.fKind)) then 1 else
 if (decide (e.fOp=4) || decide (e.fOp=0)) && !decide (vcP e.fValue=0) then vcP e.fValue else
 if decide (e.fOp=4) && (!(suP e.fKind e.fValue) || (decide (e.fKind=1) && !decide (e.fValue=va0))) then 9 else
 if (!(usV e.fOp) && !decide (e.fVar=0)) || (!(usF e.fOp) && !decide (e.fField=0)) || (!decide (e.fOp=4) && !decide (e.fKind=0)) || (!(decide (e.fOp=4) || decide (e.fOp=0)) && !decide (e.fValue=va0)) then 3 else 0
theorem zu5 (op:Int)(h:¬arP op<0):op=0\/op=1\/op=2\/op=3\/op=4\/(usV op=false/\usF op=false/\op≠0/\op≠4):=by
 unfold arP at h;by_cases d:op=0
 ·exact aB d
 by_cases h1:op=1
 ·exact aF (aB h1)
 by_cases b:op=2
 ·exact aF (aF (aB b))
 by_cases e:op=3
 ·omega
 by_cases a:op=4
 ·omega
 exact aF (aF (aF (aF (aF ⟨by simp [usV,h1,b,e,a],by simp [usF,h1,a],d,a⟩))))
theorem us0:usV 0=false/\usF 0=false:=by decide
theorem us1:usV 1=true/\usF 1=true:=by decide
theorem us2:usV 2=true/\usF 2=false:=by decide
theorem us3:usV 3=true/\usF 3=false:=by decide
theorem us4:usV 4=true/\usF 4=true:=by decide
theorem y42 (n:Nat)(e:Exn):Uy n e=some (ndP e):=by
 unfold Uy;rw [y13,A3,zx0];simp only [A3,length_map,A5,Ah,y0y,zim,Ay,Al,E4,Ij,Ln,Lm,Gw,Ca,zie];unfold ndP;by_cases a:arP e.fOp<0
 ·rw [if_pos a,if_pos a]
 rw [if_neg a,if_neg a];by_cases b:(e.fArgs.length:Int)=arP e.fOp;rotate_left
 ·rw [if_neg b,if_pos b]
 rw [if_pos b,if_neg (show ¬((e.fArgs.length:Int)≠arP e.fOp) from fun h=>h b)];have d:=zu5 e.fOp a;obtain ⟨op,args,var,field,kind,val⟩:=e;simp only at *;clear b a;rcases d with rfl|rfl|rfl|rfl|rfl|⟨h1,i,g,f⟩
 ·simp [us0,Aw];grind
 ·simp [us1,Aw];grind
 ·simp [us2,Aw];grind
 ·simp [us3,Aw];grind
 ·simp [us4,Aw];grind
 ·simp [h1,i,g,f,Aw];grind
end Go.Proofs.YtidhlpjgifoneaaGreat
