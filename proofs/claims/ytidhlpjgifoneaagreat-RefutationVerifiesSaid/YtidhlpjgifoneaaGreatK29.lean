/- What some functions compute, over plain values. -/
import Derived.Test.YtidhlpjgifoneaaGreatK28
set_option linter.unusedVariables false
set_option linter.unusedSimpArgs false
set_option maxRecDepth 100000
set_option maxHeartbeats 8000000
namespace Go.Proofs.YtidhlpjgifoneaaGreat
open Go.RowKit List
open List renaming pairwise_cons->aA,mem_cons->aC,mem_cons_of_mem->aJ,length_cons->aQ
open Or renaming inl->aB,inr->aF
open Tryz renaming func136->aD,func208->aG,func93->aX
open LeX renaming a->aE,adopt->aR
open ConG renaming up->aH
open AW renaming stepU->aK,regO->aN,step->aS
open RetX renaming oB->aL
open EqX renaming A->aM
open IdxX renaming A->aP
open Aa renaming o->aT,t->aU,f->aV
noncomputable section
abbrev z3f {n b a c}:=li (Dn n b a c) (fun d=>⟨[(1,.row 200000),(2,.ptr 2 0),(6,aI d.1)],[(2,.box 111 (Cm a)),(200000,.row 4 1 (d.2.map AV.bool))]⟩) fun _ _=>Dn.eq_2 ..
abbrev z3e {n b a c}:=li (P6 n b a c) (fun d=>⟨[(1,.row 200000),(2,.ptr 2 0),(6,aI d.1)],[(2,.box 111 (Cm a)),(200000,.row 4 1 (d.2.map AV.bool))]⟩) fun _ _=>P6.eq_2 ..
abbrev z3d {n b a c}:=li (P5 n b a c) (fun d=>⟨[(1,.row 200000),(2,.ptr 2 0),(6,aI d.1)],[(2,.box 111 (Cm a)),(200000,.row 4 1 (d.2.map AV.bool))]⟩) fun _ _=>P5.eq_2 ..
abbrev z3c {n b a c}:=li (P4 n b a c) (fun d=>⟨[(1,.row 200000),(2,.ptr 2 0),(6,aI d.1)],[(2,.box 111 (Cm a)),(200000,.row 4 1 (d.2.map AV.bool))]⟩) fun _ _=>P4.eq_2 ..
abbrev z12 {n a b}:=li (Hq n a b) (fun c=>⟨[(3,.row 6),(4,.row 7023),(5,aI c.1)],[(6,.row 4 1 (a.map AV.bool)),(7023,.row 3 1 (c.2.map aI))]⟩) fun _ _=>Hq.eq_2 ..
abbrev z2p {n a b}:=li (P0 n a b) (fun c=>⟨[(1,.row 200000),(4,.sl 1 (a.map aI)),(5,aI c.1)],[(200000,.row 4 1 (c.2.map AV.bool))]⟩) fun _ _=>P0.eq_2 ..
abbrev z6r {n b c}:=li (Qd n b c) (fun d=>⟨[(5,.row 11),(8,.sl 17 (b.1.map B6)),(9,aI b.2.1),(10,aI d.1)],[(11,.row 4 1 (d.2.map AV.bool))]⟩) fun _ _=>Qd.eq_2 ..
abbrev z6s {n c}:=li (Gx n c) (fun b=>⟨[(5,.row 11),(8,.sl 17 (b.1.map B6)),(9,aI b.2.1)],[(11,.row 4 1 (b.2.2.map AV.bool))]⟩) fun _ _=>Gx.eq_2 ..
abbrev z6t {n d e a b}:=li (Lj n d e a b) (fun c=>⟨[(1,aI d),(2,.ptr 2 0),(5,.row 11),(6,.sl 11 (a.fGuards.map Bc)),(7,aI c.1)],[(2,.box 25 (B3 e)),(11,.row 4 1 (c.2.map AV.bool))]⟩) fun _ _=>Lj.eq_2 ..
abbrev z2q {n a b d e f c g h}:=jf (Hx n a b d e f c g h) (fun j=>⟨[(1,.ptr 1 0),(3,.cont (b) 7003),(5,aI d.1),(6,aI e.1),(7,.ptr 7 0),(8,aI c.1),(47,.bool (j))],[(1,.box 25 (B3 a)),(7003,.are 150 (c.2).1 (List.map (enQ AV.bool 4) (c.2).2)),(7,.box 115 (C7 f))]⟩) fun _=>Hx.eq_1 ..
abbrev z3y {n a b d e f g}:=li (Ef n a b d e f g) (fun c=>⟨[(1,.ptr 1 0),(3,.cont (b) 7003),(5,aI d.1),(6,aI e.1),(7,.ptr 7 0),(8,aI c.1)],[(1,.box 25 (B3 a)),(7003,.are 150 (c.2).1 (List.map (enQ AV.bool 4) (c.2).2)),(7,.box 115 (C7 f))]⟩) fun _ _=>Ef.eq_2 ..
abbrev z3z {n a b d e}:=li (Gh n a b d e) (fun c=>⟨[(1,.ptr 1 0),(3,.cont (b) 7003),(5,aI d.1),(6,aI c.1)],[(1,.box 25 (B3 a)),(7003,.are 150 (c.2).1 (List.map (enQ AV.bool 4) (c.2).2))]⟩) fun _ _=>Gh.eq_2 ..
abbrev z40 {n a b d}:=li (I4 n a b d) (fun c=>⟨[(1,.ptr 1 0),(3,.cont (b) 7003),(5,aI c.1)],[(1,.box 25 (B3 a)),(7003,.are 150 (c.2).1 (List.map (enQ AV.bool 4) (c.2).2))]⟩) fun _ _=>I4.eq_2 ..
abbrev z41 {n a c}:=li (Pg n a c) (fun b=>⟨[(1,.ptr 1 0),(3,.cont (b.1) 7003),(4,aI b.2.1)],[(1,.box 25 (B3 a)),(7003,.are 150 (b.2.2).1 (List.map (enQ AV.bool 4) (b.2.2).2))]⟩) fun _ _=>Pg.eq_2 ..
abbrev z89 {n a d b}:=li (M2 n a d b) (fun c=>⟨[(1,aI a),(2,.ptr 2 0),(5,.row 7030),(6,aI c.1)],[(2,.box 60 (Bi d)),(7030,.row 74 3 (c.2.map Be))]⟩) fun _ _=>M2.eq_2 ..
attribute [instance] z3f z3e z3d z3c z12 z2p z6r z6s z6t z2q z3y z3z z40 z41 z89
def z85 (b:B0)(a:(List Bool)):List (Nat×Ent):=[(200000,.row 4 1 (a.map AV.bool))]
def Li (r:(List Bool)):List (Nat×Ent):=[(200000,.row 4 1 (r.map AV.bool))]
def Qc (r:(List Bool)):AV:=.tup []
def z82 (r:(List Bool)):AS:=⟨[(1,.row 200000)],Li r⟩
theorem z0k {n d e r}(b:E2 n d e=some r):ConG E0.P none (CalF E0.P 208 0) [Av d,.row 200000] [] (z85 d e) (Qc r) (Li r):=by
 induction n generalizing d e r
 case zero=>cases b
 case succ n f =>
 unfold E2 at b;refine ConG.walk (E:=(E0p 2)) (caps:=[]) _ aG rfl rfl rfl rfl rfl ?_;repeat' first
  |refine aS ?_;conv=>whnf
  |refine aT b (fun b=>?_) fun b=>?_
  |refine aU ?_
  |refine aV ?_
  |refine Af.I b fun a b=>?_
  |refine NatX.o b (fun m b=>?_)
  |refine SetX.o AV.bool b (fun x=>rfl) (fun x=>(by first|exact SubL.refl _|(repeat' first|exact SubL.nil|refine SubL.cons ?_ ?_|exact Sub.refl _|exact Sub.nil _|refine Sub.agg ?_))) (fun l b=>?_)
  |exact GX.A (res:=Qc) (meF:=Li) b z82
  |refine IdxX.oD b D4 (fun x b=>?_)
  |refine B8.oM (Bo 43 b) [(200000,200000)] [(200000,200000)] _ _ Li Qc [] (fun a h=>aH (f h)) (Ay aG rfl rfl) rfl rfl rfl ⟨⟨rfl,rfl⟩,trivial⟩ (fun a=>⟨rfl,rfl,rfl,rfl,rfl,rfl,rfl,rfl⟩) (fun a b=>?_)
  |refine Af.oM (Bo 43 b) [(200000,200000)] [(200000,200000)] _ _ Li Qc [] (fun a h=>aH (f h)) (Ay aG rfl rfl) rfl rfl rfl ⟨⟨rfl,rfl⟩,trivial⟩ (fun a=>⟨rfl,rfl,rfl,rfl,rfl,rfl,rfl,rfl⟩) (fun a b=>?_)
  |exact ⟨_,b,aE []⟩
  |refine Az.I b (aE []) fun m v b=>?_
  |refine AndA ?_
  |refine aM ?_
instance ze4 {n d}:CI E0 (Te n d) false 177 [Av d] (fun r=>.sl 1 (r.map aI)):=⟨fun {r} b=>by
 unfold Te at b;refine cw Tryz.func177 ?_;repeat' first
  |refine aN b fun b=>?_
  |refine aK [7] ?_;conv=>whnf
  |refine aT b (fun b=>?_) fun b=>?_
  |refine aU ?_
  |refine aV ?_
  |refine MakX.o AV.bool b (by first|exact SubL.refl _|(repeat' first|exact SubL.nil|refine SubL.cons ?_ ?_|exact Sub.refl _|exact Sub.nil _|refine Sub.agg ?_)) (fun l b=>?_)
  |refine B8.oM (Bo 9 b) [(200000,6)] [(200000,6)] _ _ Li Qc [] (fun a h=>aH (z0k h)) (Ay aG rfl rfl) rfl rfl rfl ⟨⟨rfl,rfl⟩,trivial⟩ (fun a=>⟨rfl,rfl,rfl,rfl,rfl,rfl,rfl,rfl⟩) (fun a b=>?_)
  |refine Af.oM (Bo 9 b) [(200000,6)] [(200000,6)] _ _ Li Qc [] (fun a h=>aH (z0k h)) (Ay aG rfl rfl) rfl rfl rfl ⟨⟨rfl,rfl⟩,trivial⟩ (fun a=>⟨rfl,rfl,rfl,rfl,rfl,rfl,rfl,rfl⟩) (fun a b=>?_)
  |refine NatX.o b (fun m b=>?_)
  |refine EltX.o AV.bool b (fun x b=>?_)
  |refine AppX.oA b fun l b=>?_
  |exact ⟨_,b,aE [(7023,23)]⟩
  |exact ⟨_,b,aE []⟩
  |refine Az.I b ?_ fun m v b=>?_
  |exact LeX.trans (aR 4 7023 3 1 rfl rfl) (aE [])
  |refine AndA ?_
  |refine aM ?_
  |exact aL b⟩
def z84 (b:B0)(a:(List Bool)):List (Nat×Ent):=[(200000,.row 4 1 (a.map AV.bool))]
def Gw (r:(List Bool)):List (Nat×Ent):=[(200000,.row 4 1 (r.map AV.bool))]
def Ie (r:(List Bool)):AV:=.tup []
def z81 (r:(List Bool)):AS:=⟨[(1,.row 200000)],Gw r⟩
theorem Pe {n d e r}(b:Lk n d e=some r):ConG E0.P none (CalF E0.P 136 0) [Av d,.row 200000] [] (z84 d e) (Ie r) (Gw r):=by
 unfold Lk at b;refine ConG.walk (E:=(E0p 2)) (caps:=[]) _ aD rfl rfl rfl rfl rfl ?_;repeat' first
  |refine aS ?_;conv=>whnf
  |refine aT b (fun b=>?_) fun b=>?_
  |refine aU ?_
  |refine aV ?_
  |refine Af.I b fun a b=>?_
  |exact GX.A (res:=Ie) (meF:=Gw) b z81
  |refine aP b fun x b=>?_
  |refine NatX.o b (fun m b=>?_)
  |refine SetX.o AV.bool b (fun x=>rfl) (fun x=>(by first|exact SubL.refl _|(repeat' first|exact SubL.nil|refine SubL.cons ?_ ?_|exact Sub.refl _|exact Sub.nil _|refine Sub.agg ?_))) (fun l b=>?_)
  |exact ⟨_,b,aE []⟩
  |refine Az.I b (aE []) fun m v b=>?_
  |refine AndA ?_
  |refine aM ?_
def Uj (r:(List Bool)):AV:=.row 0
theorem z0n {n e d r}(b:Ul n e d=some r):ConT E0 93 [Bl e,aI d] 4 1 (r.map AV.bool) (Uj r):=by
 unfold Ul at b;refine ConT.walk _ aX rfl (Ay aX rfl rfl) rfl rfl ?_;repeat' first
  |refine aS ?_;conv=>whnf
  |refine aT b (fun b=>?_) fun b=>?_
  |refine aU ?_
  |refine aV ?_
  |refine MakX.o AV.bool b (by first|exact SubL.refl _|(repeat' first|exact SubL.nil|refine SubL.cons ?_ ?_|exact Sub.refl _|exact Sub.nil _|refine Sub.agg ?_)) (fun l b=>?_)
  |refine aP b fun x b=>?_
  |refine Af.I b fun a b=>?_
  |refine B8.oM (Bo 46 b) [(200000,11)] [(200000,11)] _ _ Gw Ie [] (fun a h=>aH (Pe h)) (Ay aD rfl rfl) rfl rfl rfl ⟨⟨rfl,rfl⟩,trivial⟩ (fun a=>⟨rfl,rfl,rfl,rfl,rfl,rfl,rfl,rfl⟩) (fun a b=>?_)
  |refine Af.oM (Bo 46 b) [(200000,11)] [(200000,11)] _ _ Gw Ie [] (fun a h=>aH (Pe h)) (Ay aD rfl rfl) rfl rfl rfl ⟨⟨rfl,rfl⟩,trivial⟩ (fun a=>⟨rfl,rfl,rfl,rfl,rfl,rfl,rfl,rfl⟩) (fun a b=>?_)
  |exact ⟨_,b,aE []⟩
  |refine IdxX.oD b D4 (fun x b=>?_)
  |refine B8.oM (Bo 66 b) [(200000,11)] [(200000,11)] _ _ Gw Ie [] (fun a h=>aH (Pe h)) (Ay aD rfl rfl) rfl rfl rfl ⟨⟨rfl,rfl⟩,trivial⟩ (fun a=>⟨rfl,rfl,rfl,rfl,rfl,rfl,rfl,rfl⟩) (fun a b=>?_)
  |refine Af.oM (Bo 66 b) [(200000,11)] [(200000,11)] _ _ Gw Ie [] (fun a h=>aH (Pe h)) (Ay aD rfl rfl) rfl rfl rfl ⟨⟨rfl,rfl⟩,trivial⟩ (fun a=>⟨rfl,rfl,rfl,rfl,rfl,rfl,rfl,rfl⟩) (fun a b=>?_)
  |refine Az.I b (aE []) fun m v b=>?_
  |refine B8.oM (Bo 30 b) [(200000,11)] [(200000,11)] _ _ Gw Ie [] (fun a h=>aH (Pe h)) (Ay aD rfl rfl) rfl rfl rfl ⟨⟨rfl,rfl⟩,trivial⟩ (fun a=>⟨rfl,rfl,rfl,rfl,rfl,rfl,rfl,rfl⟩) (fun a b=>?_)
  |refine Af.oM (Bo 30 b) [(200000,11)] [(200000,11)] _ _ Gw Ie [] (fun a h=>aH (Pe h)) (Ay aD rfl rfl) rfl rfl rfl ⟨⟨rfl,rfl⟩,trivial⟩ (fun a=>⟨rfl,rfl,rfl,rfl,rfl,rfl,rfl,rfl⟩) (fun a b=>?_)
  |refine AndA ?_
  |refine aM ?_
  |refine TX.o (rl:=fun r=>r.map AV.bool) (res:=Uj) b ?_;exact TX.mk _ 11 (LeX.refl _ _ _) _ rfl rfl (by repeat' first|exact Sub.nil _|exact Sub.refl _|refine Sub.agg ?_|refine Sub.tup ?_|refine Sub.fn ?_|exact SubL.nil|refine SubL.cons ?_ ?_|refine Sub.sl _ ?_|exact SubE.nil|refine SubE.cons ?_ ?_)
  |refine TX.o (rl:=fun r=>r.map AV.bool) (res:=Uj) b ?_;exact TX.mk _ 9000 (aR 4 9000 4 1 rfl rfl) _ rfl rfl (by repeat' first|exact Sub.nil _|exact Sub.refl _|refine Sub.agg ?_|refine Sub.tup ?_|refine Sub.fn ?_|exact SubL.nil|refine SubL.cons ?_ ?_|refine Sub.sl _ ?_|exact SubE.nil|refine SubE.cons ?_ ?_)
instance zil {n d}:CI E0 (Qu n d) false 57 [Bl d] (fun r=>.sl 1 (List.map (fun q=>AV.sl 1 (List.map AV.bool q)) (r))):=⟨fun {r} b=>by
 unfold Qu at b;refine cw Tryz.func57 ?_;repeat' first
  |refine AW.arzO (ty:=150) AV.bool b 3 7003 4 rfl rfl rfl (fun b=>?_)
  |refine AW.frqO AV.bool b 7003 rfl (fun b=>?_)
  |refine AW.jI b (fun v b=>?_) fun b=>?_
  |refine aN b fun b=>?_
  |refine AW.frzO b 7003 rfl (fun b=>?_)
  |refine aK [17,14,16,2] ?_;conv=>whnf
  |refine aT b (fun b=>?_) fun b=>?_
  |refine aU ?_
  |refine aV ?_
  |exact ⟨_,b,aE []⟩
  |refine aP b fun x b=>?_
  |refine OpX.ixc b rfl rfl rfl rfl rfl rfl rfl rfl (fun b=>?_)
  |refine OpX.aob b rfl rfl rfl rfl rfl rfl rfl (fun j b=>?_)
  |refine OpX.aix AV.bool b rfl rfl rfl rfl rfl rfl rfl rfl rfl (fun k b=>?_)
  |refine OpX.ald AV.bool b rfl rfl rfl rfl rfl rfl rfl (fun _=>rfl) (fun v b=>?_)
  |refine OpX.asr AV.bool b rfl rfl rfl rfl rfl rfl rfl rfl rfl rfl rfl rfl rfl (fun m b=>?_)
  |refine Az.I b (aE []) fun m v b=>?_
  |refine Af.oR b (fun r=>r) AV.bool Uj rfl (fun a h=>z0n h) (fun a b=>?_)
  |refine Af.oR b (fun r=>r) AV.bool Uj rfl (fun a h=>ConT.sub (by repeat' first|exact Sub.nil _|exact Sub.refl _|refine Sub.agg ?_|refine Sub.tup ?_|refine Sub.fn ?_|exact SubL.nil|refine SubL.cons ?_ ?_|refine Sub.sl _ ?_|exact SubE.nil|refine SubE.cons ?_ ?_) (z0n h)) (fun a b=>?_)
  |refine OpX.bla AV.bool rfl rfl rfl rfl rfl rfl rfl rfl rfl rfl ?_
  |refine OpX.aap AV.bool b rfl rfl rfl rfl rfl rfl rfl rfl rfl rfl rfl rfl rfl rfl rfl rfl rfl rfl (fun m b=>?_)
  |exact ⟨_,b,aE [(7003,21)]⟩
  |refine AndA ?_
  |refine aM ?_
  |exact aL b⟩
end
noncomputable section
abbrev z3x {n d a b}:=li (Pf n d a b) (fun c=>⟨[(7,.sl 3 (d.map Be)),(8,.sl 3 (a.map Be)),(9,aI c)],[]⟩) fun _ _=>Pf.eq_2 ..
abbrev z2u {n a e f b c}:=jf (Kd n a e f b c) (fun d=>⟨[(0,.sl 1 (List.map (fun q=>AV.sl 1 (List.map AV.bool q)) (f))),(4,.ptr 4 0),(5,.ptr 5 0),(8,aI b),(76,.bool (d))],[(4,.box 60 (Bi e)),(5,.box 60 (Bi a))]⟩) fun _=>Kd.eq_1 ..
abbrev z2r {n a d e b}:=li (Gf n a d e b) (fun c=>⟨[(0,.sl 1 (List.map (fun q=>AV.sl 1 (List.map AV.bool q)) (e))),(4,.ptr 4 0),(5,.ptr 5 0),(8,aI c)],[(4,.box 60 (Bi d)),(5,.box 60 (Bi a))]⟩) fun _ _=>Gf.eq_2 ..
abbrev z2t {n a e f b c}:=jf (Kc n a e f b c) (fun d=>⟨[(0,.sl 1 (List.map (fun q=>AV.sl 1 (List.map AV.bool q)) (f))),(4,.ptr 4 0),(5,.ptr 5 0),(7,aI b),(57,.bool (d))],[(4,.box 60 (Bi e)),(5,.box 60 (Bi a))]⟩) fun _=>Kc.eq_1 ..
abbrev z2s {n a d e b}:=li (Hy n a d e b) (fun c=>⟨[(0,.sl 1 (List.map (fun q=>AV.sl 1 (List.map AV.bool q)) (e))),(4,.ptr 4 0),(5,.ptr 5 0),(7,aI c)],[(4,.box 60 (Bi d)),(5,.box 60 (Bi a))]⟩) fun _ _=>Hy.eq_2 ..
abbrev z2v {n a d e}:=jf (Ke n a d e) (fun b=>⟨[(0,.sl 1 (List.map (fun q=>AV.sl 1 (List.map AV.bool q)) (e))),(4,.ptr 4 0),(5,.ptr 5 0),(22,.bool (b))],[(4,.box 60 (Bi d)),(5,.box 60 (Bi a))]⟩) fun _=>Ke.eq_1 ..
abbrev z1e {n a e f b c}:=jf (K1 n a e f b c) (fun d=>⟨[(1,.sl 5 (e.map A7)),(2,.sl 4 (a.map Ar)),(3,.ptr 3 0),(7,aI b),(51,.bool (d))],[(3,.box 25 (B3 f))]⟩) fun _=>K1.eq_1 ..
abbrev z1f {n a e f b c}:=jf (K2 n a e f b c) (fun d=>⟨[(1,.sl 5 (e.map A7)),(2,.sl 4 (a.map Ar)),(3,.ptr 3 0),(7,aI b),(34,.bool (d))],[(3,.box 25 (B3 f))]⟩) fun _=>K2.eq_1 ..
abbrev z1d {n a d e b}:=li (Gc n a d e b) (fun c=>⟨[(1,.sl 5 (d.map A7)),(2,.sl 4 (a.map Ar)),(3,.ptr 3 0),(7,aI c)],[(3,.box 25 (B3 e))]⟩) fun _ _=>Gc.eq_2 ..
attribute [instance] z3x z2u z2r z2t z2s z2v       z1e z1f z1d
instance znu {n d b}:CI E0 (Rm n d b) false 178 [A4 d,aI b] (fun r=>.sl 3 (r.map Be)):=⟨fun {r} a=>by
 unfold Rm at a;refine cw Tryz.func178 ?_;repeat' first
  |refine aN a fun a=>?_
  |refine aK [5] ?_;conv=>whnf
  |refine aT a (fun a=>?_) fun a=>?_
  |refine aU ?_
  |refine aV ?_
  |refine aP a fun x a=>?_
  |refine AppX.oA a fun l a=>?_
  |exact ⟨_,a,aE [(7030,30)]⟩
  |exact ⟨_,a,aE []⟩
  |refine Az.I a ?_ fun m v a=>?_
  |exact LeX.trans (aR 5 7030 74 3 rfl rfl) (aE [])
  |refine AndA ?_
  |refine aM ?_
  |exact aL a⟩
instance zik {n d b a}:CI E0 (U6 n d b a) true 137 [A4 d,A4 b,aI a] (fun r=>.bool (r)):=by unfold U6;exact CI.w [] Tryz.func137
instance zh2 {n f e d}:CI E0 (Tx n f e d) true 94 [.sl 1 (List.map (fun q=>AV.sl 1 (List.map AV.bool q)) (f)),A4 e,A4 d] (fun r=>.bool (r)):=⟨fun {r} b=>by
 unfold Tx at b;refine cw Tryz.func94 ?_;repeat' first
  |refine AW.jI b (fun v b=>?_) fun b=>?_
  |refine aN b fun b=>?_
  |refine aK [1,6,11] ?_;conv=>whnf
  |refine aT b (fun b=>?_) fun b=>?_
  |refine aU ?_
  |refine aV ?_
  |exact ⟨_,b,aE []⟩
  |refine IdxX.o (fun q=>AV.sl 1 (List.map AV.bool q)) b fun x b=>?_
  |refine aP b fun x b=>?_
  |refine Af.I b fun a b=>?_
  |refine Az.I b (aE []) fun m v b=>?_
  |refine AndA ?_
  |refine aM ?_
  |exact aL b⟩
instance zeo {n d b a}:CI E0 (Xi n d b a) true 123 [Bl d,.sl 5 (b.map A7),.sl 4 (a.map Ar)] aI:=by unfold Xi;exact CI.w [6,8] Tryz.func123
end
noncomputable section
abbrev z2x {n a e b c}:=jf (Kf n a e b c) (fun d=>⟨[(1,.sl 2 (a.map Ad)),(2,.ptr 2 0),(5,aI b),(59,.bool (d))],[(2,.box 25 (B3 e))]⟩) fun _=>Kf.eq_1 ..
abbrev z2y {n a e b c}:=jf (Gg n a e b c) (fun d=>⟨[(1,.sl 2 (a.map Ad)),(2,.ptr 2 0),(5,aI b),(43,.bool (d))],[(2,.box 25 (B3 e))]⟩) fun _=>Gg.eq_1 ..
abbrev z2w {n a d b}:=li (Fk n a d b) (fun c=>⟨[(1,.sl 2 (a.map Ad)),(2,.ptr 2 0),(5,aI c)],[(2,.box 25 (B3 d))]⟩) fun _ _=>Fk.eq_2 ..
abbrev z35 {n a d e}:=jf (Kj n a d e) (fun b=>⟨[(1,.sl 5 (d.map A7)),(3,.ptr 3 0),(5,.ptr 5 0),(18,.bool (b))],[(3,.box 25 (B3 e)),(5,.box 60 (Bi a))]⟩) fun _=>Kj.eq_1 ..
abbrev z5k {n a g h b e c d}:=jf (L4 n a g h b e c d) (fun f=>⟨[(1,.sl 5 (g.map A7)),(3,.ptr 3 0),(5,.ptr 5 0),(7,aI b),(8,.sl 3 (e.map A4)),(9,aI c),(65,.bool (f))],[(3,.box 25 (B3 h)),(5,.box 31 [.sl 1 (List.map (fun q=>AV.sl 3 (List.map A4 q)) (a.fSets))])]⟩) fun _=>L4.eq_1 ..
abbrev z5i {n a f g b d c}:=li (I7 n a f g b d c) (fun e=>⟨[(1,.sl 5 (f.map A7)),(3,.ptr 3 0),(5,.ptr 5 0),(7,aI b),(8,.sl 3 (d.map A4)),(9,aI e)],[(3,.box 25 (B3 g)),(5,.box 31 [.sl 1 (List.map (fun q=>AV.sl 3 (List.map A4 q)) (a.fSets))])]⟩) fun _ _=>I7.eq_2 ..
abbrev z5j {n a d e b}:=li (Q4 n a d e b) (fun c=>⟨[(1,.sl 5 (d.map A7)),(3,.ptr 3 0),(5,.ptr 5 0),(7,aI c)],[(3,.box 25 (B3 e)),(5,.box 31 [.sl 1 (List.map (fun q=>AV.sl 3 (List.map A4 q)) (a.fSets))])]⟩) fun _ _=>Q4.eq_2 ..
abbrev z1u {n a d e b}:=li (Oh n a d e b) (fun c=>⟨[(0,.sl 1 (List.map (fun q=>AV.sl 1 (List.map AV.bool q)) (e))),(1,.sl 3 (d.map A4)),(5,.ptr 5 0),(7,aI c)],[(5,.box 60 (Bi a))]⟩) fun _ _=>Oh.eq_2 ..
abbrev z2m {n a g h b c e d}:=li (Ox n a g h b c e d) (fun f=>⟨[(1,.sl 5 (g.map A7)),(3,.ptr 3 0),(5,.ptr 5 0),(7,.sl 1 (List.map (fun q=>AV.sl 1 (List.map AV.bool q)) (b.1))),(8,aI b.2),(9,aI c),(10,.sl 3 (e.1.map A4)),(12,aI f)],[(3,.box 25 (B3 h)),(5,.box 31 [.sl 1 (List.map (fun q=>AV.sl 3 (List.map A4 q)) (a.fSets))])]⟩) fun _ _=>Ox.eq_2 ..
abbrev z2n {n a e f b c}:=li (Oy n a e f b c) (fun d=>⟨[(1,.sl 5 (e.map A7)),(3,.ptr 3 0),(5,.ptr 5 0),(7,.sl 1 (List.map (fun q=>AV.sl 1 (List.map AV.bool q)) (b.1))),(8,aI b.2),(9,aI d)],[(3,.box 25 (B3 f)),(5,.box 31 [.sl 1 (List.map (fun q=>AV.sl 3 (List.map A4 q)) (a.fSets))])]⟩) fun _ _=>Oy.eq_2 ..
abbrev z2o {n a d e b}:=li (Oz n a d e b) (fun c=>⟨[(1,.sl 5 (d.map A7)),(3,.ptr 3 0),(5,.ptr 5 0),(7,.sl 1 (List.map (fun q=>AV.sl 1 (List.map AV.bool q)) (c.1))),(8,aI c.2)],[(3,.box 25 (B3 e)),(5,.box 31 [.sl 1 (List.map (fun q=>AV.sl 3 (List.map A4 q)) (a.fSets))])]⟩) fun _ _=>Oz.eq_2 ..
abbrev z0d {n}:=jf (Jw n) (fun b=>⟨[(6,.bool (b))],[]⟩) fun _=>Jw.eq_1 ..
abbrev z0e {n a d e}:=jf (Fi n a d e) (fun b=>⟨[(1,.sl 5 (d.map A7)),(3,.ptr 3 0),(5,.ptr 5 0),(15,.bool (b))],[(3,.box 25 (B3 e)),(5,.box 31 [.sl 1 (List.map (fun q=>AV.sl 3 (List.map A4 q)) (a.fSets))])]⟩) fun _=>Fi.eq_1 ..
attribute [instance] z2x z2y z2w z35 z5k z5i z5j z1u z2m z2n z2o z0d z0e 
instance zh3 {n b a}:CI E0 (Xs n b a) true 124 [Bl b,.sl 2 (a.map Ad)] aI:=by unfold Xs;exact CI.w [4,6] Tryz.func124
instance zh7 {n d b a}:CI E0 (Qg n d b a) true 86 [Bl d,.sl 5 (b.map A7),A4 a] aI:=by unfold Qg;exact CI.w [1] Tryz.func86
instance zjw {n f e d}:CI E0 (Uc n f e d) true 50 [Bl f,.sl 5 (e.map A7),.agg [.sl 1 (List.map (fun q=>AV.sl 3 (List.map A4 q)) (d.fSets))]] aI:=⟨fun {r} b=>by
 unfold Uc at b;refine cw Tryz.func50 ?_;repeat' first
  |refine AW.jI b (fun v b=>?_) fun b=>?_
  |refine aN b fun b=>?_
  |refine aK [15] ?_;conv=>whnf
  |refine aT b (fun b=>?_) fun b=>?_
  |refine aU ?_
  |refine aV ?_
  |refine IdxX.o (fun q=>AV.sl 3 (List.map A4 q)) b fun x b=>?_
  |exact ⟨_,b,aE []⟩
  |refine SlsX.o A7 b (fun l b=>?_)
  |refine aP b fun x b=>?_
  |refine Af.I b fun a b=>?_
  |refine Az.I b (aE []) fun m v b=>?_
  |refine AndA ?_
  |refine aM ?_
  |exact aL b⟩
instance zfg {n d b a}:CI E0 (Q5 n d b a) true 87 [.sl 1 (List.map (fun q=>AV.sl 1 (List.map AV.bool q)) (d)),.sl 3 (b.map A4),A4 a] (fun r=>.bool (r)):=by unfold Q5;exact CI.w [] Tryz.func87
instance zh0 {n f e d}:CI E0 (Tw n f e d) true 51 [Bl f,.sl 5 (e.map A7),.agg [.sl 1 (List.map (fun q=>AV.sl 3 (List.map A4 q)) (d.fSets))]] (fun r=>.bool (r)):=⟨fun {r} b=>by
 unfold Tw at b;refine cw Tryz.func51 ?_;repeat' first
  |refine aS ?_;conv=>whnf
  |refine aT b (fun b=>?_) fun b=>?_
  |refine aU ?_
  |refine aV ?_
  |refine Af.I b fun a b=>?_
  |refine IdxX.o (fun q=>AV.sl 3 (List.map A4 q)) b fun x b=>?_
  |exact ⟨_,b,aE []⟩
  |refine aP b fun x b=>?_
  |refine Az.I b (aE []) fun m v b=>?_
  |refine AndA ?_
  |refine aM ?_
  |exact aL b⟩
instance zh1 {n d b a}:CI E0 (Ll n d b a) true 18 [Bl d,.sl 5 (b.map A7),.agg [.sl 1 (List.map (fun q=>AV.sl 3 (List.map A4 q)) (a.fSets))]] aI:=by unfold Ll;exact CI.w [] Tryz.func18
theorem z0f {n f e d r}(b:Xb n f e d=some r):Con E0 true 4 [Bl f,.sl 5 (e.map A7),.agg [.sl 1 (List.map (fun q=>AV.sl 3 (List.map A4 q)) (d.fSets))]] (.bool (r)):=by
 unfold Xb at b;refine cw Tryz.func4 ?_;repeat' first
  |refine AW.jI b (fun v b=>?_) fun b=>?_
  |refine aN b fun b=>?_
  |refine aK [1,3] ?_;conv=>whnf
  |refine aT b (fun b=>?_) fun b=>?_
  |refine aU ?_
  |refine aV ?_
  |refine Af.I b fun a b=>?_
  |exact ⟨_,b,aE []⟩
  |refine AndA ?_
  |refine aM ?_
  |exact aL b
end
section
variable {α:Type} {c:α->α->Int}
theorem TO.asym (h:TO c){a b:α}(k:c a b<0):¬c b a<0:=by have:=h.neg a b;omega
theorem TO.lt_ne (h:TO c){a b:α}(k:c a b<0):a≠b:=fun e=>by subst e;exact h.irr _ k
def Str (c:α->α->Int)(l:List α):Prop:=l.Pairwise (fun x y=>c x y<0)
theorem Str.uniq (h:TO c):∀ {l m:List α},Str c l->Str c m->(∀ x,x∈l ↔ x∈m)->l=m
 |[],[],_,_,_=>rfl
 |[],y::m,_,_,hm=>by have:=(hm y).2 (by simp);simp at this
 |x::l,[],_,_,hm=>by have:=(hm x).1 (by simp);simp at this
 |x::l,y::m,h1,i,hm=>by
  obtain ⟨g,k⟩:=aA.1 h1;obtain ⟨f,j⟩:=aA.1 i;have b:x=y:=by
   rcases aC.1 ((hm x).1 (by simp)) with e|e
   ·exact e
   ·rcases aC.1 ((hm y).2 (by simp)) with d|d
    ·exact d.symm
    ·exact absurd (g y d) (h.asym (f x e))
  subst b;congr 1;refine Str.uniq h k j (fun z=>⟨fun a=>?_,fun a=>?_⟩)
  ·rcases aC.1 ((hm z).1 (aJ _ a)) with e|e
   ·exact absurd e.symm (h.lt_ne (g z a))
   ·exact e
  ·rcases aC.1 ((hm z).2 (aJ _ a)) with e|e
   ·exact absurd e.symm (h.lt_ne (f z a))
   ·exact e
def insU (c:α->α->Int)(x:α):List α->List α
 |[]=>[x]
 |y::l=>if c y x<0 then y::insU c x l else if c y x=0 then y::l else x::y::l
theorem Wu (h:TO c)(x z:α):∀ l:List α,z∈insU c x l ↔ z=x\/z∈l
 |[]=>by simp [insU]
 |y::l=>by
  unfold insU;split
  ·simp only [aC,Wu h x z l];constructor
   ·rintro (h|h|h)<;>simp [h]
   ·rintro (h|h|h)<;>simp [h]
  ·split
   ·rename_i e;have:=(h.zero _ _).1 e;subst this;simp only [aC];constructor
    ·intro k;exact aF k
    ·rintro (k|k)
     ·exact aB k
     ·exact k
   ·simp only [aC]
theorem zs2 (h:TO c)(x:α):∀ l:List α,Str c l->Str c (insU c x l)
 |[],_=>by simp [insU,Str]
 |y::l,b=>by
  obtain ⟨h1,f⟩:=aA.1 b;unfold insU;split
  ·rename_i k;refine aA.2 ⟨fun z a=>?_,zs2 h x l f⟩;rcases (Wu h x z l).1 a with e|e
   ·rw [e];exact k
   ·exact h1 z e
  ·split
   ·exact b
   ·rename_i i g;have d:c x y<0:=by have:=h.neg y x;have:=h.one y x;omega
    refine aA.2 ⟨fun z a=>?_,b⟩;rcases aC.1 a with e|e
    ·rw [e];exact d
    ·exact h.trans _ _ _ d (h1 z e)
theorem Nq (c:α->α->Int)(x:α):∀ l:List α,(insU c x l).length<=l.length+1
 |[]=>by simp [insU]
 |y::l=>by
  unfold insU;have:=Nq c x l;split
  ·simp only [aQ];omega
  ·split<;>simp only [aQ]<;>omega
def puts (c:α->α->Int)(s:List α)(l:List α):List α:=l.foldl (fun s x=>insU c x s) s
def setL (c:α->α->Int)(l:List α):List α:=puts c [] l
theorem Jd (s:List α)(x:α)(l:List α):puts c s (x::l)=puts c (insU c x s) l:=rfl
theorem Yx (s l m:List α):puts c s (l++m)=puts c (puts c s l) m:=by simp [puts,foldl_append]
theorem Wt (h:TO c)(z:α):∀ (l s:List α),z∈puts c s l ↔ z∈s\/z∈l
 |[],s=>by simp [puts]
 |x::l,s=>by
  rw [Jd,Wt h z l,Wu h];simp only [aC];constructor
  ·rintro ((k|k)|k)<;>simp [k]
  ·rintro (k|k|k)<;>simp [k]
theorem zqy (h:TO c):∀ (l s:List α),Str c s->Str c (puts c s l)
 |[],_,a=>a
 |x::l,s,a=>by rw [Jd];exact zqy h l _ (zs2 h x s a)
theorem Zm:∀ (l s:List α),(puts c s l).length<=s.length+l.length
 |[],s=>by simp [puts]
 |x::l,s=>by
  rw [Jd];have:=Zm l (insU c x s);have:=Nq c x s;simp only [aQ];omega
theorem Dk (h:TO c)(z:α)(l:List α):z∈setL c l ↔ z∈l:=by unfold setL;rw [Wt h];simp
theorem Ws (h:TO c)(l:List α):Str c (setL c l):=zqy h l [] (by simp [Str])
theorem Zk (l:List α):(setL c l).length<=l.length:=by have:=Zm (c:=c) l [];simpa [setL] using this
theorem zut (h:TO c){l m:List α}(hm:∀ x,x∈l ↔ x∈m):setL c l=setL c m:=Str.uniq h (Ws h l) (Ws h m) (fun x=>by rw [Dk h,Dk h,hm])
theorem zo9 (h:TO c){l:List α}(a:Str c l):setL c l=l:=Str.uniq h (Ws h l) a (fun x=>Dk h x l)
variable [DecidableEq α]
def ddA (p:α):List α->List α
 |[]=>[]
 |y::l=>if y=p then ddA p l else y::ddA y l
def dd:List α->List α |[]=>[] |x::l=>x::ddA x l
theorem zii (p z:α):∀ l:List α,ddA p (l++[z])=ddA p l++(if z=(p::l).getLast (by simp) then [] else [z])
 |[]=>by by_cases h:z=p<;>simp [ddA,h]
 |y::l=>by
  have e:(p::y::l).getLast (by simp)=(y::l).getLast (by simp):=by rw [getLast_cons (by simp)]
  simp only [cons_append,ddA];rw [e];by_cases h:y=p
  ·subst h;rw [if_pos rfl,if_pos rfl,zii y z l]
  ·rw [if_neg h,if_neg h,zii y z l];rfl
theorem Jm (l:List α)(z:α)(h:l≠[]):dd (l++[z])=dd l++(if z=l.getLast h then [] else [z]):=by
 cases l with
 |nil=>exact absurd rfl h
 |cons x l =>
  show x::ddA x (l++[z])=_;rw [zii];rfl
theorem zpl (x:α):∀ (l:List α) (p:α),x∈ddA p l\/x=p ↔ x∈l\/x=p
 |[],p=>by simp [ddA]
 |y::l,p=>by
  unfold ddA;split
  ·rename_i h;subst h;rw [zpl x l y];simp only [aC];constructor
   ·rintro (k|k)<;>simp [k]
   ·rintro ((k|k)|k)<;>simp [k]
  ·have:=zpl x l y;simp only [aC];constructor
   ·rintro ((k|k)|k)
    ·exact aB (aB k)
    ·rcases this.1 (aB k) with q|q
     ·exact aB (aF q)
     ·exact aB (aB q)
    ·exact aF k
   ·rintro ((k|k)|k)
    ·exact aB (aB k)
    ·rcases this.2 (aB k) with q|q
     ·exact aB (aF q)
     ·exact aB (aB q)
    ·exact aF k
theorem y6e (x:α)(l:List α):x∈dd l ↔ x∈l:=by
 cases l with
 |nil=>simp [dd]
 |cons y l =>
  simp only [dd,aC];have:=zpl x l y;constructor
  ·rintro (k|k)
   ·exact aB k
   ·rcases this.1 (aB k) with q|q
    ·exact aF q
    ·exact aB q
  ·rintro (k|k)
   ·exact aB k
   ·rcases this.2 (aB k) with q|q
    ·exact aF q
    ·exact aB q
theorem zpk (h:TO c):∀ (l:List α) (p:α),(p::l).Pairwise (fun x y=>ltOf c y x=false)->Str c (p::ddA p l)
 |[],p,_=>by simp [ddA,Str]
 |y::l,p,i=>by
  obtain ⟨h1,g⟩:=aA.1 i;have d:∀ z,z∈y::l->¬c z p<0:=fun z a=>of_decide_eq_false (h1 z a)
  unfold ddA;split
  ·rename_i e;refine zpk h l p (aA.2 ⟨fun z a=>h1 z (aJ _ a),(aA.1 g).2⟩)
  ·rename_i e;have f:=zpk h l y g;have b:c p y<0:=by
    rcases h.tri p y with k|k|k
    ·exact k
    ·exact absurd k.symm e
    ·exact absurd k (d y (by simp))
   refine aA.2 ⟨fun z a=>?_,f⟩;rcases aC.1 a with k|k
   ·rw [k];exact b
   ·exact h.trans _ _ _ b ((aA.1 f).1 z k)
theorem zxn (h:TO c)(l:List α):dd (Es c l)=setL c l:=by
 have a:=z8b h.swo l;refine Str.uniq h ?_ (Ws h l) (fun x=>by rw [y6e,Dk h];exact (Ng c l).mem_iff);cases b:Es c l with
 |nil=>simp [dd,Str]
 |cons x q=>rw [b] at a;exact zpk h q x a
end
abbrev Va:=Ab
abbrev Ev:=A8
abbrev Exn:=B0
abbrev be:ByteArray:=ByteArray.empty
abbrev va0:Va:=⟨0,0,ByteArray.empty⟩
def vcP (v:Va):Int :=
 if v.fKind<0 then 1 else if 2<v.fKind then 1 else if v.fKind=2 then (if v.fNum=0 then (if 64<v.fText.size then 13 else 0) else 3) else
 if v.fText=be then (if v.fKind=1 then (if v.fNum<0 then 2 else if 1<v.fNum then 2 else 0) else if v.fNum < -1099511627776 then 2 else if 1099511627776<v.fNum then 2 else 0) else 3
theorem zzo (n:Nat)(v:Va):H4 n v=some (vcP v):=by
 unfold H4 vcP;simp only [A5,Aj,Nl];grind
theorem zqa {α a:Type}(p:Prop)[Decidable p](x y:Option α)(k:α->Option a):bnd (if p then x else y) k=if p then bnd x k else bnd y k:=by split<;>rfl
theorem p_vc (n:Nat)(v:Va):Hc n v=some (vcP v):=by
 obtain ⟨k,x,t⟩:=v;unfold Hc N7 vcP;simp only [A5,Aj,Nl];by_cases f:k=0
 ·subst f;by_cases a:t=be
  ·subst a;have b:be.size=0:=rfl;simp [b,A3,zqa];grind
  ·simp [a]
 ·by_cases e:k=1
  ·subst e;by_cases a:t=be
   ·subst a;have b:be.size=0:=rfl;simp [b,A3,zqa];grind
   ·simp [a]
  ·by_cases d:k=2
   ·subst d;simp [A3,zqa];grind
   grind
theorem y4p (x y:Va):(decide (x.fKind=y.fKind) && (decide (x.fNum=y.fNum) && ((x.fText.toList == y.fText.toList) && true)))=decide (x=y):=by
 cases x;cases y;simp [Nl]
theorem Zx (x:Va):(decide (x.fKind=0) && (decide (x.fNum=0) && ((x.fText.toList == ByteArray.empty.toList) && true)))=decide (x=va0):=y4p x va0
def arP (op:Int):Int:=if op<0 then -1 else if 12<op then -1 else if op<5 then 0 else if op=12 then 1 else 2
theorem zzt (n:Nat)(op:Int):U9 n op=some (arP op):=by
 unfold U9 arP;simp only [Ax,Am,Fo,Eg,A5,Aw,decide_eq_true_eq];by_cases h1:op<0
 ·simp [h1,show op≠0 by omega,show op≠1 by omega,show op≠2 by omega,show op≠3 by omega,show op≠4 by omega,show op≠5 by omega,show op≠6 by omega,show op≠7 by omega,show op≠8 by omega,show op≠9 by omega,show op≠10 by omega,show op≠11 by omega,show op≠12 by omega]
 ·by_cases a:12<op
  ·simp [h1,a,show op≠0 by omega,show op≠1 by omega,show op≠2 by omega,show op≠3 by omega,show op≠4 by omega,show op≠5 by omega,show op≠6 by omega,show op≠7 by omega,show op≠8 by omega,show op≠9 by omega,show op≠10 by omega,show op≠11 by omega,show op≠12 by omega]
  ·have:op=0\/op=1\/op=2\/op=3\/op=4\/op=5\/op=6\/op=7\/op=8\/op=9\/op=10\/op=11\/op=12:=by omega
   rcases this with rfl|rfl|rfl|rfl|rfl|rfl|rfl|rfl|rfl|rfl|rfl|rfl|rfl<;>rfl
theorem y39 (n:Nat)(op:Int):W8 n op=some (if op<0 then (0,false) else if 12<op then (0,false) else (arP op,true)):=by
 unfold W8 arP;simp only [Ax,Am,Mz,A5,Aw,decide_eq_true_eq,if_true];grind
def usV (op:Int):Bool:=decide (op=1) || decide (op=2) || decide (op=3) || decide (op=4)
def usF (op:Int):Bool:=decide (op=1) || decide (op=4)
theorem zvo (n:Nat)(op:Int):R9 n op=some (usV op,usF op):=by
 unfold R9;simp only [Ax,Am,Lb,I8,A5,Aw,decide_eq_true_eq,if_true];by_cases h1:op=1
 ·subst h1;rfl
 ·by_cases d:op=2
  ·subst d;rfl
  ·by_cases b:op=3
   ·subst b;rfl
   ·by_cases a:op=4
    ·subst a;rfl
    ·simp [usV,usF,h1,d,b,a]
theorem y1f (n:Nat)(op:Int):Sd n op=some (usV op,usF op):=by
 unfold Sd;simp only [Ax,Am,N4,N3,A5,Aw,decide_eq_true_eq,if_true];by_cases h1:op=1
 ·subst h1;rfl
 ·by_cases d:op=2
  ·subst d;rfl
  ·by_cases b:op=3
   ·subst b;rfl
   ·by_cases a:op=4
    ·subst a;rfl
    ·simp [usV,usF,h1,d,b,a]
def suP (k:Int)(v:Va):Bool:=decide (v.fKind=0) || decide (k=4) || decide (k=5)
theorem y2q (n:Nat)(k:Int)(v:Va):W7 n k v=some (suP k v):=by
 unfold W7;simp only [Ax,Am,J9,A5];by_cases h1:v.fKind=0
 ·simp [suP,h1]
 ·by_cases a:k=4
  ·simp [suP,h1,a]
  ·simp [suP,h1,a]
theorem zht (n:Nat)(k:Int)(v:Va):M6 n k v=some (decide (k=0) || suP k v):=by
 unfold M6;simp only [Ax,Am,Gk,A5];by_cases h1:v.fKind=0
 ·simp [suP,h1]
 ·by_cases b:k=4
  ·by_cases a:k=0
   ·simp [suP,h1,b,a]
   ·simp [suP,h1,b]
  ·by_cases a:k=0
   ·simp [suP,h1,b,a]
   ·simp [suP,h1,b,a]
def ndP (e:Exn):Int :=
 if arP e.fOp<0 then 1 else if (e.fArgs.length:Int)≠arP e.fOp then 15 else
 if (usV e.fOp && (decide (e.fVar<0) || decide (16<=e.fVar))) || (usF e.fOp && (decide (e.fField<0) || decide (8<=e.fField))) then 2 else
 if decide (e.fOp=4) && (decide (e.fKind<1) || decide (5<e.fKind)) then 1 else
 if (decide (e.fOp=4) || decide (e.fOp=0)) && !decide (vcP e.fValue=0) then vcP e.fValue else
 if decide (e.fOp=4) && (!(suP e.fKind e.fValue) || (decide (e.fKind=1) && !decide (e.fValue=va0))) then 9 else
 if (!(usV e.fOp) && !decide (e.fVar=0)) || (!(usF e.fOp) && !decide (e.fField=0)) || (!decide (e.fOp=4) && !decide (e.fKind=0)) || (!(decide (e.fOp=4) || decide (e.fOp=0)) && !decide (e.fValue=va0)) then 3 else 0
theorem zsu (op:Int)(h:¬arP op<0):op=0\/op=1\/op=2\/op=3\/op=4\/(usV op=false/\usF op=false/\op≠0/\op≠4):=by
 unfold arP at h;by_cases d:op=0
 ·exact aB d
 by_cases h1:op=1
 ·exact aF (aB h1)
 by_cases b:op=2
 ·exact aF (aF (aB b))
 by_cases e:op=3
 ·omega
 by_cases a:op=4
 ·omega
 exact aF (aF (aF (aF (aF ⟨by simp [usV,h1,b,e,a],by simp [usF,h1,a],d,a⟩))))
theorem us0:usV 0=false/\usF 0=false:=by decide
theorem us1:usV 1=true/\usF 1=true:=by decide
theorem us2:usV 2=true/\usF 2=false:=by decide
theorem us3:usV 3=true/\usF 3=false:=by decide
theorem us4:usV 4=true/\usF 4=true:=by decide
theorem y2r (n:Nat)(e:Exn):Uf n e=some (ndP e):=by
 unfold Uf;rw [zzt,A3,zvo];simp only [A3,length_map,A5,Aj,zzo,zht,Ax,Am,E1,I9,Ld,Lc,Gr,Ca,Zx];unfold ndP;by_cases a:arP e.fOp<0
 ·rw [if_pos a,if_pos a]
 rw [if_neg a,if_neg a];by_cases b:(e.fArgs.length:Int)=arP e.fOp;rotate_left
 ·rw [if_neg b,if_pos b]
 rw [if_pos b,if_neg (show ¬((e.fArgs.length:Int)≠arP e.fOp) from fun h=>h b)];have d:=zsu e.fOp a;obtain ⟨op,args,var,field,kind,val⟩:=e;simp only at *;clear b a;rcases d with rfl|rfl|rfl|rfl|rfl|⟨h1,i,g,f⟩
 ·simp [us0,Aw];grind
 ·simp [us1,Aw];grind
 ·simp [us2,Aw];grind
 ·simp [us3,Aw];grind
 ·simp [us4,Aw];grind
 ·simp [h1,i,g,f,Aw];grind
end Go.Proofs.YtidhlpjgifoneaaGreat
