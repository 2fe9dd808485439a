/- What some functions compute, over plain values. -/
import Derived.Test.YthbogefcfhmpgaaGreatK18
set_option linter.unusedVariables false
set_option linter.unusedSimpArgs false
set_option maxRecDepth 100000
set_option maxHeartbeats 8000000
namespace Go.Proofs.YthbogefcfhmpgaaGreat
open Go.RowKit List
open LeX renaming a->aA,trans->aJ,itc->bA
open Tryz renaming func222->aB,func83->aG,func225->aM,func105->aN
open ConG renaming up->aC,walk->aP
open List renaming mem_cons->aD
open RetX renaming oB->aE
open AW renaming step->aH,stepU->aO,regO->aR
open CI renaming w->aK
open EqX renaming A->aL
open A2 renaming o->aS,t->aT,f->aU
open Ad renaming I->aW,oM->aZ
noncomputable section
end
noncomputable section
abbrev z4k {n}:=jf (Fm n) (fun b=>⟨[(12,.bool (b))],[]⟩) fun _=>Fm.eq_1 ..
abbrev z4l {n a0}:=jf (J5 n a0) (fun b=>⟨[(1,.ptr 1 0),(3,.bool (b))],[(1,.box 37 (Yz a0))]⟩) fun _=>J5.eq_1 ..
abbrev z58 {n a1 x3 b}:=li (M5 n a1 x3 b) (fun c=>⟨[(6,.sl 2 (x3.fFields.map Cu)),(38,.sl 3 (a1.fValues.map A6)),(39,aI (((a1.fValues.map A6).length:Int))),(40,aI c)],[]⟩) fun _ _=>M5.eq_2 ..
abbrev z59 {n a1 a0}:=jf (Ft n a1 a0) (fun b=>⟨[(0,.sl 2 (a0.map Ap)),(3,.ptr 3 0),(24,.bool (b))],[(3,.box 37 (Yz a1))]⟩) fun _=>Ft.eq_1 ..
abbrev z4a {n}:=jf (J1 n) (fun b=>⟨[(31,.bool (b))],[]⟩) fun _=>J1.eq_1 ..
abbrev z4b {n a0}:=jt (J2 n a0) (fun b=>⟨[(1,.ptr 1 0),(3,aI b)],[(1,.box 39 [aI a0.fVerdict,aI a0.fBound,.sl 5 (a0.fPrefix.map Am),aI a0.fPeriod])]⟩) fun _=>J2.eq_1 ..
attribute [instance]      z4k z4l z58 z59 z4a z4b
instance zdl {n a0}:CI E0 (Pc n a0) true 270 [Am a0] aI:=by unfold Pc;exact aK [1,3] Tryz.func270
instance zfo {n a0 a1}:CI E0 (Sk n a0 a1) true 221 [.sl 2 (a0.map Ap),Am a1] aI:=by unfold Sk;exact aK [4] Tryz.func221
instance zfp {n a0 a1}:CI E0 (Fz n a0 a1) true 162 [.sl 2 (a0.map Ap),Am a1] aI:=by unfold Fz;exact aK [] Tryz.func162
end
noncomputable section
abbrev z0d {n c b a0 d}:=li (Kf n c b a0 d) (fun e=>⟨[(0,.sl 1 (a0.map aI)),(1,.fn 224 [.ref [.sl 2 (b.ftypes.map Ap),aI b.fa.fVars,aI b.fa.fScopes,.sl 1 (b.fa.fStates.map Al),.sl 17 (b.fa.fEdges.map A5)],.ref [aI c]]),(7,aI (((a0.map aI).length:Int))),(8,aI e)],[]⟩) fun _ _=>Kf.eq_2 ..
abbrev z06 {n a0 c}:=li (Gf n a0 c) (fun b=>⟨[(1,.fn 225 [.ptr 100000 0,.ptr 100001 0]),(2,.ptr 2 0),(5,.row 7027),(10,.sl 17 (a0.fa.fEdges.map A5)),(11,aI (((a0.fa.fEdges.map A5).length:Int))),(12,aI b.1)],[(100000,.box 3 [aI b.2.1]),(100001,.box 113 [.row 200001]),(2,.box 111 [.sl 2 (a0.ftypes.map Ap),aI a0.fa.fVars,aI a0.fa.fScopes,.sl 1 (a0.fa.fStates.map Al),.sl 17 (a0.fa.fEdges.map A5)]),(7027,.row 149 17 (b.2.2.1.map A5)),(200001,.mp (List.map (encM aI AV.bool) (b.2.2.2)))]⟩) fun _ _=>Gf.eq_2 ..
abbrev z1g {n c}:=li (I2 n c) (fun b=>⟨[(5,.fn 222 [.ptr 3 0,.ptr 2 0]),(49,.ptr 49 0)],[(3,.box 43 [.sl 1 (b.1.map aI)]),(2,.box 111 [.sl 2 (b.2.1.map Ap),aI b.2.2.1,aI b.2.2.2.1,.sl 1 (b.2.2.2.2.1.map Al),.sl 17 (b.2.2.2.2.2.1.map A5)]),(49,.it (List.map (encM aI AV.bool) (b.2.2.2.2.2.2)))]⟩) fun _ _=>I2.eq_2 ..
abbrev z1f {n b d c e}:=li (Ky n b d c e) (fun f=>⟨[(2,.ptr 2 0),(5,.fn 222 [.ptr 3 0,.ptr 2 0]),(6,.ptr 6 0),(9,.row 30),(24,.sl 1 (b.2.2.2.2.2.2.map aI)),(25,aI (((b.2.2.2.2.2.2.map aI).length:Int))),(26,aI d.1),(33,.sl 17 (c.1.map A5)),(34,aI (((c.1.map A5).length:Int))),(35,aI f.1)],[(2,.box 111 [.sl 2 (b.2.1.map Ap),aI b.2.2.1,aI b.2.2.2.1,.sl 1 (b.2.2.2.2.1.map Al),.sl 17 (b.2.2.2.2.2.1.map A5)]),(3,.box 43 [.sl 1 (b.2.2.2.2.2.2.map aI)]),(6,.box 113 [.row 34000002]),(30,.mp (List.map (encM aI AV.bool) (f.2))),(34000002,.mp (List.map (encM aI AV.bool) (c.2.2)))]⟩) fun _ _=>Ky.eq_2 ..
abbrev z1h {n b c}:=li (I3 n b c) (fun d=>⟨[(2,.ptr 2 0),(5,.fn 222 [.ptr 3 0,.ptr 2 0]),(6,.ptr 6 0),(24,.sl 1 (b.2.2.2.2.2.2.map aI)),(25,aI (((b.2.2.2.2.2.2.map aI).length:Int))),(26,aI d.1)],[(2,.box 111 [.sl 2 (b.2.1.map Ap),aI b.2.2.1,aI b.2.2.2.1,.sl 1 (b.2.2.2.2.1.map Al),.sl 17 (b.2.2.2.2.2.1.map A5)]),(3,.box 43 [.sl 1 (b.2.2.2.2.2.2.map aI)]),(6,.box 113 [.row 7022]),(7022,.mp (List.map (encM aI AV.bool) (d.2)))]⟩) fun _ _=>I3.eq_2 ..
abbrev z1i {n}:=jf (Gp n) (fun b=>⟨[(2,.ptr 2 0),(3,.ptr 3 0),(5,.fn 222 [.ptr 3 0,.ptr 2 0]),(21,.bool (b.1))],[(2,.box 111 [.sl 2 (b.2.1.map Ap),aI b.2.2.1,aI b.2.2.2.1,.sl 1 (b.2.2.2.2.1.map Al),.sl 17 (b.2.2.2.2.2.1.map A5)]),(3,.box 43 [.sl 1 (b.2.2.2.2.2.2.map aI)])]⟩) fun _=>Gp.eq_1 ..
abbrev z08 {n a2 a1 a0 b c}:=li (Ho n a2 a1 a0 b c) (fun d=>⟨[(1,aI a1),(3,.ptr 3 0),(5,.ptr 5 0),(8,.row 7038),(12,aI d)],[(3,.box 111 [.sl 2 (a0.ftypes.map Ap),aI a0.fa.fVars,aI a0.fa.fScopes,.sl 1 (a0.fa.fStates.map Al),.sl 17 (a0.fa.fEdges.map A5)]),(5,.box 39 [aI a2.fVerdict,aI a2.fBound,.sl 5 (a2.fPrefix.map Am),aI a2.fPeriod]),(7038,.row 3 1 (b.map aI))]⟩) fun _ _=>Ho.eq_2 ..
abbrev z09 {n a2 a1 a0 b}:=li (Kd n a2 a1 a0 b) (fun c=>⟨[(1,aI a1),(3,.ptr 3 0),(5,.ptr 5 0),(8,.row 7038),(21,.sl 5 (a2.fPrefix.map Am)),(22,aI (((a2.fPrefix.map Am).length:Int))),(23,aI c.1)],[(3,.box 111 [.sl 2 (a0.ftypes.map Ap),aI a0.fa.fVars,aI a0.fa.fScopes,.sl 1 (a0.fa.fStates.map Al),.sl 17 (a0.fa.fEdges.map A5)]),(5,.box 39 [aI a2.fVerdict,aI a2.fBound,.sl 5 (a2.fPrefix.map Am),aI a2.fPeriod]),(7038,.row 3 1 (c.2.map aI))]⟩) fun _ _=>Kd.eq_2 ..
abbrev z4d {n}:=jf (J4 n) (fun b=>⟨[(45,.bool (b))],[]⟩) fun _=>J4.eq_1 ..
abbrev z4e {n a3 a2 a1}:=jf (H5 n a3 a2 a1) (fun b=>⟨[(2,aI a2),(5,.ptr 5 0),(7,.ptr 7 0),(31,.bool (b))],[(5,.box 26 (B1 a1)),(7,.box 39 [aI a3.fVerdict,aI a3.fBound,.sl 5 (a3.fPrefix.map Am),aI a3.fPeriod])]⟩) fun _=>H5.eq_1 ..
attribute [instance] z0d z06 z1g z1f z1h z1i z08 z09 z4d z4e
instance zdg {n a0}:CI E0 (Fu n a0) true 163 [.agg [aI a0.fVerdict,aI a0.fBound,.sl 5 (a0.fPrefix.map Am),aI a0.fPeriod]] aI:=by unfold Fu;exact aK [3,5] Tryz.func163
instance z5v {n a0 a1 a2}:CI E0 (Qw n a0 a1 a2) true 224 [aI a0,.ref [.sl 2 (a1.ftypes.map Ap),aI a1.fa.fVars,aI a1.fa.fScopes,.sl 1 (a1.fa.fStates.map Al),.sl 17 (a1.fa.fEdges.map A5)],.ref [aI a2]] (fun r=>.bool (r)):=by unfold Qw;exact aK [] Tryz.func224
instance z6m {n a0 b c}:CI E0 (R6 n a0 b c) true 272 [.sl 1 (a0.map aI),.fn 224 [.ref [.sl 2 (b.ftypes.map Ap),aI b.fa.fVars,aI b.fa.fScopes,.sl 1 (b.fa.fStates.map Al),.sl 17 (b.fa.fEdges.map A5)],.ref [aI c]]] aI:=by unfold R6;exact aK [] Tryz.func272
instance z5c {n a0 b c}:CI E0 (Qp n a0 b c) true 223 [.sl 1 (a0.map aI),.fn 224 [.ref [.sl 2 (b.ftypes.map Ap),aI b.fa.fVars,aI b.fa.fScopes,.sl 1 (b.fa.fStates.map Al),.sl 17 (b.fa.fEdges.map A5)],.ref [aI c]]] (fun r=>.bool (r)):=by unfold Qp;exact aK [] Tryz.func223
def z25 (a0:Int)(m0:(List Int))(m1:Aq):List (Nat×Ent):=[(100000,.box 43 [.sl 1 (m0.map aI)]),(100001,.box 111 [.sl 2 (m1.ftypes.map Ap),aI m1.fa.fVars,aI m1.fa.fScopes,.sl 1 (m1.fa.fStates.map Al),.sl 17 (m1.fa.fEdges.map A5)])]
def I5 (r:Bool×(List Int)×Aq):List (Nat×Ent):=[(100000,.box 43 [.sl 1 (r.2.1.map aI)]),(100001,.box 111 [.sl 2 (r.2.2.ftypes.map Ap),aI r.2.2.fa.fVars,aI r.2.2.fa.fScopes,.sl 1 (r.2.2.fa.fStates.map Al),.sl 17 (r.2.2.fa.fEdges.map A5)])]
def L0 (r:Bool×(List Int)×Aq):AV:=.bool (r.1)
def z23 (r:Bool×(List Int)×Aq):AS:=⟨[(4,.bool (r.1)),(1,.ptr 100000 0),(2,.ptr 100001 0)],I5 r⟩
theorem Qr {n a0 m0 m1 r}(hF:Ib n a0 m0 m1=some r):ConG E0.P none (CalF E0.P 222 0) [aI a0,.ptr 100000 0,.ptr 100001 0] [] (z25 a0 m0 m1) (L0 r) (I5 r):=by
 unfold Ib at hF
 refine aP (E:=(E0p 3)) (caps:=[]) _ aB rfl rfl rfl rfl rfl ?_
 repeat' first
  |refine aH ?_;conv=>whnf
  |refine aS hF (fun hF=>?_) fun hF=>?_
  |refine aT ?_
  |refine aU ?_
  |refine B9.I hF (fun a hF=>?_) rfl rfl fun _=>Or.inr rfl
  |exact GX.A (res:=L0) (meF:=I5) hF z23
  |refine AndA ?_
  |refine aL ?_
def z24 (a0:Ac)(m0:Int)(m1:(List (Int×Bool))):List (Nat×Ent):=[(100000,.box 3 [aI m0]),(100001,.box 113 [.row 200001]),(200001,.mp (List.map (encM aI AV.bool) (m1)))]
def Ns (r:Bool×Int×(List (Int×Bool))):List (Nat×Ent):=[(100000,.box 3 [aI r.2.1]),(100001,.box 113 [.row 250001]),(250001,.mp (List.map (encM aI AV.bool) (r.2.2)))]
def R1 (r:Bool×Int×(List (Int×Bool))):AV:=.bool (r.1)
def z22 (r:Bool×Int×(List (Int×Bool))):AS:=⟨[(4,.bool (r.1)),(1,.ptr 100000 0),(2,.ptr 100001 0)],Ns r⟩
theorem Xg {n a0 m0 m1 r}(hF:Nx n a0 m0 m1=some r):ConG E0.P none (CalF E0.P 225 0) [A5 a0,.ptr 100000 0,.ptr 100001 0] [] (z24 a0 m0 m1) (R1 r) (Ns r):=by
 unfold Nx at hF
 refine aP (E:=(E0p 3)) (caps:=[]) _ aM rfl rfl rfl rfl rfl ?_
 repeat' first
  |refine aH ?_;conv=>whnf
  |refine aS hF (fun hF=>?_) fun hF=>?_
  |refine aT ?_
  |refine aU ?_
  |refine LkX.o aI AV.bool hF (by first|rfl|kernel_rfl) Ce (.refl _) (fun v b hF=>?_)
  |exact GX.A (res:=R1) (meF:=Ns) hF z22 (h1:=aA [(250001,200001)])
  |refine AndA ?_
  |refine aL ?_
def z0s (a0:Aq)(m0:Int)(m1:(List (Int×Bool))):List (Nat×Ent):=[(100000,.box 3 [aI m0]),(100001,.box 113 [.row 200001]),(200001,.mp (List.map (encM aI AV.bool) (m1)))]
def Nb (r:(List Ac)×Int×(List (Int×Bool))):List (Nat×Ent):=[(100000,.box 3 [aI r.2.1]),(100001,.box 113 [.row 250001]),(250001,.mp (List.map (encM aI AV.bool) (r.2.2)))]
def Qn (r:(List Ac)×Int×(List (Int×Bool))):AV:=.sl 17 (r.1.map A5)
def z0q (r:(List Ac)×Int×(List (Int×Bool))):AS:=⟨[(4,.sl 17 (r.1.map A5)),(1,.fn 225 [.ptr 100000 0,.ptr 100001 0])],Nb r⟩
theorem Xc {n a0 m0 m1 r}(hF:Kj n a0 m0 m1=some r):ConG E0.P none (CalF E0.P 105 0) [.agg [.sl 2 (a0.ftypes.map Ap),aI a0.fa.fVars,aI a0.fa.fScopes,.sl 1 (a0.fa.fStates.map Al),.sl 17 (a0.fa.fEdges.map A5)],.fn 225 [.ptr 100000 0,.ptr 100001 0]] [] (z0s a0 m0 m1) (Qn r) (Nb r):=by
 unfold Kj at hF
 refine aP (E:=(E0p 2)) (caps:=[]) _ aN rfl rfl rfl rfl rfl ?_
 repeat' first
  |refine aR hF fun hF=>?_
  |refine AW.frzO hF 7027 rfl (fun hF=>?_)
  |refine aO [8] ?_;conv=>whnf
  |refine aS hF (fun hF=>?_) fun hF=>?_
  |refine aT ?_
  |refine aU ?_
  |refine GX.o (res:=Qn) (meF:=Nb) hF ?_;exact GX.mk (z0q _) (aA [(250001,200001)]) rfl _ rfl (by repeat' first|exact Sub.nil _|exact Sub.refl _|refine Sub.agg ?_|refine Sub.tup ?_|refine Sub.fn ?_|exact SubL.nil|refine SubL.cons ?_ ?_|refine Sub.sl _ ?_|exact SubE.nil|refine SubE.cons ?_ ?_) [100000,100001] ⟨Or.inr ⟨1,0,_,_,_,_,_,Nat.le_of_ble_eq_true rfl,rfl,rfl,rfl,rfl,rfl⟩,⟨Or.inr ⟨1,1,_,_,_,_,_,Nat.le_of_ble_eq_true rfl,rfl,rfl,rfl,rfl,rfl⟩,trivial⟩⟩ rfl
  |refine IdxX.A hF fun x hF=>?_
  |refine aW hF fun a hF=>?_
  |refine B9.oM (Bb 22 hF) [(100000,100000),(100001,100001),(200001,200001)] [(100000,100000),(100001,100001),(250001,23000002)] _ _ Ns R1 [200001] (fun a h=>aC (Xg h)) (Ay aM rfl rfl) rfl rfl rfl ⟨⟨rfl,rfl⟩,⟨⟨rfl,rfl⟩,⟨⟨rfl,rfl⟩,trivial⟩⟩⟩ (fun a=>⟨rfl,rfl,rfl,rfl,rfl,rfl,rfl,rfl⟩) (fun a hF=>?_)
  |refine aZ (Bb 22 hF) [(100000,100000),(100001,100001),(200001,200001)] [(100000,100000),(100001,100001),(250001,23000002)] _ _ Ns R1 [200001] (fun a h=>aC (Xg h)) (Ay aM rfl rfl) rfl rfl rfl ⟨⟨rfl,rfl⟩,⟨⟨rfl,rfl⟩,⟨⟨rfl,rfl⟩,trivial⟩⟩⟩ (fun a=>⟨rfl,rfl,rfl,rfl,rfl,rfl,rfl,rfl⟩) (fun a hF=>?_)
  |refine AppX.oA hF fun l hF=>?_
  |exact ⟨_,hF,aA [(7027,27),(200001,23000002)]⟩
  |exact ⟨_,hF,aA [(200001,23000002)]⟩
  |exact ⟨_,hF,aA []⟩
  |refine Av.I hF ?_ fun m v hF=>?_
  |exact aJ (LeX.adopt 5 7027 149 17 rfl rfl) (aA [])
  |refine AndA ?_
  |refine aL ?_
instance z7e {n a0 a1}:CI E0 (Ip n a0 a1) true 164 [.agg [.sl 2 (a0.ftypes.map Ap),aI a0.fa.fVars,aI a0.fa.fScopes,.sl 1 (a0.fa.fStates.map Al),.sl 17 (a0.fa.fEdges.map A5)],.sl 1 (a1.map aI)] (fun r=>.bool (r)):=⟨fun {r} hF=>by
 unfold Ip at hF
 refine cw Tryz.func164 ?_
 repeat' first
  |refine AW.frsO AV.bool hF 7022 rfl (fun hF=>?_)
  |refine AW.pckO (encM aI AV.bool) hF 49 rfl (fun x s hF=>?_)
  |refine AW.jI hF (fun v hF=>?_) fun hF=>?_
  |refine aR hF fun hF=>?_
  |refine AW.frzO hF 7022 rfl (fun hF=>?_)
  |refine aO [16,2,18] ?_;conv=>whnf
  |refine aS hF (fun hF=>?_) fun hF=>?_
  |refine aT ?_
  |refine aU ?_
  |refine UpX.o aI AV.bool hF (by first|rfl|kernel_rfl) Ce (.refl _) (fun l hF=>?_)
  |refine aW hF fun a hF=>?_
  |refine OpX.rng rfl rfl rfl rfl rfl rfl rfl rfl ?_
  |refine OpX.nxt (encM aI AV.bool) hF rfl rfl rfl rfl rfl (fun hF=>?_) (fun hF=>?_)
  |refine OpX.ent rfl rfl rfl rfl rfl ?_
  |refine B9.oM (Bb 56 hF) [(100000,3),(100001,2)] [(100000,3),(100001,2)] _ _ I5 L0 [] (fun a h=>aC (Qr h)) (Ay aB rfl rfl) rfl rfl rfl ⟨⟨rfl,rfl⟩,⟨⟨rfl,rfl⟩,trivial⟩⟩ (fun a=>⟨rfl,rfl,rfl,rfl,rfl,rfl,rfl,rfl⟩) (fun a hF=>?_)
  |refine aZ (Bb 56 hF) [(100000,3),(100001,2)] [(100000,3),(100001,2)] _ _ I5 L0 [] (fun a h=>aC (Qr h)) (Ay aB rfl rfl) rfl rfl rfl ⟨⟨rfl,rfl⟩,⟨⟨rfl,rfl⟩,trivial⟩⟩ (fun a=>⟨rfl,rfl,rfl,rfl,rfl,rfl,rfl,rfl⟩) (fun a hF=>?_)
  |exact ⟨_,hF,aJ (bA 49 rfl) (aA [])⟩
  |refine Av.I hF ?_ fun m v hF=>?_
  |exact aA []
  |refine IdxX.A hF fun x hF=>?_
  |refine B9.oM (Bb 33 hF) [(100000,8),(100001,6),(200001,7022)] [(100000,8),(100001,6),(250001,34000002)] _ _ Nb Qn [7022] (fun a h=>aC (Xc h)) (Ay aN rfl rfl) rfl rfl rfl ⟨⟨rfl,rfl⟩,⟨⟨rfl,rfl⟩,⟨⟨rfl,rfl⟩,trivial⟩⟩⟩ (fun a=>⟨rfl,rfl,rfl,rfl,rfl,rfl,rfl,rfl⟩) (fun a hF=>?_)
  |refine aZ (Bb 33 hF) [(100000,8),(100001,6),(200001,7022)] [(100000,8),(100001,6),(250001,34000002)] _ _ Nb Qn [7022] (fun a h=>aC (Xc h)) (Ay aN rfl rfl) rfl rfl rfl ⟨⟨rfl,rfl⟩,⟨⟨rfl,rfl⟩,⟨⟨rfl,rfl⟩,trivial⟩⟩⟩ (fun a=>⟨rfl,rfl,rfl,rfl,rfl,rfl,rfl,rfl⟩) (fun a hF=>?_)
  |exact ⟨_,hF,aJ (bA 49 rfl) (aA [(7022,30)])⟩
  |exact ⟨_,hF,aA [(7022,30)]⟩
  |exact ⟨_,hF,aJ (bA 49 rfl) (aA [])⟩
  |exact ⟨_,hF,aA []⟩
  |exact aA [(7022,22)]
  |refine B9.oM (Bb 19 hF) [(100000,3),(100001,2)] [(100000,3),(100001,2)] _ _ I5 L0 [] (fun a h=>aC (Qr h)) (Ay aB rfl rfl) rfl rfl rfl ⟨⟨rfl,rfl⟩,⟨⟨rfl,rfl⟩,trivial⟩⟩ (fun a=>⟨rfl,rfl,rfl,rfl,rfl,rfl,rfl,rfl⟩) (fun a hF=>?_)
  |refine aZ (Bb 19 hF) [(100000,3),(100001,2)] [(100000,3),(100001,2)] _ _ I5 L0 [] (fun a h=>aC (Qr h)) (Ay aB rfl rfl) rfl rfl rfl ⟨⟨rfl,rfl⟩,⟨⟨rfl,rfl⟩,trivial⟩⟩ (fun a=>⟨rfl,rfl,rfl,rfl,rfl,rfl,rfl,rfl⟩) (fun a hF=>?_)
  |refine AndA ?_
  |refine aL ?_
  |exact aE hF⟩
instance z60 {n a0 a1 a2}:CI E0 (Nr n a0 a1 a2) true 94 [.agg [.sl 2 (a0.ftypes.map Ap),aI a0.fa.fVars,aI a0.fa.fScopes,.sl 1 (a0.fa.fStates.map Al),.sl 17 (a0.fa.fEdges.map A5)],aI a1,.agg [aI a2.fVerdict,aI a2.fBound,.sl 5 (a2.fPrefix.map Am),aI a2.fPeriod]] aI:=⟨fun {r} hF=>by
 unfold Nr at hF
 refine cw Tryz.func94 ?_
 repeat' first
  |refine aH ?_;conv=>whnf
  |refine aS hF (fun hF=>?_) fun hF=>?_
  |refine aT ?_
  |refine aU ?_
  |refine aW hF fun a hF=>?_
  |refine B9.I hF (fun a hF=>?_) rfl rfl fun _=>Or.inr rfl
  |refine IdxX.A hF fun x hF=>?_
  |exact ⟨_,hF,aA []⟩
  |refine Av.I hF ?_ fun m v hF=>?_
  |exact aA []
  |refine AppX.oA hF fun l hF=>?_
  |exact ⟨_,hF,aA [(7038,38)]⟩
  |exact aJ (LeX.adopt 8 7038 3 1 rfl rfl) (aA [])
  |refine AndA ?_
  |refine aL ?_
  |exact aE hF⟩
end
noncomputable section
abbrev z2d {n}:=jf (Ig n) (fun b=>⟨[(2,.bool (b))],[]⟩) fun _=>Ig.eq_1 ..
abbrev z28 {n a0 b}:=li (L6 n a0 b) (fun c=>⟨[(0,.sl 11 (a0.map B4)),(3,aI c)],[]⟩) fun _ _=>L6.eq_2 ..
abbrev z2c {n}:=jf (Ie n) (fun b=>⟨[(2,.bool (b))],[]⟩) fun _=>Ie.eq_1 ..
abbrev z29 {n a0 b d c}:=li (L7 n a0 b d c) (fun e=>⟨[(1,.ptr 1 0),(4,aI b),(5,.ptr 5 0),(6,aI e)],[(1,.box 26 (B1 a0)),(5,.box 149 (Cj d))]⟩) fun _ _=>L7.eq_2 ..
abbrev z1p {n a0 b c e}:=jf (Dz n a0 b c e) (fun d=>⟨[(1,.ptr 1 0),(4,aI b),(5,.ptr 5 0),(105,.bool (d))],[(1,.box 26 (B1 a0)),(5,.box 149 (Cj e))]⟩) fun _=>Dz.eq_1 ..
abbrev z1q {n a0 b c d}:=jf (I7 n a0 b c d) (fun e=>⟨[(1,.ptr 1 0),(4,aI b),(64,.bool (e))],[(1,.box 26 (B1 a0))]⟩) fun _=>I7.eq_1 ..
abbrev z2a {n a0 b}:=li (Gv n a0 b) (fun c=>⟨[(1,.ptr 1 0),(4,aI c)],[(1,.box 26 (B1 a0))]⟩) fun _ _=>Gv.eq_2 ..
abbrev z1n {n a0 b c}:=jf (Ek n a0 b c) (fun d=>⟨[(1,.ptr 1 0),(3,aI b),(55,.bool (d))],[(1,.box 26 (B1 a0))]⟩) fun _=>Ek.eq_1 ..
abbrev z1o {n a0 b c d}:=jf (I6 n a0 b c d) (fun e=>⟨[(1,.ptr 1 0),(3,aI b),(15,.bool (e))],[(1,.box 26 (B1 a0))]⟩) fun _=>I6.eq_1 ..
abbrev z2b {n a0 b}:=li (Gw n a0 b) (fun c=>⟨[(1,.ptr 1 0),(3,aI c)],[(1,.box 26 (B1 a0))]⟩) fun _ _=>Gw.eq_2 ..
abbrev z2h {n a0 b}:=li (La n a0 b) (fun c=>⟨[(0,.sl 3 (a0.map A6)),(3,aI c)],[]⟩) fun _ _=>La.eq_2 ..
abbrev z2e {n a0 b}:=li (L9 n a0 b) (fun c=>⟨[(0,.sl 5 (a0.map Am)),(3,aI c)],[]⟩) fun _ _=>L9.eq_2 ..
attribute [instance]   z2d z28 z2c z29 z1p z1q z2a z1n z1o z2b z2h z2e   
instance zdi {n a0 a1 a2 a3}:CI E0 (D7 n a0 a1 a2 a3) true 35 [.sl 2 (a0.map Ap),Br a1,aI a2,.agg [aI a3.fVerdict,aI a3.fBound,.sl 5 (a3.fPrefix.map Am),aI a3.fPeriod]] aI:=by unfold D7;exact aK [6,9] Tryz.func35
instance z8t {n a0}:CI E0 (Iy n a0) true 81 [Ag a0] (fun r=>.bool (r)):=by unfold Iy;exact aK [1] Tryz.func81
instance z8r {n a0}:CI E0 (Oc n a0) true 80 [.sl 11 (a0.map B4)] (fun r=>.bool (r)):=by unfold Oc;exact aK [] Tryz.func80
instance z8s {n a0}:CI E0 (Od n a0) true 25 [Br a0] (fun r=>.bool (r)):=⟨fun {r} hF=>by
 unfold Od at hF
 refine cw Tryz.func25 ?_
 repeat' first
  |refine AW.jI hF (fun v hF=>?_) fun hF=>?_
  |refine aR hF fun hF=>?_
  |refine aO [2,4,7,10,17] ?_;conv=>whnf
  |refine aS hF (fun hF=>?_) fun hF=>?_
  |refine aT ?_
  |refine aU ?_
  |exact ⟨_,hF,aA []⟩
  |refine IdxX.A hF fun x hF=>?_
  |refine IdxX.oD hF E6 (fun x hF=>?_)
  |refine aW hF fun a hF=>?_
  |refine Av.I hF (aA []) fun m v hF=>?_
  |exact aE hF⟩
instance z8w {n a0}:CI E0 (Og n a0) true 93 [.sl 3 (a0.map A6)] (fun r=>.bool (r)):=by unfold Og;exact aK [] Tryz.func93
instance z8u {n a0}:CI E0 (Oe n a0) true 34 [.sl 5 (a0.map Am)] (fun r=>.bool (r)):=by unfold Oe;exact aK [] Tryz.func34
end
noncomputable section
end
noncomputable section
end
noncomputable section
end
noncomputable section
abbrev z2g {n a0 b c}:=jf (Gx n a0 b c) (fun d=>⟨[(0,.sl 2 (a0.map Ap)),(3,aI b),(25,.bool (d))],[]⟩) fun _=>Gx.eq_1 ..
abbrev z2f {n a0 b}:=li (Fa n a0 b) (fun c=>⟨[(0,.sl 2 (a0.map Ap)),(3,aI c)],[]⟩) fun _ _=>Fa.eq_2 ..
abbrev z27 {n}:=jf (F9 n) (fun b=>⟨[(4,.bool (b))],[]⟩) fun _=>F9.eq_1 ..
abbrev z2j {n a1 a0 b}:=li (Ri n a1 a0 b) (fun c=>⟨[(0,.sl 1 (a0.map aI)),(1,.sl 1 (a1.map aI)),(12,aI (((a0.map aI).length:Int))),(13,aI c)],[]⟩) fun _ _=>Ri.eq_2 ..
abbrev z2i {n a1 a0 b}:=li (Rh n a1 a0 b) (fun c=>⟨[(0,.sl 1 (a0.map AV.bool)),(1,.sl 1 (a1.map AV.bool)),(12,aI (((a0.map AV.bool).length:Int))),(13,aI c)],[]⟩) fun _ _=>Rh.eq_2 ..
abbrev z1d {n}:=jf (I1 n) (fun b=>⟨[(1,.sl 2 [.agg [.str ((ByteArray.mk #[65])),.sl 2 [.agg [.str ((ByteArray.mk #[120])),aI 0]]]]),(9,.ptr 9 0),(129,.bool (b))],[(9,.box 37 [aI 0,aI 0,aI 0,aI 0,.sl 3 [.agg [aI 0,aI 0,.str (ByteArray.empty)]]])]⟩) fun _=>I1.eq_1 ..
abbrev z1e {n x2 x7}:=jf (Cq n x2 x7) (fun b=>⟨[(1,.sl 2 [.agg [.str ((ByteArray.mk #[65])),.sl 2 [.agg [.str ((ByteArray.mk #[120])),aI 0]]]]),(2,.sl 1 (x2.1.map aI)),(3,.sl 1 (x2.2.1.map AV.bool)),(7,.ptr 7 0),(9,.ptr 9 0),(111,.bool (b))],[(7,.box 39 [aI x7.1.fVerdict,aI x7.1.fBound,.sl 5 (x7.1.fPrefix.map Am),aI x7.1.fPeriod]),(9,.box 37 [aI 0,aI 0,aI 0,aI 0,.sl 3 [.agg [aI 0,aI 0,.str (ByteArray.empty)]]])]⟩) fun _=>Cq.eq_1 ..
abbrev z02 {n}:=jf (F4 n) (fun b=>⟨[(4,.bool (b))],[]⟩) fun _=>F4.eq_1 ..
abbrev z03 {n a1 x5 x7}:=jf (Ge n a1 x5 x7) (fun b=>⟨[(3,.ptr 3 0),(5,.ptr 5 0),(7,aI x7),(85,.bool (b))],[(3,.box 39 [aI a1.fVerdict,aI a1.fBound,.sl 5 (a1.fPrefix.map Am),aI a1.fPeriod]),(5,.box 39 [aI x5.1.fVerdict,aI x5.1.fBound,.sl 5 (x5.1.fPrefix.map Am),aI x5.1.fPeriod])]⟩) fun _=>Ge.eq_1 ..
abbrev z01 {n}:=jf (F0 n) (fun b=>⟨[(4,.bool (b))],[]⟩) fun _=>F0.eq_1 ..
abbrev z00 {n}:=jf (Gc n) (fun b=>⟨[(4,.bool (b))],[]⟩) fun _=>Gc.eq_1 ..
abbrev z04 {n a1 a0}:=jf (F5 n a1 a0) (fun b=>⟨[(2,.ptr 2 0),(3,.ptr 3 0),(18,.bool (b))],[(2,.box 28 [.sl 2 (a0.fTypes.map Ap),aI a0.fA.fVars,aI a0.fA.fScopes,.sl 1 (a0.fA.fStates.map Al),.sl 17 (a0.fA.fEdges.map A5),aI a0.fRate]),(3,.box 39 [aI a1.fVerdict,aI a1.fBound,.sl 5 (a1.fPrefix.map Am),aI a1.fPeriod])]⟩) fun _=>F5.eq_1 ..
attribute [instance] z2g z2f z27 z2j z2i z1d z1e z02 z03 z01 z00 z04
instance z8v {n a0}:CI E0 (S7 n a0) true 43 [.sl 2 (a0.map Ap)] (fun r=>.bool (r)):=by unfold S7;exact aK [4] Tryz.func43
instance z8q {n a0 a1}:CI E0 (Ob n a0 a1) true 10 [.sl 2 (a0.map Ap),Br a1] (fun r=>.bool (r)):=by unfold Ob;exact aK [1] Tryz.func10
def z19 (r:Bool):AV:=.bool (r)
theorem z0b {n a0 r}(hF:Qu n a0=some r):Con E0 true 30 [.agg [.sl 2 (a0.fTypes.map Ap),aI a0.fA.fVars,aI a0.fA.fScopes,.sl 1 (a0.fA.fStates.map Al),.sl 17 (a0.fA.fEdges.map A5),aI a0.fRate]] (.bool (r)):=by
 unfold Qu at hF
 refine cw Tryz.func30 ?_
 repeat' first
  |refine aH ?_;conv=>whnf
  |refine aS hF (fun hF=>?_) fun hF=>?_
  |refine aT ?_
  |refine aU ?_
  |refine aW hF fun a hF=>?_
  |refine AndA ?_
  |refine aL ?_
  |exact aE hF
instance z7b {n}:CI E0 (Fc n) false 84 [] Ag:=by unfold Fc;exact aK [] Tryz.func84
def z3z (a0:Ah):List (Nat×Ent):=[]
def Oa (r:A8):List (Nat×Ent):=[(261002,.row 140 1 (r.fStates.map Al)),(261003,.row 149 17 (r.fEdges.map A5)),(2,.box 26 [aI r.fVars,aI r.fScopes,.row 261002,.row 261003])]
def S3 (r:A8):AV:=.agg [aI (r.fVars),aI (r.fScopes),.row 261002,.row 261003]
def z3y (r:A8):AS:=⟨[(2,.ptr 2 0)],Oa r⟩
theorem Xm {n a0 r}(hF:Un n a0=some r):ConG E0.P none (CalF E0.P 83 0) [Ag a0] [] (z3z a0) (S3 r) (Oa r):=by
 unfold Un at hF
 refine aP (E:=(E0q 1)) (caps:=[]) _ aG rfl rfl rfl rfl rfl ?_
 repeat' first
  |refine aH ?_;conv=>whnf
  |refine aS hF (fun hF=>?_) fun hF=>?_
  |refine aT ?_
  |refine aU ?_
  |refine MakX.o Al hF (by first|exact SubL.refl _|(repeat' first|exact SubL.nil|refine SubL.cons ?_ ?_|exact Sub.refl _|exact Sub.nil _|refine Sub.agg ?_)) (fun l hF=>?_)
  |refine aW hF fun a hF=>?_
  |refine OpX.bldR A5 hF rfl rfl rfl rfl rfl rfl rfl rfl rfl rfl rfl rfl rfl rfl rfl rfl (by first|exact SubR.refl _|(repeat' first|exact SubR.nil|refine SubR.cons ?_ ?_|exact SubL.nil|refine SubL.cons ?_ ?_|exact Sub.refl _|exact Sub.nil _)) rfl (fun l hF=>?_)
  |refine OpX.bld A5 hF rfl rfl rfl rfl rfl rfl rfl rfl rfl rfl rfl rfl rfl rfl rfl rfl (fun l hF=>?_)
  |exact GX.A (res:=S3) (meF:=Oa) hF z3y (h1:=aA [(261002,3),(261003,8)])
  |refine AndA ?_
  |refine aL ?_
instance z6l {n}:CI E0 (R5 n) false 82 [] Br:=⟨fun {r} hF=>by
 unfold R5 at hF
 refine cw Tryz.func82 ?_
 repeat' first
  |refine aH ?_;conv=>whnf
  |refine aS hF (fun hF=>?_) fun hF=>?_
  |refine aT ?_
  |refine aU ?_
  |refine aW hF fun a hF=>?_
  |refine B9.oM (Bb 3 hF) [] [(261002,4000000),(261003,4000001),(2,4000002)] _ _ Oa S3 [] (fun a h=>aC (Xm h)) (Ay aG rfl rfl) rfl rfl rfl trivial (fun a=>⟨rfl,rfl,rfl,rfl,rfl,rfl,rfl,rfl⟩) (fun a hF=>?_)
  |refine aZ (Bb 3 hF) [] [(261002,4000000),(261003,4000001),(2,4000002)] _ _ Oa S3 [] (fun a h=>aC (Xm h)) (Ay aG rfl rfl) rfl rfl rfl trivial (fun a=>⟨rfl,rfl,rfl,rfl,rfl,rfl,rfl,rfl⟩) (fun a hF=>?_)
  |refine NatX.o hF (fun m hF=>?_)
  |refine LtX.o hF (fun hF=>?_)
  |refine SetX.o A5 hF (fun x=>rfl) (fun x=>(by first|exact SubL.refl _|(repeat' first|exact SubL.nil|refine SubL.cons ?_ ?_|exact Sub.refl _|exact Sub.nil _|refine Sub.agg ?_))) (fun l hF=>?_)
  |refine AndA ?_
  |refine aL ?_
  |exact aE hF⟩
instance z5s {n a0}:CI E0 (Kp n a0) false 83 [Ag a0] Br:=⟨fun {r} hF=>by
 unfold Kp at hF
 refine cw aG ?_
 repeat' first
  |refine aH ?_;conv=>whnf
  |refine aS hF (fun hF=>?_) fun hF=>?_
  |refine aT ?_
  |refine aU ?_
  |refine MakX.o Al hF (by first|exact SubL.refl _|(repeat' first|exact SubL.nil|refine SubL.cons ?_ ?_|exact Sub.refl _|exact Sub.nil _|refine Sub.agg ?_)) (fun l hF=>?_)
  |refine aW hF fun a hF=>?_
  |refine AndA ?_
  |refine aL ?_
  |exact aE hF⟩
instance z8y {n a0 a1}:CI E0 (Uq n a0 a1) true 28 [.sl 1 (a0.map aI),.sl 1 (a1.map aI)] (fun r=>.bool (r)):=by unfold Uq;exact aK [] Tryz.func28
instance z8x {n a0 a1}:CI E0 (Up n a0 a1) true 29 [.sl 1 (a0.map AV.bool),.sl 1 (a1.map AV.bool)] (fun r=>.bool (r)):=by unfold Up;exact aK [] Tryz.func29
instance z7c {n}:CI E0 (E2 n) true 26 [] (fun r=>.bool (r)):=⟨fun {r} hF=>by
 unfold E2 at hF
 refine cw Tryz.func26 ?_
 repeat' first
  |refine AW.jI hF (fun v hF=>?_) fun hF=>?_
  |refine aR hF fun hF=>?_
  |refine AW.frzO hF 53 rfl (fun hF=>?_)
  |refine aO [9,10,12] ?_;conv=>whnf
  |refine aS hF (fun hF=>?_) fun hF=>?_
  |refine aT ?_
  |refine aU ?_
  |refine aW hF fun a hF=>?_
  |refine Ad.S hF fun a hF=>?_
  |refine MakX.o Al hF (by first|exact SubL.refl _|(repeat' first|exact SubL.nil|refine SubL.cons ?_ ?_|exact Sub.refl _|exact Sub.nil _|refine Sub.agg ?_)) (fun l hF=>?_)
  |exact ⟨_,hF,aA []⟩
  |refine AndA ?_
  |refine aL ?_
  |exact aE hF⟩
theorem z05 {n a0 a1 r}(hF:Qm n a0 a1=some r):Con E0 true 7 [.agg [.sl 2 (a0.fTypes.map Ap),aI a0.fA.fVars,aI a0.fA.fScopes,.sl 1 (a0.fA.fStates.map Al),.sl 17 (a0.fA.fEdges.map A5),aI a0.fRate],.agg [aI a1.fVerdict,aI a1.fBound,.sl 5 (a1.fPrefix.map Am),aI a1.fPeriod]] (.bool (r)):=by
 unfold Qm at hF
 refine cw Tryz.func7 ?_
 repeat' first
  |refine AW.jI hF (fun v hF=>?_) fun hF=>?_
  |refine aR hF fun hF=>?_
  |refine aO [1,12,14,16,17] ?_;conv=>whnf
  |refine aS hF (fun hF=>?_) fun hF=>?_
  |refine aT ?_
  |refine aU ?_
  |refine aW hF fun a hF=>?_
  |exact ⟨_,hF,aA []⟩
  |refine Ad.o hF z19 (fun a h=>z0b h) (fun a hF=>?_)
  |refine AndA ?_
  |refine aL ?_
  |exact aE hF
end
section
variable {α:Type} {c:α->α->Int}
theorem TO.asym (h:TO c){a b:α}(k:c a b<0):¬c b a<0:=by have:=h.neg a b;omega
theorem TO.lt_ne (h:TO c){a b:α}(k:c a b<0):a≠b:=fun e=>by subst e;exact h.irr _ k
def Str (c:α->α->Int)(l:List α):Prop:=l.Pairwise (fun x y=>c x y<0)
theorem Str.uniq (h:TO c):∀ {l m:List α},Str c l->Str c m->(∀ x,x∈l ↔ x∈m)->l=m
 |[],[],_,_,_=>rfl
 |[],y::m,_,_,hm=>by have:=(hm y).2 (by simp);simp at this
 |x::l,[],_,_,hm=>by have:=(hm x).1 (by simp);simp at this
 |x::l,y::m,h1,h2,hm=>by
  obtain ⟨a1,a2⟩:=pairwise_cons.1 h1
  obtain ⟨b1,b2⟩:=pairwise_cons.1 h2
  have hxy:x=y:=by
   rcases aD.1 ((hm x).1 (by simp)) with e|e
   ·exact e
   ·rcases aD.1 ((hm y).2 (by simp)) with e'|e'
    ·exact e'.symm
    ·exact absurd (a1 y e') (h.asym (b1 x e))
  subst hxy
  congr 1
  refine Str.uniq h a2 b2 (fun z=>⟨fun hz=>?_,fun hz=>?_⟩)
  ·rcases aD.1 ((hm z).1 (mem_cons_of_mem _ hz)) with e|e
   ·exact absurd e.symm (h.lt_ne (a1 z hz))
   ·exact e
  ·rcases aD.1 ((hm z).2 (mem_cons_of_mem _ hz)) with e|e
   ·exact absurd e.symm (h.lt_ne (b1 z hz))
   ·exact e
def insU (c:α->α->Int)(x:α):List α->List α
 |[]=>[x]
 |y::l=>if c y x<0 then y::insU c x l else if c y x=0 then y::l else x::y::l
theorem zca (h:TO c)(x z:α):∀ l:List α,z∈insU c x l ↔ z=x\/z∈l
 |[]=>by simp [insU]
 |y::l=>by
  unfold insU
  split
  ·simp only [aD,zca h x z l]
   constructor
   ·rintro (h|h|h)<;>simp [h]
   ·rintro (h|h|h)<;>simp [h]
  ·split
   ·rename_i e
    have:=(h.zero _ _).1 e
    subst this
    simp only [aD]
    constructor
    ·intro k;exact Or.inr k
    ·rintro (k|k)
     ·exact Or.inl k
     ·exact k
   ·simp only [aD]
def puts (c:α->α->Int)(s:List α)(l:List α):List α:=l.foldl (fun s x=>insU c x s) s
def setL (c:α->α->Int)(l:List α):List α:=puts c [] l
theorem zek (s:List α)(x:α)(l:List α):puts c s (x::l)=puts c (insU c x s) l:=rfl
theorem zbl (h:TO c)(z:α):∀ (l s:List α),z∈puts c s l ↔ z∈s\/z∈l
 |[],s=>by simp [puts]
 |x::l,s=>by
  rw [zek,zbl h z l,zca h]
  simp only [aD]
  constructor
  ·rintro ((k|k)|k)<;>simp [k]
  ·rintro (k|k|k)<;>simp [k]
theorem zgc (h:TO c)(z:α)(l:List α):z∈setL c l ↔ z∈l:=by unfold setL;rw [zbl h];simp
variable [DecidableEq α]
def ddA (p:α):List α->List α
 |[]=>[]
 |y::l=>if y=p then ddA p l else y::ddA y l
def dd:List α->List α
 |[]=>[]
 |x::l=>x::ddA x l
end
end Go.Proofs.YthbogefcfhmpgaaGreat
