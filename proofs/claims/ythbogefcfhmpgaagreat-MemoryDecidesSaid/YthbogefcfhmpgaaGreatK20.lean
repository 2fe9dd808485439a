/- What some functions compute, over plain values. -/
import Derived.Test.YthbogefcfhmpgaaGreatK19
set_option linter.unusedVariables false
set_option linter.unusedSimpArgs false
set_option maxRecDepth 100000
set_option maxHeartbeats 8000000
namespace Go.Proofs.YthbogefcfhmpgaaGreat
open Go.RowKit
open LeX renaming a->aA,trans->aF,adopt->aV,itc->bD
open RetX renaming oB->aB
open CI renaming w->aC
open Tryz renaming func222->aD,func83->aM,func225->aP,func105->aQ
open ConG renaming up->aE,walk->aR
open AW renaming stepU->aG,regO->aJ,step->aN
open SubL renaming refl->aH
open EqX renaming A->aK
open A4 renaming o->aO,t->aS,f->aT
open IdxX renaming A->aU
open Af renaming I->aW,oM->bC
noncomputable section
end
noncomputable section
abbrev z9a {n}:=jf (K8 n) (fun b=>⟨[(12,.bool (b))],[]⟩) fun _=>K8.eq_1 ..
abbrev z9b {n a0}:=jf (R1 n a0) (fun b=>⟨[(1,.ptr 1 0),(3,.bool (b))],[(1,.box 37 (Np a0))]⟩) fun _=>R1.eq_1 ..
abbrev zax {n a1 x3 b}:=li (Wx n a1 x3 b) (fun c=>⟨[(6,.sl 2 (x3.fFields.map C7)),(38,.sl 3 (a1.fValues.map Ac)),(39,aI (((a1.fValues.map Ac).length:Int))),(40,aI c)],[]⟩) fun _ _=>Wx.eq_2 ..
abbrev zay {n a1 a0}:=jf (R9 n a1 a0) (fun b=>⟨[(0,.sl 2 (a0.map Al)),(3,.ptr 3 0),(24,.bool (b))],[(3,.box 37 (Np a1))]⟩) fun _=>R9.eq_1 ..
abbrev z8y {n}:=jf (Qx n) (fun b=>⟨[(31,.bool (b))],[]⟩) fun _=>Qx.eq_1 ..
abbrev z8z {n a0}:=jt (Qy n a0) (fun b=>⟨[(1,.ptr 1 0),(3,aI b)],[(1,.box 39 [aI a0.fVerdict,aI a0.fBound,.sl 5 (a0.fPrefix.map Aj),aI a0.fPeriod])]⟩) fun _=>Qy.eq_1 ..
attribute [instance]      z9a z9b zax zay z8y z8z
instance zpj {n a0}:CI E0 (Zp n a0) true 270 [Aj a0] aI:=by unfold Zp;exact aC [1,3] Tryz.func270
instance zsu {n a0 a1}:CI E0 (Zu n a0 a1) true 221 [.sl 2 (a0.map Al),Aj a1] aI:=by unfold Zu;exact aC [4] Tryz.func221
instance zsv {n a0 a1}:CI E0 (Zv n a0 a1) true 162 [.sl 2 (a0.map Al),Aj a1] aI:=by unfold Zv;exact aC [] Tryz.func162
end
noncomputable section
abbrev z1a {n c b a0 d}:=li (Vk n c b a0 d) (fun e=>⟨[(0,.sl 1 (a0.map aI)),(1,.fn 224 [.ref [.sl 2 (b.ftypes.map Al),aI b.fa.fVars,aI b.fa.fScopes,.sl 1 (b.fa.fStates.map Aq),.sl 17 (b.fa.fEdges.map Ab)],.ref [aI c]]),(7,aI (((a0.map aI).length:Int))),(8,aI e)],[]⟩) fun _ _=>Vk.eq_2 ..
abbrev z0h {n a0 c}:=li (Ok n a0 c) (fun b=>⟨[(1,.fn 225 [.ptr 100000 0,.ptr 100001 0]),(2,.ptr 2 0),(5,.row 7027),(10,.sl 17 (a0.fa.fEdges.map Ab)),(11,aI (((a0.fa.fEdges.map Ab).length:Int))),(12,aI b.1)],[(100000,.box 3 [aI b.2.1]),(100001,.box 113 [.row 200001]),(2,.box 111 [.sl 2 (a0.ftypes.map Al),aI a0.fa.fVars,aI a0.fa.fScopes,.sl 1 (a0.fa.fStates.map Aq),.sl 17 (a0.fa.fEdges.map Ab)]),(7027,.row 149 17 (b.2.2.1.map Ab)),(200001,.mp (List.map (encM aI AV.bool) (b.2.2.2)))]⟩) fun _ _=>Ok.eq_2 ..
abbrev z42 {n c}:=li (Vs n c) (fun b=>⟨[(5,.fn 222 [.ptr 3 0,.ptr 2 0]),(49,.ptr 49 0)],[(3,.box 43 [.sl 1 (b.1.map aI)]),(2,.box 111 [.sl 2 (b.2.1.map Al),aI b.2.2.1,aI b.2.2.2.1,.sl 1 (b.2.2.2.2.1.map Aq),.sl 17 (b.2.2.2.2.2.1.map Ab)]),(49,.it (List.map (encM aI AV.bool) (b.2.2.2.2.2.2)))]⟩) fun _ _=>Vs.eq_2 ..
abbrev z41 {n b d c e}:=li (Vr n b d c e) (fun f=>⟨[(2,.ptr 2 0),(5,.fn 222 [.ptr 3 0,.ptr 2 0]),(6,.ptr 6 0),(9,.row 30),(24,.sl 1 (b.2.2.2.2.2.2.map aI)),(25,aI (((b.2.2.2.2.2.2.map aI).length:Int))),(26,aI d.1),(33,.sl 17 (c.1.map Ab)),(34,aI (((c.1.map Ab).length:Int))),(35,aI f.1)],[(2,.box 111 [.sl 2 (b.2.1.map Al),aI b.2.2.1,aI b.2.2.2.1,.sl 1 (b.2.2.2.2.1.map Aq),.sl 17 (b.2.2.2.2.2.1.map Ab)]),(3,.box 43 [.sl 1 (b.2.2.2.2.2.2.map aI)]),(6,.box 113 [.row 34000002]),(30,.mp (List.map (encM aI AV.bool) (f.2))),(34000002,.mp (List.map (encM aI AV.bool) (c.2.2)))]⟩) fun _ _=>Vr.eq_2 ..
abbrev z43 {n b c}:=li (Vt n b c) (fun d=>⟨[(2,.ptr 2 0),(5,.fn 222 [.ptr 3 0,.ptr 2 0]),(6,.ptr 6 0),(24,.sl 1 (b.2.2.2.2.2.2.map aI)),(25,aI (((b.2.2.2.2.2.2.map aI).length:Int))),(26,aI d.1)],[(2,.box 111 [.sl 2 (b.2.1.map Al),aI b.2.2.1,aI b.2.2.2.1,.sl 1 (b.2.2.2.2.1.map Aq),.sl 17 (b.2.2.2.2.2.1.map Ab)]),(3,.box 43 [.sl 1 (b.2.2.2.2.2.2.map aI)]),(6,.box 113 [.row 7022]),(7022,.mp (List.map (encM aI AV.bool) (d.2)))]⟩) fun _ _=>Vt.eq_2 ..
abbrev z44 {n}:=jf (Po n) (fun b=>⟨[(2,.ptr 2 0),(3,.ptr 3 0),(5,.fn 222 [.ptr 3 0,.ptr 2 0]),(21,.bool (b.1))],[(2,.box 111 [.sl 2 (b.2.1.map Al),aI b.2.2.1,aI b.2.2.2.1,.sl 1 (b.2.2.2.2.1.map Aq),.sl 17 (b.2.2.2.2.2.1.map Ab)]),(3,.box 43 [.sl 1 (b.2.2.2.2.2.2.map aI)])]⟩) fun _=>Po.eq_1 ..
abbrev z0s {n a2 a1 a0 b c}:=li (Vg n a2 a1 a0 b c) (fun d=>⟨[(1,aI a1),(3,.ptr 3 0),(5,.ptr 5 0),(8,.row 7038),(12,aI d)],[(3,.box 111 [.sl 2 (a0.ftypes.map Al),aI a0.fa.fVars,aI a0.fa.fScopes,.sl 1 (a0.fa.fStates.map Aq),.sl 17 (a0.fa.fEdges.map Ab)]),(5,.box 39 [aI a2.fVerdict,aI a2.fBound,.sl 5 (a2.fPrefix.map Aj),aI a2.fPeriod]),(7038,.row 3 1 (b.map aI))]⟩) fun _ _=>Vg.eq_2 ..
abbrev z0t {n a2 a1 a0 b}:=li (Vh n a2 a1 a0 b) (fun c=>⟨[(1,aI a1),(3,.ptr 3 0),(5,.ptr 5 0),(8,.row 7038),(21,.sl 5 (a2.fPrefix.map Aj)),(22,aI (((a2.fPrefix.map Aj).length:Int))),(23,aI c.1)],[(3,.box 111 [.sl 2 (a0.ftypes.map Al),aI a0.fa.fVars,aI a0.fa.fScopes,.sl 1 (a0.fa.fStates.map Aq),.sl 17 (a0.fa.fEdges.map Ab)]),(5,.box 39 [aI a2.fVerdict,aI a2.fBound,.sl 5 (a2.fPrefix.map Aj),aI a2.fPeriod]),(7038,.row 3 1 (c.2.map aI))]⟩) fun _ _=>Vh.eq_2 ..
abbrev z91 {n}:=jf (Qz n) (fun b=>⟨[(45,.bool (b))],[]⟩) fun _=>Qz.eq_1 ..
abbrev z92 {n a3 a2 a1}:=jf (R0 n a3 a2 a1) (fun b=>⟨[(2,aI a2),(5,.ptr 5 0),(7,.ptr 7 0),(31,.bool (b))],[(5,.box 26 (Ar a1)),(7,.box 39 [aI a3.fVerdict,aI a3.fBound,.sl 5 (a3.fPrefix.map Aj),aI a3.fPeriod])]⟩) fun _=>R0.eq_1 ..
attribute [instance] z1a z0h z42 z41 z43 z44 z0s z0t z91 z92
instance zpe {n a0}:CI E0 (Zo n a0) true 163 [.agg [aI a0.fVerdict,aI a0.fBound,.sl 5 (a0.fPrefix.map Aj),aI a0.fPeriod]] aI:=by unfold Zo;exact aC [3,5] Tryz.func163
instance zch {n a0 a1 a2}:CI E0 (Z6 n a0 a1 a2) true 224 [aI a0,.ref [.sl 2 (a1.ftypes.map Al),aI a1.fa.fVars,aI a1.fa.fScopes,.sl 1 (a1.fa.fStates.map Aq),.sl 17 (a1.fa.fEdges.map Ab)],.ref [aI a2]] (fun r=>.bool (r)):=by unfold Z6;exact aC [] Tryz.func224
instance zdq {n a0 b c}:CI E0 (Z8 n a0 b c) true 272 [.sl 1 (a0.map aI),.fn 224 [.ref [.sl 2 (b.ftypes.map Al),aI b.fa.fVars,aI b.fa.fScopes,.sl 1 (b.fa.fStates.map Aq),.sl 17 (b.fa.fEdges.map Ab)],.ref [aI c]]] aI:=by unfold Z8;exact aC [] Tryz.func272
instance zb2 {n a0 b c}:CI E0 (Z4 n a0 b c) true 223 [.sl 1 (a0.map aI),.fn 224 [.ref [.sl 2 (b.ftypes.map Al),aI b.fa.fVars,aI b.fa.fScopes,.sl 1 (b.fa.fStates.map Aq),.sl 17 (b.fa.fEdges.map Ab)],.ref [aI c]]] (fun r=>.bool (r)):=by unfold Z4;exact aC [] Tryz.func223
def z5q (a0:Int)(m0:(List Int))(m1:B0):List (Nat×Ent):=[(100000,.box 43 [.sl 1 (m0.map aI)]),(100001,.box 111 [.sl 2 (m1.ftypes.map Al),aI m1.fa.fVars,aI m1.fa.fScopes,.sl 1 (m1.fa.fStates.map Aq),.sl 17 (m1.fa.fEdges.map Ab)])]
def Lw (r:Bool×(List Int)×B0):List (Nat×Ent):=[(100000,.box 43 [.sl 1 (r.2.1.map aI)]),(100001,.box 111 [.sl 2 (r.2.2.ftypes.map Al),aI r.2.2.fa.fVars,aI r.2.2.fa.fScopes,.sl 1 (r.2.2.fa.fStates.map Aq),.sl 17 (r.2.2.fa.fEdges.map Ab)])]
def Pq (r:Bool×(List Int)×B0):AV:=.bool (r.1)
def z5o (r:Bool×(List Int)×B0):AS:=⟨[(4,.bool (r.1)),(1,.ptr 100000 0),(2,.ptr 100001 0)],Lw r⟩
theorem Vm {n a0 m0 m1 r}(hF:Vy n a0 m0 m1=some r):ConG E0.P none (CalF E0.P 222 0) [aI a0,.ptr 100000 0,.ptr 100001 0] [] (z5q a0 m0 m1) (Pq r) (Lw r):=by
 unfold Vy at hF
 refine aR (E:=(E0p 3)) (caps:=[]) _ aD rfl rfl rfl rfl rfl ?_
 repeat' first
  |refine aN ?_;conv=>whnf
  |refine aO hF (fun hF=>?_) fun hF=>?_
  |refine aS ?_
  |refine aT ?_
  |refine B4.I hF (fun a hF=>?_) rfl rfl fun _=>Or.inr rfl
  |exact GX.A (res:=Pq) (meF:=Lw) hF z5o
  |refine AndA ?_
  |refine aK ?_
def z5p (a0:Ai)(m0:Int)(m1:(List (Int×Bool))):List (Nat×Ent):=[(100000,.box 3 [aI m0]),(100001,.box 113 [.row 200001]),(200001,.mp (List.map (encM aI AV.bool) (m1)))]
def Sk (r:Bool×Int×(List (Int×Bool))):List (Nat×Ent):=[(100000,.box 3 [aI r.2.1]),(100001,.box 113 [.row 250001]),(250001,.mp (List.map (encM aI AV.bool) (r.2.2)))]
def Vu (r:Bool×Int×(List (Int×Bool))):AV:=.bool (r.1)
def z5n (r:Bool×Int×(List (Int×Bool))):AS:=⟨[(4,.bool (r.1)),(1,.ptr 100000 0),(2,.ptr 100001 0)],Sk r⟩
theorem z04 {n a0 m0 m1 r}(hF:Za n a0 m0 m1=some r):ConG E0.P none (CalF E0.P 225 0) [Ab a0,.ptr 100000 0,.ptr 100001 0] [] (z5p a0 m0 m1) (Vu r) (Sk r):=by
 unfold Za at hF
 refine aR (E:=(E0p 3)) (caps:=[]) _ aP rfl rfl rfl rfl rfl ?_
 repeat' first
  |refine aN ?_;conv=>whnf
  |refine aO hF (fun hF=>?_) fun hF=>?_
  |refine aS ?_
  |refine aT ?_
  |refine LkX.o aI AV.bool hF (by first|rfl|kernel_rfl) D2 (by repeat' first|exact Sub.nil _|exact Sub.refl _|refine Sub.agg ?_|refine Sub.tup ?_|refine Sub.fn ?_|exact SubL.nil|refine SubL.cons ?_ ?_|refine Sub.sl _ ?_|exact SubE.nil|refine SubE.cons ?_ ?_) (fun v b hF=>?_)
  |exact GX.A (res:=Vu) (meF:=Sk) hF z5n (h1:=aA [(250001,200001)])
  |refine AndA ?_
  |refine aK ?_
def z1p (a0:B0)(m0:Int)(m1:(List (Int×Bool))):List (Nat×Ent):=[(100000,.box 3 [aI m0]),(100001,.box 113 [.row 200001]),(200001,.mp (List.map (encM aI AV.bool) (m1)))]
def Se (r:(List Ai)×Int×(List (Int×Bool))):List (Nat×Ent):=[(100000,.box 3 [aI r.2.1]),(100001,.box 113 [.row 250001]),(250001,.mp (List.map (encM aI AV.bool) (r.2.2)))]
def Vi (r:(List Ai)×Int×(List (Int×Bool))):AV:=.sl 17 (r.1.map Ab)
def z1n (r:(List Ai)×Int×(List (Int×Bool))):AS:=⟨[(4,.sl 17 (r.1.map Ab)),(1,.fn 225 [.ptr 100000 0,.ptr 100001 0])],Se r⟩
theorem z00 {n a0 m0 m1 r}(hF:Z5 n a0 m0 m1=some r):ConG E0.P none (CalF E0.P 105 0) [.agg [.sl 2 (a0.ftypes.map Al),aI a0.fa.fVars,aI a0.fa.fScopes,.sl 1 (a0.fa.fStates.map Aq),.sl 17 (a0.fa.fEdges.map Ab)],.fn 225 [.ptr 100000 0,.ptr 100001 0]] [] (z1p a0 m0 m1) (Vi r) (Se r):=by
 unfold Z5 at hF
 refine aR (E:=(E0p 2)) (caps:=[]) _ aQ rfl rfl rfl rfl rfl ?_
 repeat' first
  |refine aJ hF fun hF=>?_
  |refine AW.frzO hF 7027 rfl (fun hF=>?_)
  |refine aG [8] ?_;conv=>whnf
  |refine aO hF (fun hF=>?_) fun hF=>?_
  |refine aS ?_
  |refine aT ?_
  |refine GX.o (res:=Vi) (meF:=Se) hF ?_;exact GX.mk (z1n _) (aA [(250001,200001)]) rfl _ rfl (by repeat' first|exact Sub.nil _|exact Sub.refl _|refine Sub.agg ?_|refine Sub.tup ?_|refine Sub.fn ?_|exact SubL.nil|refine SubL.cons ?_ ?_|refine Sub.sl _ ?_|exact SubE.nil|refine SubE.cons ?_ ?_) [100000,100001] ⟨Or.inr ⟨1,0,_,_,_,_,_,Nat.le_of_ble_eq_true rfl,rfl,rfl,rfl,rfl,rfl⟩,⟨Or.inr ⟨1,1,_,_,_,_,_,Nat.le_of_ble_eq_true rfl,rfl,rfl,rfl,rfl,rfl⟩,trivial⟩⟩ rfl
  |refine aU hF fun x hF=>?_
  |refine aW hF fun a hF=>?_
  |refine B4.oM (B9 22 hF) [(100000,100000),(100001,100001),(200001,200001)] [(100000,100000),(100001,100001),(250001,23000002)] _ _ Sk Vu [200001] (fun a h=>aE (z04 h)) (B3 aP rfl rfl) rfl rfl rfl ⟨⟨rfl,rfl⟩,⟨⟨rfl,rfl⟩,⟨⟨rfl,rfl⟩,trivial⟩⟩⟩ (fun a=>⟨rfl,rfl,rfl,rfl,rfl,rfl,rfl,rfl⟩) (fun a hF=>?_)
  |refine bC (B9 22 hF) [(100000,100000),(100001,100001),(200001,200001)] [(100000,100000),(100001,100001),(250001,23000002)] _ _ Sk Vu [200001] (fun a h=>aE (z04 h)) (B3 aP rfl rfl) rfl rfl rfl ⟨⟨rfl,rfl⟩,⟨⟨rfl,rfl⟩,⟨⟨rfl,rfl⟩,trivial⟩⟩⟩ (fun a=>⟨rfl,rfl,rfl,rfl,rfl,rfl,rfl,rfl⟩) (fun a hF=>?_)
  |refine AppX.oA hF fun l hF=>?_
  |exact ⟨_,hF,aA [(7027,27),(200001,23000002)]⟩
  |exact ⟨_,hF,aA [(200001,23000002)]⟩
  |exact ⟨_,hF,aA []⟩
  |refine Av.I hF ?_ fun m v hF=>?_
  |exact aF (aV 5 7027 149 17 rfl rfl) (aA [])
  |refine AndA ?_
  |refine aK ?_
instance zgk {n a0 a1}:CI E0 (Zi n a0 a1) true 164 [.agg [.sl 2 (a0.ftypes.map Al),aI a0.fa.fVars,aI a0.fa.fScopes,.sl 1 (a0.fa.fStates.map Aq),.sl 17 (a0.fa.fEdges.map Ab)],.sl 1 (a1.map aI)] (fun r=>.bool (r)):=⟨fun {r} hF=>by
 unfold Zi at hF
 refine cw Tryz.func164 ?_
 repeat' first
  |refine AW.frsO AV.bool hF 7022 rfl (fun hF=>?_)
  |refine AW.pckO (encM aI AV.bool) hF 49 rfl (fun x s hF=>?_)
  |refine AW.jI hF (fun v hF=>?_) fun hF=>?_
  |refine aJ hF fun hF=>?_
  |refine AW.frzO hF 7022 rfl (fun hF=>?_)
  |refine aG [16,2,18] ?_;conv=>whnf
  |refine aO hF (fun hF=>?_) fun hF=>?_
  |refine aS ?_
  |refine aT ?_
  |refine UpX.o aI AV.bool hF (by first|rfl|kernel_rfl) D2 (by repeat' first|exact Sub.nil _|exact Sub.refl _|refine Sub.agg ?_|refine Sub.tup ?_|refine Sub.fn ?_|exact SubL.nil|refine SubL.cons ?_ ?_|refine Sub.sl _ ?_|exact SubE.nil|refine SubE.cons ?_ ?_) (fun l hF=>?_)
  |refine aW hF fun a hF=>?_
  |refine OpX.rng rfl rfl rfl rfl rfl rfl rfl rfl ?_
  |refine OpX.nxt (encM aI AV.bool) hF rfl rfl rfl rfl rfl (fun hF=>?_) (fun hF=>?_)
  |refine OpX.ent rfl rfl rfl rfl rfl ?_
  |refine B4.oM (B9 56 hF) [(100000,3),(100001,2)] [(100000,3),(100001,2)] _ _ Lw Pq [] (fun a h=>aE (Vm h)) (B3 aD rfl rfl) rfl rfl rfl ⟨⟨rfl,rfl⟩,⟨⟨rfl,rfl⟩,trivial⟩⟩ (fun a=>⟨rfl,rfl,rfl,rfl,rfl,rfl,rfl,rfl⟩) (fun a hF=>?_)
  |refine bC (B9 56 hF) [(100000,3),(100001,2)] [(100000,3),(100001,2)] _ _ Lw Pq [] (fun a h=>aE (Vm h)) (B3 aD rfl rfl) rfl rfl rfl ⟨⟨rfl,rfl⟩,⟨⟨rfl,rfl⟩,trivial⟩⟩ (fun a=>⟨rfl,rfl,rfl,rfl,rfl,rfl,rfl,rfl⟩) (fun a hF=>?_)
  |exact ⟨_,hF,aF (bD 49 rfl) (aA [])⟩
  |refine Av.I hF ?_ fun m v hF=>?_
  |exact aA []
  |refine aU hF fun x hF=>?_
  |refine B4.oM (B9 33 hF) [(100000,8),(100001,6),(200001,7022)] [(100000,8),(100001,6),(250001,34000002)] _ _ Se Vi [7022] (fun a h=>aE (z00 h)) (B3 aQ rfl rfl) rfl rfl rfl ⟨⟨rfl,rfl⟩,⟨⟨rfl,rfl⟩,⟨⟨rfl,rfl⟩,trivial⟩⟩⟩ (fun a=>⟨rfl,rfl,rfl,rfl,rfl,rfl,rfl,rfl⟩) (fun a hF=>?_)
  |refine bC (B9 33 hF) [(100000,8),(100001,6),(200001,7022)] [(100000,8),(100001,6),(250001,34000002)] _ _ Se Vi [7022] (fun a h=>aE (z00 h)) (B3 aQ rfl rfl) rfl rfl rfl ⟨⟨rfl,rfl⟩,⟨⟨rfl,rfl⟩,⟨⟨rfl,rfl⟩,trivial⟩⟩⟩ (fun a=>⟨rfl,rfl,rfl,rfl,rfl,rfl,rfl,rfl⟩) (fun a hF=>?_)
  |exact ⟨_,hF,aF (bD 49 rfl) (aA [(7022,30)])⟩
  |exact ⟨_,hF,aA [(7022,30)]⟩
  |exact ⟨_,hF,aF (bD 49 rfl) (aA [])⟩
  |exact ⟨_,hF,aA []⟩
  |exact aA [(7022,22)]
  |refine B4.oM (B9 19 hF) [(100000,3),(100001,2)] [(100000,3),(100001,2)] _ _ Lw Pq [] (fun a h=>aE (Vm h)) (B3 aD rfl rfl) rfl rfl rfl ⟨⟨rfl,rfl⟩,⟨⟨rfl,rfl⟩,trivial⟩⟩ (fun a=>⟨rfl,rfl,rfl,rfl,rfl,rfl,rfl,rfl⟩) (fun a hF=>?_)
  |refine bC (B9 19 hF) [(100000,3),(100001,2)] [(100000,3),(100001,2)] _ _ Lw Pq [] (fun a h=>aE (Vm h)) (B3 aD rfl rfl) rfl rfl rfl ⟨⟨rfl,rfl⟩,⟨⟨rfl,rfl⟩,trivial⟩⟩ (fun a=>⟨rfl,rfl,rfl,rfl,rfl,rfl,rfl,rfl⟩) (fun a hF=>?_)
  |refine AndA ?_
  |refine aK ?_
  |exact aB hF⟩
instance zcx {n a0 a1 a2}:CI E0 (Z7 n a0 a1 a2) true 94 [.agg [.sl 2 (a0.ftypes.map Al),aI a0.fa.fVars,aI a0.fa.fScopes,.sl 1 (a0.fa.fStates.map Aq),.sl 17 (a0.fa.fEdges.map Ab)],aI a1,.agg [aI a2.fVerdict,aI a2.fBound,.sl 5 (a2.fPrefix.map Aj),aI a2.fPeriod]] aI:=⟨fun {r} hF=>by
 unfold Z7 at hF
 refine cw Tryz.func94 ?_
 repeat' first
  |refine aN ?_;conv=>whnf
  |refine aO hF (fun hF=>?_) fun hF=>?_
  |refine aS ?_
  |refine aT ?_
  |refine aW hF fun a hF=>?_
  |refine B4.I hF (fun a hF=>?_) rfl rfl fun _=>Or.inr rfl
  |refine aU hF fun x hF=>?_
  |exact ⟨_,hF,aA []⟩
  |refine Av.I hF ?_ fun m v hF=>?_
  |exact aA []
  |refine AppX.oA hF fun l hF=>?_
  |exact ⟨_,hF,aA [(7038,38)]⟩
  |exact aF (aV 8 7038 3 1 rfl rfl) (aA [])
  |refine AndA ?_
  |refine aK ?_
  |exact aB hF⟩
end
noncomputable section
abbrev z65 {n}:=jf (Mh n) (fun b=>⟨[(2,.bool (b))],[]⟩) fun _=>Mh.eq_1 ..
abbrev z60 {n a0 b}:=li (Q2 n a0 b) (fun c=>⟨[(0,.sl 11 (a0.map B1)),(3,aI c)],[]⟩) fun _ _=>Q2.eq_2 ..
abbrev z64 {n}:=jf (Mg n) (fun b=>⟨[(2,.bool (b))],[]⟩) fun _=>Mg.eq_1 ..
abbrev z61 {n a0 b d c}:=li (Q3 n a0 b d c) (fun e=>⟨[(1,.ptr 1 0),(4,aI b),(5,.ptr 5 0),(6,aI e)],[(1,.box 26 (Ar a0)),(5,.box 149 (Bq d))]⟩) fun _ _=>Q3.eq_2 ..
abbrev z4u {n a0 b c e}:=jf (Ff n a0 b c e) (fun d=>⟨[(1,.ptr 1 0),(4,aI b),(5,.ptr 5 0),(105,.bool (d))],[(1,.box 26 (Ar a0)),(5,.box 149 (Bq e))]⟩) fun _=>Ff.eq_1 ..
abbrev z4v {n a0 b c d}:=jf (M4 n a0 b c d) (fun e=>⟨[(1,.ptr 1 0),(4,aI b),(64,.bool (e))],[(1,.box 26 (Ar a0))]⟩) fun _=>M4.eq_1 ..
abbrev z62 {n a0 b}:=li (Jo n a0 b) (fun c=>⟨[(1,.ptr 1 0),(4,aI c)],[(1,.box 26 (Ar a0))]⟩) fun _ _=>Jo.eq_2 ..
abbrev z4s {n a0 b c}:=jf (Gb n a0 b c) (fun d=>⟨[(1,.ptr 1 0),(3,aI b),(55,.bool (d))],[(1,.box 26 (Ar a0))]⟩) fun _=>Gb.eq_1 ..
abbrev z4t {n a0 b c d}:=jf (M3 n a0 b c d) (fun e=>⟨[(1,.ptr 1 0),(3,aI b),(15,.bool (e))],[(1,.box 26 (Ar a0))]⟩) fun _=>M3.eq_1 ..
abbrev z63 {n a0 b}:=li (Jp n a0 b) (fun c=>⟨[(1,.ptr 1 0),(3,aI c)],[(1,.box 26 (Ar a0))]⟩) fun _ _=>Jp.eq_2 ..
abbrev z3p {n a0 b c}:=li (Pj n a0 b c) (fun d=>⟨[(0,.sl 5 (a0.map Aj)),(3,aI b),(4,aI d)],[]⟩) fun _ _=>Pj.eq_2 ..
abbrev z3o {n a0 b c}:=li (Pi n a0 b c) (fun d=>⟨[(0,.sl 5 (a0.map Aj)),(3,aI b),(4,aI d)],[]⟩) fun _ _=>Pi.eq_2 ..
abbrev z3q {n a0 b}:=li (Hb n a0 b) (fun c=>⟨[(0,.sl 5 (a0.map Aj)),(3,aI c)],[]⟩) fun _ _=>Hb.eq_2 ..
attribute [instance]   z65 z60 z64 z61 z4u z4v z62 z4s z4t z63   z3p z3o z3q
instance zpg {n a0 a1 a2 a3}:CI E0 (Wz n a0 a1 a2 a3) true 35 [.sl 2 (a0.map Al),B2 a1,aI a2,.agg [aI a3.fVerdict,aI a3.fBound,.sl 5 (a3.fPrefix.map Aj),aI a3.fPeriod]] aI:=by unfold Wz;exact aC [6,9] Tryz.func35
instance zjr {n a0}:CI E0 (N2 n a0) true 81 [Ao a0] (fun r=>.bool (r)):=by unfold N2;exact aC [1] Tryz.func81
instance zjp {n a0}:CI E0 (Tj n a0) true 80 [.sl 11 (a0.map B1)] (fun r=>.bool (r)):=by unfold Tj;exact aC [] Tryz.func80
instance zjq {n a0}:CI E0 (Tk n a0) true 25 [B2 a0] (fun r=>.bool (r)):=⟨fun {r} hF=>by
 unfold Tk at hF
 refine cw Tryz.func25 ?_
 repeat' first
  |refine AW.jI hF (fun v hF=>?_) fun hF=>?_
  |refine aJ hF fun hF=>?_
  |refine aG [2,4,7,10,17] ?_;conv=>whnf
  |refine aO hF (fun hF=>?_) fun hF=>?_
  |refine aS ?_
  |refine aT ?_
  |exact ⟨_,hF,aA []⟩
  |refine aU hF fun x hF=>?_
  |refine IdxX.oD hF Da (fun x hF=>?_)
  |refine aW hF fun a hF=>?_
  |refine Av.I hF (aA []) fun m v hF=>?_
  |exact aB hF⟩
instance zey {n a0}:CI E0 (T1 n a0) true 36 [Aj a0] (fun r=>.bool (r)):=by unfold T1;exact aC [] Tryz.func36
instance zjt {n a0}:CI E0 (N4 n a0) true 38 [Aj a0] Y0:=by unfold N4;exact aC [] Tryz.func38
instance zhh {n a0 a1}:CI E0 (Qo n a0 a1) true 45 [Aj a0,Aj a1] (fun r=>.bool (r)):=by unfold Qo;exact aC [] Tryz.func45
instance zgb {n a0}:CI E0 (Mr n a0) true 12 [.sl 5 (a0.map Aj)] aI:=by unfold Mr;exact aC [] Tryz.func12
end
noncomputable section
abbrev z4r {n a1 a0 b}:=li (M1 n a1 a0 b) (fun c=>⟨[(1,aI a1),(2,.ptr 2 0),(5,.row 7029),(6,aI c.1)],[(2,.box 26 (Ar a0)),(7029,.row 149 17 (c.2.map Ab))]⟩) fun _ _=>M1.eq_2 ..
attribute [instance]     z4r          
instance zh8 {n a0 a1}:CI E0 (Tf n a0 a1) false 153 [B2 a0,aI a1] (fun r=>.sl 17 (r.map Ab)):=⟨fun {r} hF=>by
 unfold Tf at hF
 refine cw Tryz.func153 ?_
 repeat' first
  |refine aJ hF fun hF=>?_
  |refine aG [5] ?_;conv=>whnf
  |refine aO hF (fun hF=>?_) fun hF=>?_
  |refine aU hF fun x hF=>?_
  |refine AppX.oA hF fun l hF=>?_
  |exact ⟨_,hF,aA [(7029,29)]⟩
  |exact ⟨_,hF,aA []⟩
  |refine Av.I hF ?_ fun m v hF=>?_
  |exact aF (aV 5 7029 149 17 rfl rfl) (aA [])
  |exact aB hF⟩
end
noncomputable section
end
noncomputable section
end
noncomputable section
abbrev z69 {n a0 b c}:=jf (Js n a0 b c) (fun d=>⟨[(0,.sl 2 (a0.map Al)),(3,aI b),(25,.bool (d))],[]⟩) fun _=>Js.eq_1 ..
abbrev z68 {n a0 b}:=li (Hm n a0 b) (fun c=>⟨[(0,.sl 2 (a0.map Al)),(3,aI c)],[]⟩) fun _ _=>Hm.eq_2 ..
abbrev z5y {n}:=jf (Gh n) (fun b=>⟨[(4,.bool (b))],[]⟩) fun _=>Gh.eq_1 ..
abbrev z6b {n a1 a0 b}:=li (W7 n a1 a0 b) (fun c=>⟨[(0,.sl 1 (a0.map aI)),(1,.sl 1 (a1.map aI)),(12,aI (((a0.map aI).length:Int))),(13,aI c)],[]⟩) fun _ _=>W7.eq_2 ..
abbrev z6a {n a1 a0 b}:=li (W6 n a1 a0 b) (fun c=>⟨[(0,.sl 1 (a0.map AV.bool)),(1,.sl 1 (a1.map AV.bool)),(12,aI (((a0.map AV.bool).length:Int))),(13,aI c)],[]⟩) fun _ _=>W6.eq_2 ..
abbrev z3z {n}:=jf (Lv n) (fun b=>⟨[(1,.sl 2 [.agg [.str ((ByteArray.mk #[65])),.sl 2 [.agg [.str ((ByteArray.mk #[120])),aI 0]]]]),(9,.ptr 9 0),(129,.bool (b))],[(9,.box 37 [aI 0,aI 0,aI 0,aI 0,.sl 3 [.agg [aI 0,aI 0,.str (ByteArray.empty)]]])]⟩) fun _=>Lv.eq_1 ..
abbrev z40 {n x2 x7}:=jf (Dh n x2 x7) (fun b=>⟨[(1,.sl 2 [.agg [.str ((ByteArray.mk #[65])),.sl 2 [.agg [.str ((ByteArray.mk #[120])),aI 0]]]]),(2,.sl 1 (x2.1.map aI)),(3,.sl 1 (x2.2.1.map AV.bool)),(7,.ptr 7 0),(9,.ptr 9 0),(111,.bool (b))],[(7,.box 39 [aI x7.1.fVerdict,aI x7.1.fBound,.sl 5 (x7.1.fPrefix.map Aj),aI x7.1.fPeriod]),(9,.box 37 [aI 0,aI 0,aI 0,aI 0,.sl 3 [.agg [aI 0,aI 0,.str (ByteArray.empty)]]])]⟩) fun _=>Dh.eq_1 ..
attribute [instance] z69 z68 z5y z6b z6a z3z z40     
instance zju {n a0}:CI E0 (Wr n a0) true 43 [.sl 2 (a0.map Al)] (fun r=>.bool (r)):=by unfold Wr;exact aC [4] Tryz.func43
instance zjn {n a0 a1}:CI E0 (N1 n a0 a1) true 10 [.sl 2 (a0.map Al),B2 a1] (fun r=>.bool (r)):=by unfold N1;exact aC [1] Tryz.func10
def z2t (r:Bool):AV:=.bool (r)
theorem z0v {n a0 r}(hF:Vo n a0=some r):Con E0 true 30 [.agg [.sl 2 (a0.fTypes.map Al),aI a0.fA.fVars,aI a0.fA.fScopes,.sl 1 (a0.fA.fStates.map Aq),.sl 17 (a0.fA.fEdges.map Ab),aI a0.fRate]] (.bool (r)):=by
 unfold Vo at hF
 refine cw Tryz.func30 ?_
 repeat' first
  |refine aN ?_;conv=>whnf
  |refine aO hF (fun hF=>?_) fun hF=>?_
  |refine aS ?_
  |refine aT ?_
  |refine aW hF fun a hF=>?_
  |refine AndA ?_
  |refine aK ?_
  |exact aB hF
instance zgh {n}:CI E0 (Hr n) false 84 [] Ao:=by unfold Hr;exact aC [] Tryz.func84
def z85 (a0:Ap):List (Nat×Ent):=[]
def Ta (r:A9):List (Nat×Ent):=[(261002,.row 140 1 (r.fStates.map Aq)),(261003,.row 149 17 (r.fEdges.map Ab)),(2,.box 26 [aI r.fVars,aI r.fScopes,.row 261002,.row 261003])]
def Wo (r:A9):AV:=.agg [aI (r.fVars),aI (r.fScopes),.row 261002,.row 261003]
def z82 (r:A9):AS:=⟨[(2,.ptr 2 0)],Ta r⟩
theorem z0d {n a0 r}(hF:Zk n a0=some r):ConG E0.P none (CalF E0.P 83 0) [Ao a0] [] (z85 a0) (Wo r) (Ta r):=by
 unfold Zk at hF
 refine aR (E:=(E0q 1)) (caps:=[]) _ aM rfl rfl rfl rfl rfl ?_
 repeat' first
  |refine aN ?_;conv=>whnf
  |refine aO hF (fun hF=>?_) fun hF=>?_
  |refine aS ?_
  |refine aT ?_
  |refine MakX.o Aq hF (by first|exact aH _|(repeat' first|exact SubL.nil|refine SubL.cons ?_ ?_|exact Sub.refl _|exact Sub.nil _|refine Sub.agg ?_)) (fun l hF=>?_)
  |refine aW hF fun a hF=>?_
  |refine OpX.bldR Ab hF rfl rfl rfl rfl rfl rfl rfl rfl rfl rfl rfl rfl rfl rfl rfl rfl (by first|exact SubR.refl _|(repeat' first|exact SubR.nil|refine SubR.cons ?_ ?_|exact SubL.nil|refine SubL.cons ?_ ?_|exact Sub.refl _|exact Sub.nil _)) rfl (fun l hF=>?_)
  |refine OpX.bld Ab hF rfl rfl rfl rfl rfl rfl rfl rfl rfl rfl rfl rfl rfl rfl rfl rfl (fun l hF=>?_)
  |exact GX.A (res:=Wo) (meF:=Ta) hF z82 (h1:=aA [(261002,3),(261003,8)])
  |refine AndA ?_
  |refine aK ?_
instance zdp {n}:CI E0 (Vw n) false 82 [] B2:=⟨fun {r} hF=>by
 unfold Vw at hF
 refine cw Tryz.func82 ?_
 repeat' first
  |refine aN ?_;conv=>whnf
  |refine aO hF (fun hF=>?_) fun hF=>?_
  |refine aS ?_
  |refine aT ?_
  |refine aW hF fun a hF=>?_
  |refine B4.oM (B9 3 hF) [] [(261002,4000000),(261003,4000001),(2,4000002)] _ _ Ta Wo [] (fun a h=>aE (z0d h)) (B3 aM rfl rfl) rfl rfl rfl trivial (fun a=>⟨rfl,rfl,rfl,rfl,rfl,rfl,rfl,rfl⟩) (fun a hF=>?_)
  |refine bC (B9 3 hF) [] [(261002,4000000),(261003,4000001),(2,4000002)] _ _ Ta Wo [] (fun a h=>aE (z0d h)) (B3 aM rfl rfl) rfl rfl rfl trivial (fun a=>⟨rfl,rfl,rfl,rfl,rfl,rfl,rfl,rfl⟩) (fun a hF=>?_)
  |refine NatX.o hF (fun m hF=>?_)
  |refine LtX.o hF (fun hF=>?_)
  |refine SetX.o Ab hF (fun x=>rfl) (fun x=>(by first|exact aH _|(repeat' first|exact SubL.nil|refine SubL.cons ?_ ?_|exact Sub.refl _|exact Sub.nil _|refine Sub.agg ?_))) (fun l hF=>?_)
  |refine AndA ?_
  |refine aK ?_
  |exact aB hF⟩
instance zce {n a0}:CI E0 (P7 n a0) false 83 [Ao a0] B2:=⟨fun {r} hF=>by
 unfold P7 at hF
 refine cw aM ?_
 repeat' first
  |refine aN ?_;conv=>whnf
  |refine aO hF (fun hF=>?_) fun hF=>?_
  |refine aS ?_
  |refine aT ?_
  |refine MakX.o Aq hF (by first|exact aH _|(repeat' first|exact SubL.nil|refine SubL.cons ?_ ?_|exact Sub.refl _|exact Sub.nil _|refine Sub.agg ?_)) (fun l hF=>?_)
  |refine aW hF fun a hF=>?_
  |refine AndA ?_
  |refine aK ?_
  |exact aB hF⟩
instance zjw {n a0 a1}:CI E0 (Zm n a0 a1) true 28 [.sl 1 (a0.map aI),.sl 1 (a1.map aI)] (fun r=>.bool (r)):=by unfold Zm;exact aC [] Tryz.func28
instance zjv {n a0 a1}:CI E0 (Zl n a0 a1) true 29 [.sl 1 (a0.map AV.bool),.sl 1 (a1.map AV.bool)] (fun r=>.bool (r)):=by unfold Zl;exact aC [] Tryz.func29
instance zgi {n}:CI E0 (Jv n) true 26 [] (fun r=>.bool (r)):=⟨fun {r} hF=>by
 unfold Jv at hF
 refine cw Tryz.func26 ?_
 repeat' first
  |refine AW.jI hF (fun v hF=>?_) fun hF=>?_
  |refine aJ hF fun hF=>?_
  |refine AW.frzO hF 53 rfl (fun hF=>?_)
  |refine aG [9,10,12] ?_;conv=>whnf
  |refine aO hF (fun hF=>?_) fun hF=>?_
  |refine aS ?_
  |refine aT ?_
  |refine aW hF fun a hF=>?_
  |refine Af.S hF fun a hF=>?_
  |refine MakX.o Aq hF (by first|exact aH _|(repeat' first|exact SubL.nil|refine SubL.cons ?_ ?_|exact Sub.refl _|exact Sub.nil _|refine Sub.agg ?_)) (fun l hF=>?_)
  |exact ⟨_,hF,aA []⟩
  |refine AndA ?_
  |refine aK ?_
  |exact aB hF⟩
end
noncomputable section
abbrev z18 {n a0 b c}:=li (Iy n a0 b c) (fun d=>⟨[(1,.ptr 1 0),(3,.row 10),(4,aI b.1),(5,aI d.1)],[(1,.box 26 (Ar a0)),(10,.row 4 1 (d.2.map AV.bool))]⟩) fun _ _=>Iy.eq_2 ..
abbrev z19 {n a0 b}:=li (L4 n a0 b) (fun c=>⟨[(1,.ptr 1 0),(3,.row 10),(4,aI c.1)],[(1,.box 26 (Ar a0)),(10,.row 4 1 (c.2.map AV.bool))]⟩) fun _ _=>L4.eq_2 ..
abbrev z21 {n a0 b}:=li (Lc n a0 b) (fun c=>⟨[(0,.sl 1 (a0.map AV.bool)),(3,.row 7018),(4,aI c.1)],[(7018,.row 3 1 (c.2.map aI))]⟩) fun _ _=>Lc.eq_2 ..
abbrev z2b {n}:=jf (En n) (fun b=>⟨[(2,.bool (b))],[]⟩) fun _=>En.eq_1 ..
abbrev z59 {n a0 b c}:=jf (Jj n a0 b c) (fun d=>⟨[(0,.str (a0)),(3,aI b),(40,.bool (d))],[]⟩) fun _=>Jj.eq_1 ..
abbrev z58 {n a0 b}:=li (Hi n a0 b) (fun c=>⟨[(0,.str (a0)),(3,aI c)],[]⟩) fun _ _=>Hi.eq_2 ..
abbrev z5a {n a0}:=jf (Fg n a0) (fun b=>⟨[(0,.str (a0)),(17,.bool (b))],[]⟩) fun _=>Fg.eq_1 ..
abbrev z0q {n a1 a0 b}:=li (Ol n a1 a0 b) (fun c=>⟨[(1,.str (a1)),(2,.ptr 2 0),(5,aI c)],[(2,.box 99 (X6 a0))]⟩) fun _ _=>Ol.eq_2 ..
abbrev z3x {n a0 b c}:=jf (Ja n a0 b c) (fun d=>⟨[(1,.ptr 1 0),(3,aI b),(52,.bool (d))],[(1,.box 99 (X6 a0))]⟩) fun _=>Ja.eq_1 ..
abbrev z3y {n a0 b c d}:=jf (He n a0 b c d) (fun e=>⟨[(1,.ptr 1 0),(3,aI b),(4,.ptr 4 0),(33,.bool (e))],[(1,.box 99 (X6 a0)),(4,.box 164 (zcm d))]⟩) fun _=>He.eq_1 ..
abbrev z3w {n a0 b}:=li (Hd n a0 b) (fun c=>⟨[(1,.ptr 1 0),(3,aI c)],[(1,.box 99 (X6 a0))]⟩) fun _ _=>Hd.eq_2 ..
abbrev z3v {n a1 a0 b}:=li (Pm n a1 a0 b) (fun c=>⟨[(0,.sl 2 (a0.map Al)),(1,.str (a1)),(5,aI c)],[]⟩) fun _ _=>Pm.eq_2 ..
abbrev z0r {n a0 b}:=li (Om n a0 b) (fun c=>⟨[(0,.sl 2 (a0.map Al)),(3,aI c)],[]⟩) fun _ _=>Om.eq_2 ..
abbrev z32 {n}:=jf (Lm n) (fun b=>⟨[(24,.bool (b))],[]⟩) fun _=>Lm.eq_1 ..
attribute [instance] z18 z19 z21 z2b z59 z58 z5a z0q z3x z3y z3w z3v z0r z32    
instance zdn {n a0}:CI E0 (Sr n a0) false 59 [B2 a0] (fun r=>.sl 1 (r.map AV.bool)):=⟨fun {r} hF=>by
 unfold Sr at hF
 refine cw Tryz.func59 ?_
 repeat' first
  |refine aJ hF fun hF=>?_
  |refine aG [9] ?_;conv=>whnf
  |refine aO hF (fun hF=>?_) fun hF=>?_
  |refine aS ?_
  |refine aT ?_
  |refine MakX.o AV.bool hF (by first|exact aH _|(repeat' first|exact SubL.nil|refine SubL.cons ?_ ?_|exact Sub.refl _|exact Sub.nil _|refine Sub.agg ?_)) (fun l hF=>?_)
  |exact ⟨_,hF,aA []⟩
  |refine aU hF fun x hF=>?_
  |refine NatX.o hF (fun m hF=>?_)
  |refine SetX.o AV.bool hF (fun x=>rfl) (fun x=>(by first|exact aH _|(repeat' first|exact SubL.nil|refine SubL.cons ?_ ?_|exact Sub.refl _|exact Sub.nil _|refine Sub.agg ?_))) (fun l hF=>?_)
  |refine EltX.o AV.bool hF (fun x hF=>?_)
  |refine Av.I hF (aA []) fun m v hF=>?_
  |refine AndA ?_
  |refine aK ?_
  |exact aB hF⟩
instance zet {n a0}:CI E0 (Sy n a0) false 58 [.sl 1 (a0.map AV.bool)] (fun r=>.sl 1 (r.map aI)):=⟨fun {r} hF=>by
 unfold Sy at hF
 refine cw Tryz.func58 ?_
 repeat' first
  |refine aJ hF fun hF=>?_
  |refine aG [5] ?_;conv=>whnf
  |refine aO hF (fun hF=>?_) fun hF=>?_
  |refine aS ?_
  |refine aT ?_
  |refine aU hF fun x hF=>?_
  |refine AppX.oA hF fun l hF=>?_
  |exact ⟨_,hF,aA [(7018,18)]⟩
  |exact ⟨_,hF,aA []⟩
  |refine Av.I hF ?_ fun m v hF=>?_
  |exact aF (aV 3 7018 3 1 rfl rfl) (aA [])
  |refine AndA ?_
  |refine aK ?_
  |exact aB hF⟩
instance zev {n a0}:CI E0 (W5 n a0) false 16 [B2 a0] (fun r=>.tup [.sl 1 (r.1.map aI),aI r.2]):=by unfold W5;exact aC [] Tryz.func16
instance zez {n a0}:CI E0 (Q4 n a0) true 228 [.int .u8 (a0)] (fun r=>.bool (r)):=by unfold Q4;exact aC [1] Tryz.func228
instance zhj {n a0}:CI E0 (Qp n a0) true 169 [.str (a0)] (fun r=>.bool (r)):=⟨fun {r} hF=>by
 unfold Qp at hF
 refine cw Tryz.func169 ?_
 repeat' first
  |refine AW.jI hF (fun v hF=>?_) fun hF=>?_
  |refine aJ hF fun hF=>?_
  |refine aG [1,6] ?_;conv=>whnf
  |refine aO hF (fun hF=>?_) fun hF=>?_
  |refine aS ?_
  |refine aT ?_
  |exact ⟨_,hF,aA []⟩
  |refine OpX.idb hF rfl rfl rfl rfl rfl rfl rfl rfl (fun b hF=>?_)
  |refine aW hF fun a hF=>?_
  |refine Av.I hF (aA []) fun m v hF=>?_
  |refine AndA ?_
  |refine aK ?_
  |exact aB hF⟩
instance zcv {n a0 a1}:CI E0 (Vq n a0 a1) true 170 [Al a0,.str (a1)] aI:=by unfold Vq;exact aC [] Tryz.func170
instance zgf {n a0}:CI E0 (T7 n a0) true 99 [Al a0] aI:=by unfold T7;exact aC [9,13] Tryz.func99
instance zge {n a0 a1}:CI E0 (Wf n a0 a1) true 100 [.sl 2 (a0.map Al),.str (a1)] aI:=by unfold Wf;exact aC [] Tryz.func100
instance zcw {n a0}:CI E0 (Pn n a0) true 44 [.sl 2 (a0.map Al)] aI:=by unfold Pn;exact aC [] Tryz.func44
instance zfw {n a0 a1 a2}:CI E0 (Qa n a0 a1 a2) true 11 [.sl 2 (a0.map Al),B2 a1,aI a2] aI:=by unfold Qa;exact aC [7] Tryz.func11
end
end Go.Proofs.YthbogefcfhmpgaaGreat
