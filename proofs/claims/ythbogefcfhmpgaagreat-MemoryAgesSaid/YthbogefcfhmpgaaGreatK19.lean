/- What some functions compute, over plain values. -/
import Derived.Test.YthbogefcfhmpgaaGreatK18
set_option linter.unusedVariables false
set_option linter.unusedSimpArgs false
set_option maxRecDepth 100000
set_option maxHeartbeats 8000000
namespace Go.Proofs.YthbogefcfhmpgaaGreat
open Go.RowKit
open LeX renaming a->aA,trans->aE,itc->aL
open Tryz renaming func222->aB,func225->aF,func105->aG
open ConG renaming up->aC,walk->aH
noncomputable section
end
noncomputable section
end
noncomputable section
end
noncomputable section
end
noncomputable section
abbrev z5q {n}:=jf (Hf n) (fun b=>⟨[(12,.bool (b))],[]⟩) fun _=>Hf.eq_1 ..
abbrev z5r {n a0}:=jf (Mf n a0) (fun b=>⟨[(1,.ptr 1 0),(3,.bool (b))],[(1,.box 37 (z7o a0))]⟩) fun _=>Mf.eq_1 ..
abbrev z6i {n a1 x3 b}:=li (Sq n a1 x3 b) (fun c=>⟨[(6,.sl 2 (x3.fFields.map Dh)),(38,.sl 3 (a1.fValues.map Aa)),(39,aI (((a1.fValues.map Aa).length:Int))),(40,aI c)],[]⟩) fun _ _=>Sq.eq_2 ..
abbrev z6j {n a1 a0}:=jf (Mv n a1 a0) (fun b=>⟨[(0,.sl 2 (a0.map Ay)),(3,.ptr 3 0),(24,.bool (b))],[(3,.box 37 (z7o a1))]⟩) fun _=>Mv.eq_1 ..
abbrev z5f {n}:=jf (Mb n) (fun b=>⟨[(31,.bool (b))],[]⟩) fun _=>Mb.eq_1 ..
abbrev z5g {n a0}:=jt (Mc n a0) (fun b=>⟨[(1,.ptr 1 0),(3,aI b)],[(1,.box 39 [aI a0.fVerdict,aI a0.fBound,.sl 5 (a0.fPrefix.map Ar),aI a0.fPeriod])]⟩) fun _=>Mc.eq_1 ..
attribute [instance]      z5q z5r z6i z6j z5f z5g
instance zh0 {n a0}:CI E0 (Vu n a0) true 270 [Ar a0] aI:=by unfold Vu;exact CI.w [1,3] Tryz.func270
instance zja {n a0 a1}:CI E0 (W0 n a0 a1) true 221 [.sl 2 (a0.map Ay),Ar a1] aI:=by unfold W0;exact CI.w [4] Tryz.func221
instance zjb {n a0 a1}:CI E0 (W3 n a0 a1) true 162 [.sl 2 (a0.map Ay),Ar a1] aI:=by unfold W3;exact CI.w [] Tryz.func162
end
noncomputable section
abbrev z0i {n c b a0 d}:=li (R1 n c b a0 d) (fun e=>⟨[(0,.sl 1 (a0.map aI)),(1,.fn 224 [.ref [.sl 2 (b.ftypes.map Ay),aI b.fa.fVars,aI b.fa.fScopes,.sl 1 (b.fa.fStates.map Aj),.sl 17 (b.fa.fEdges.map A7)],.ref [aI c]]),(7,aI (((a0.map aI).length:Int))),(8,aI e)],[]⟩) fun _ _=>R1.eq_2 ..
abbrev z01 {n a0 c}:=li (Kk n a0 c) (fun b=>⟨[(1,.fn 225 [.ptr 100000 0,.ptr 100001 0]),(2,.ptr 2 0),(5,.row 7027),(10,.sl 17 (a0.fa.fEdges.map A7)),(11,aI (((a0.fa.fEdges.map A7).length:Int))),(12,aI b.1)],[(100000,.box 3 [aI b.2.1]),(100001,.box 113 [.row 200001]),(2,.box 111 [.sl 2 (a0.ftypes.map Ay),aI a0.fa.fVars,aI a0.fa.fScopes,.sl 1 (a0.fa.fStates.map Aj),.sl 17 (a0.fa.fEdges.map A7)]),(7027,.row 149 17 (b.2.2.1.map A7)),(200001,.mp (List.map (encM aI AV.bool) (b.2.2.2)))]⟩) fun _ _=>Kk.eq_2 ..
abbrev z23 {n c}:=li (R8 n c) (fun b=>⟨[(5,.fn 222 [.ptr 3 0,.ptr 2 0]),(49,.ptr 49 0)],[(3,.box 43 [.sl 1 (b.1.map aI)]),(2,.box 111 [.sl 2 (b.2.1.map Ay),aI b.2.2.1,aI b.2.2.2.1,.sl 1 (b.2.2.2.2.1.map Aj),.sl 17 (b.2.2.2.2.2.1.map A7)]),(49,.it (List.map (encM aI AV.bool) (b.2.2.2.2.2.2)))]⟩) fun _ _=>R8.eq_2 ..
abbrev z22 {n b d c e}:=li (R7 n b d c e) (fun f=>⟨[(2,.ptr 2 0),(5,.fn 222 [.ptr 3 0,.ptr 2 0]),(6,.ptr 6 0),(9,.row 30),(24,.sl 1 (b.2.2.2.2.2.2.map aI)),(25,aI (((b.2.2.2.2.2.2.map aI).length:Int))),(26,aI d.1),(33,.sl 17 (c.1.map A7)),(34,aI (((c.1.map A7).length:Int))),(35,aI f.1)],[(2,.box 111 [.sl 2 (b.2.1.map Ay),aI b.2.2.1,aI b.2.2.2.1,.sl 1 (b.2.2.2.2.1.map Aj),.sl 17 (b.2.2.2.2.2.1.map A7)]),(3,.box 43 [.sl 1 (b.2.2.2.2.2.2.map aI)]),(6,.box 113 [.row 34000002]),(30,.mp (List.map (encM aI AV.bool) (f.2))),(34000002,.mp (List.map (encM aI AV.bool) (c.2.2)))]⟩) fun _ _=>R7.eq_2 ..
abbrev z24 {n b c}:=li (R9 n b c) (fun d=>⟨[(2,.ptr 2 0),(5,.fn 222 [.ptr 3 0,.ptr 2 0]),(6,.ptr 6 0),(24,.sl 1 (b.2.2.2.2.2.2.map aI)),(25,aI (((b.2.2.2.2.2.2.map aI).length:Int))),(26,aI d.1)],[(2,.box 111 [.sl 2 (b.2.1.map Ay),aI b.2.2.1,aI b.2.2.2.1,.sl 1 (b.2.2.2.2.1.map Aj),.sl 17 (b.2.2.2.2.2.1.map A7)]),(3,.box 43 [.sl 1 (b.2.2.2.2.2.2.map aI)]),(6,.box 113 [.row 7022]),(7022,.mp (List.map (encM aI AV.bool) (d.2)))]⟩) fun _ _=>R9.eq_2 ..
abbrev z25 {n}:=jf (La n) (fun b=>⟨[(2,.ptr 2 0),(3,.ptr 3 0),(5,.fn 222 [.ptr 3 0,.ptr 2 0]),(21,.bool (b.1))],[(2,.box 111 [.sl 2 (b.2.1.map Ay),aI b.2.2.1,aI b.2.2.2.1,.sl 1 (b.2.2.2.2.1.map Aj),.sl 17 (b.2.2.2.2.2.1.map A7)]),(3,.box 43 [.sl 1 (b.2.2.2.2.2.2.map aI)])]⟩) fun _=>La.eq_1 ..
abbrev z04 {n a2 a1 a0 b c}:=li (Qw n a2 a1 a0 b c) (fun d=>⟨[(1,aI a1),(3,.ptr 3 0),(5,.ptr 5 0),(8,.row 7038),(12,aI d)],[(3,.box 111 [.sl 2 (a0.ftypes.map Ay),aI a0.fa.fVars,aI a0.fa.fScopes,.sl 1 (a0.fa.fStates.map Aj),.sl 17 (a0.fa.fEdges.map A7)]),(5,.box 39 [aI a2.fVerdict,aI a2.fBound,.sl 5 (a2.fPrefix.map Ar),aI a2.fPeriod]),(7038,.row 3 1 (b.map aI))]⟩) fun _ _=>Qw.eq_2 ..
abbrev z05 {n a2 a1 a0 b}:=li (Qx n a2 a1 a0 b) (fun c=>⟨[(1,aI a1),(3,.ptr 3 0),(5,.ptr 5 0),(8,.row 7038),(21,.sl 5 (a2.fPrefix.map Ar)),(22,aI (((a2.fPrefix.map Ar).length:Int))),(23,aI c.1)],[(3,.box 111 [.sl 2 (a0.ftypes.map Ay),aI a0.fa.fVars,aI a0.fa.fScopes,.sl 1 (a0.fa.fStates.map Aj),.sl 17 (a0.fa.fEdges.map A7)]),(5,.box 39 [aI a2.fVerdict,aI a2.fBound,.sl 5 (a2.fPrefix.map Ar),aI a2.fPeriod]),(7038,.row 3 1 (c.2.map aI))]⟩) fun _ _=>Qx.eq_2 ..
abbrev z5i {n}:=jf (Md n) (fun b=>⟨[(45,.bool (b))],[]⟩) fun _=>Md.eq_1 ..
abbrev z5j {n a3 a2 a1}:=jf (Me n a3 a2 a1) (fun b=>⟨[(2,aI a2),(5,.ptr 5 0),(7,.ptr 7 0),(31,.bool (b))],[(5,.box 26 (Ao a1)),(7,.box 39 [aI a3.fVerdict,aI a3.fBound,.sl 5 (a3.fPrefix.map Ar),aI a3.fPeriod])]⟩) fun _=>Me.eq_1 ..
attribute [instance] z0i z01 z23 z22 z24 z25 z04 z05 z5i z5j
instance zgv {n a0}:CI E0 (Vt n a0) true 163 [.agg [aI a0.fVerdict,aI a0.fBound,.sl 5 (a0.fPrefix.map Ar),aI a0.fPeriod]] aI:=by unfold Vt;exact CI.w [3,5] Tryz.func163
instance z7j {n a0 a1 a2}:CI E0 (V2 n a0 a1 a2) true 224 [aI a0,.ref [.sl 2 (a1.ftypes.map Ay),aI a1.fa.fVars,aI a1.fa.fScopes,.sl 1 (a1.fa.fStates.map Aj),.sl 17 (a1.fa.fEdges.map A7)],.ref [aI a2]] (fun r=>.bool (r)):=by unfold V2;exact CI.w [] Tryz.func224
instance z8i {n a0 b c}:CI E0 (V6 n a0 b c) true 272 [.sl 1 (a0.map aI),.fn 224 [.ref [.sl 2 (b.ftypes.map Ay),aI b.fa.fVars,aI b.fa.fScopes,.sl 1 (b.fa.fStates.map Aj),.sl 17 (b.fa.fEdges.map A7)],.ref [aI c]]] aI:=by unfold V6;exact CI.w [] Tryz.func272
instance z6n {n a0 b c}:CI E0 (Ux n a0 b c) true 223 [.sl 1 (a0.map aI),.fn 224 [.ref [.sl 2 (b.ftypes.map Ay),aI b.fa.fVars,aI b.fa.fScopes,.sl 1 (b.fa.fStates.map Aj),.sl 17 (b.fa.fEdges.map A7)],.ref [aI c]]] (fun r=>.bool (r)):=by unfold Ux;exact CI.w [] Tryz.func223
def z38 (a0:Int)(m0:(List Int))(m1:Av):List (Nat×Ent):=[(100000,.box 43 [.sl 1 (m0.map aI)]),(100001,.box 111 [.sl 2 (m1.ftypes.map Ay),aI m1.fa.fVars,aI m1.fa.fScopes,.sl 1 (m1.fa.fStates.map Aj),.sl 17 (m1.fa.fEdges.map A7)])]
def Ih (r:Bool×(List Int)×Av):List (Nat×Ent):=[(100000,.box 43 [.sl 1 (r.2.1.map aI)]),(100001,.box 111 [.sl 2 (r.2.2.ftypes.map Ay),aI r.2.2.fa.fVars,aI r.2.2.fa.fScopes,.sl 1 (r.2.2.fa.fStates.map Aj),.sl 17 (r.2.2.fa.fEdges.map A7)])]
def Ld (r:Bool×(List Int)×Av):AV:=.bool (r.1)
def z36 (r:Bool×(List Int)×Av):AS:=⟨[(4,.bool (r.1)),(1,.ptr 100000 0),(2,.ptr 100001 0)],Ih r⟩
theorem R3 {n a0 m0 m1 r}(hF:Rj n a0 m0 m1=some r):ConG E0.P none (CalF E0.P 222 0) [aI a0,.ptr 100000 0,.ptr 100001 0] [] (z38 a0 m0 m1) (Ld r) (Ih r):=by
 unfold Rj at hF
 refine aH (E:=(E0p 3)) (caps:=[]) _ aB rfl rfl rfl rfl rfl ?_
 repeat' first
  |refine AW.step ?_;conv=>whnf
  |refine A3.o hF (fun hF=>?_) fun hF=>?_
  |refine A3.t ?_
  |refine A3.f ?_
  |refine B3.I hF (fun a hF=>?_) rfl rfl fun _=>Or.inr rfl
  |exact GX.A (res:=Ld) (meF:=Ih) hF z36
  |refine AndA ?_
  |refine EqX.A ?_
def z37 (a0:Ab)(m0:Int)(m1:(List (Int×Bool))):List (Nat×Ent):=[(100000,.box 3 [aI m0]),(100001,.box 113 [.row 200001]),(200001,.mp (List.map (encM aI AV.bool) (m1)))]
def Oa (r:Bool×Int×(List (Int×Bool))):List (Nat×Ent):=[(100000,.box 3 [aI r.2.1]),(100001,.box 113 [.row 250001]),(250001,.mp (List.map (encM aI AV.bool) (r.2.2)))]
def Ra (r:Bool×Int×(List (Int×Bool))):AV:=.bool (r.1)
def z35 (r:Bool×Int×(List (Int×Bool))):AS:=⟨[(4,.bool (r.1)),(1,.ptr 100000 0),(2,.ptr 100001 0)],Oa r⟩
theorem Yx {n a0 m0 m1 r}(hF:V9 n a0 m0 m1=some r):ConG E0.P none (CalF E0.P 225 0) [A7 a0,.ptr 100000 0,.ptr 100001 0] [] (z37 a0 m0 m1) (Ra r) (Oa r):=by
 unfold V9 at hF
 refine aH (E:=(E0p 3)) (caps:=[]) _ aF rfl rfl rfl rfl rfl ?_
 repeat' first
  |refine AW.step ?_;conv=>whnf
  |refine A3.o hF (fun hF=>?_) fun hF=>?_
  |refine A3.t ?_
  |refine A3.f ?_
  |refine LkX.o aI AV.bool hF (by first|rfl|kernel_rfl) Ck (by repeat' first|exact Sub.nil _|exact Sub.refl _|refine Sub.agg ?_|refine Sub.tup ?_|refine Sub.fn ?_|exact SubL.nil|refine SubL.cons ?_ ?_|refine Sub.sl _ ?_|exact SubE.nil|refine SubE.cons ?_ ?_) (fun v b hF=>?_)
  |exact GX.A (res:=Ra) (meF:=Oa) hF z35 (h1:=aA [(250001,200001)])
  |refine AndA ?_
  |refine EqX.A ?_
def z0x (a0:Av)(m0:Int)(m1:(List (Int×Bool))):List (Nat×Ent):=[(100000,.box 3 [aI m0]),(100001,.box 113 [.row 200001]),(200001,.mp (List.map (encM aI AV.bool) (m1)))]
def Nz (r:(List Ab)×Int×(List (Int×Bool))):List (Nat×Ent):=[(100000,.box 3 [aI r.2.1]),(100001,.box 113 [.row 250001]),(250001,.mp (List.map (encM aI AV.bool) (r.2.2)))]
def Qy (r:(List Ab)×Int×(List (Int×Bool))):AV:=.sl 17 (r.1.map A7)
def z0v (r:(List Ab)×Int×(List (Int×Bool))):AS:=⟨[(4,.sl 17 (r.1.map A7)),(1,.fn 225 [.ptr 100000 0,.ptr 100001 0])],Nz r⟩
theorem Yt {n a0 m0 m1 r}(hF:Uz n a0 m0 m1=some r):ConG E0.P none (CalF E0.P 105 0) [.agg [.sl 2 (a0.ftypes.map Ay),aI a0.fa.fVars,aI a0.fa.fScopes,.sl 1 (a0.fa.fStates.map Aj),.sl 17 (a0.fa.fEdges.map A7)],.fn 225 [.ptr 100000 0,.ptr 100001 0]] [] (z0x a0 m0 m1) (Qy r) (Nz r):=by
 unfold Uz at hF
 refine aH (E:=(E0p 2)) (caps:=[]) _ aG rfl rfl rfl rfl rfl ?_
 repeat' first
  |refine AW.regO hF fun hF=>?_
  |refine AW.frzO hF 7027 rfl (fun hF=>?_)
  |refine AW.stepU [8] ?_;conv=>whnf
  |refine A3.o hF (fun hF=>?_) fun hF=>?_
  |refine A3.t ?_
  |refine A3.f ?_
  |refine GX.o (res:=Qy) (meF:=Nz) hF ?_;exact GX.mk (z0v _) (aA [(250001,200001)]) rfl _ rfl (by repeat' first|exact Sub.nil _|exact Sub.refl _|refine Sub.agg ?_|refine Sub.tup ?_|refine Sub.fn ?_|exact SubL.nil|refine SubL.cons ?_ ?_|refine Sub.sl _ ?_|exact SubE.nil|refine SubE.cons ?_ ?_) [100000,100001] ⟨Or.inr ⟨1,0,_,_,_,_,_,Nat.le_of_ble_eq_true rfl,rfl,rfl,rfl,rfl,rfl⟩,⟨Or.inr ⟨1,1,_,_,_,_,_,Nat.le_of_ble_eq_true rfl,rfl,rfl,rfl,rfl,rfl⟩,trivial⟩⟩ rfl
  |refine IdxX.A hF fun x hF=>?_
  |refine Ad.I hF fun a hF=>?_
  |refine B3.oM (Bb 22 hF) [(100000,100000),(100001,100001),(200001,200001)] [(100000,100000),(100001,100001),(250001,23000002)] _ _ Oa Ra [200001] (fun a h=>aC (Yx h)) (B1 aF rfl rfl) rfl rfl rfl ⟨⟨rfl,rfl⟩,⟨⟨rfl,rfl⟩,⟨⟨rfl,rfl⟩,trivial⟩⟩⟩ (fun a=>⟨rfl,rfl,rfl,rfl,rfl,rfl,rfl,rfl⟩) (fun a hF=>?_)
  |refine Ad.oM (Bb 22 hF) [(100000,100000),(100001,100001),(200001,200001)] [(100000,100000),(100001,100001),(250001,23000002)] _ _ Oa Ra [200001] (fun a h=>aC (Yx h)) (B1 aF rfl rfl) rfl rfl rfl ⟨⟨rfl,rfl⟩,⟨⟨rfl,rfl⟩,⟨⟨rfl,rfl⟩,trivial⟩⟩⟩ (fun a=>⟨rfl,rfl,rfl,rfl,rfl,rfl,rfl,rfl⟩) (fun a hF=>?_)
  |refine AppX.oA hF fun l hF=>?_
  |exact ⟨_,hF,aA [(7027,27),(200001,23000002)]⟩
  |exact ⟨_,hF,aA [(200001,23000002)]⟩
  |exact ⟨_,hF,aA []⟩
  |refine Ap.I hF ?_ fun m v hF=>?_
  |exact aE (LeX.adopt 5 7027 149 17 rfl rfl) (aA [])
  |refine AndA ?_
  |refine EqX.A ?_
instance za8 {n a0 a1}:CI E0 (Vm n a0 a1) true 164 [.agg [.sl 2 (a0.ftypes.map Ay),aI a0.fa.fVars,aI a0.fa.fScopes,.sl 1 (a0.fa.fStates.map Aj),.sl 17 (a0.fa.fEdges.map A7)],.sl 1 (a1.map aI)] (fun r=>.bool (r)):=⟨fun {r} hF=>by
 unfold Vm at hF
 refine cw Tryz.func164 ?_
 repeat' first
  |refine AW.frsO AV.bool hF 7022 rfl (fun hF=>?_)
  |refine AW.pckO (encM aI AV.bool) hF 49 rfl (fun x s hF=>?_)
  |refine AW.jI hF (fun v hF=>?_) fun hF=>?_
  |refine AW.regO hF fun hF=>?_
  |refine AW.frzO hF 7022 rfl (fun hF=>?_)
  |refine AW.stepU [16,2,18] ?_;conv=>whnf
  |refine A3.o hF (fun hF=>?_) fun hF=>?_
  |refine A3.t ?_
  |refine A3.f ?_
  |refine UpX.o aI AV.bool hF (by first|rfl|kernel_rfl) Ck (by repeat' first|exact Sub.nil _|exact Sub.refl _|refine Sub.agg ?_|refine Sub.tup ?_|refine Sub.fn ?_|exact SubL.nil|refine SubL.cons ?_ ?_|refine Sub.sl _ ?_|exact SubE.nil|refine SubE.cons ?_ ?_) (fun l hF=>?_)
  |refine Ad.I hF fun a hF=>?_
  |refine OpX.rng rfl rfl rfl rfl rfl rfl rfl rfl ?_
  |refine OpX.nxt (encM aI AV.bool) hF rfl rfl rfl rfl rfl (fun hF=>?_) (fun hF=>?_)
  |refine OpX.ent rfl rfl rfl rfl rfl ?_
  |refine B3.oM (Bb 56 hF) [(100000,3),(100001,2)] [(100000,3),(100001,2)] _ _ Ih Ld [] (fun a h=>aC (R3 h)) (B1 aB rfl rfl) rfl rfl rfl ⟨⟨rfl,rfl⟩,⟨⟨rfl,rfl⟩,trivial⟩⟩ (fun a=>⟨rfl,rfl,rfl,rfl,rfl,rfl,rfl,rfl⟩) (fun a hF=>?_)
  |refine Ad.oM (Bb 56 hF) [(100000,3),(100001,2)] [(100000,3),(100001,2)] _ _ Ih Ld [] (fun a h=>aC (R3 h)) (B1 aB rfl rfl) rfl rfl rfl ⟨⟨rfl,rfl⟩,⟨⟨rfl,rfl⟩,trivial⟩⟩ (fun a=>⟨rfl,rfl,rfl,rfl,rfl,rfl,rfl,rfl⟩) (fun a hF=>?_)
  |exact ⟨_,hF,aE (aL 49 rfl) (aA [])⟩
  |refine Ap.I hF ?_ fun m v hF=>?_
  |exact aA []
  |refine IdxX.A hF fun x hF=>?_
  |refine B3.oM (Bb 33 hF) [(100000,8),(100001,6),(200001,7022)] [(100000,8),(100001,6),(250001,34000002)] _ _ Nz Qy [7022] (fun a h=>aC (Yt h)) (B1 aG rfl rfl) rfl rfl rfl ⟨⟨rfl,rfl⟩,⟨⟨rfl,rfl⟩,⟨⟨rfl,rfl⟩,trivial⟩⟩⟩ (fun a=>⟨rfl,rfl,rfl,rfl,rfl,rfl,rfl,rfl⟩) (fun a hF=>?_)
  |refine Ad.oM (Bb 33 hF) [(100000,8),(100001,6),(200001,7022)] [(100000,8),(100001,6),(250001,34000002)] _ _ Nz Qy [7022] (fun a h=>aC (Yt h)) (B1 aG rfl rfl) rfl rfl rfl ⟨⟨rfl,rfl⟩,⟨⟨rfl,rfl⟩,⟨⟨rfl,rfl⟩,trivial⟩⟩⟩ (fun a=>⟨rfl,rfl,rfl,rfl,rfl,rfl,rfl,rfl⟩) (fun a hF=>?_)
  |exact ⟨_,hF,aE (aL 49 rfl) (aA [(7022,30)])⟩
  |exact ⟨_,hF,aA [(7022,30)]⟩
  |exact ⟨_,hF,aE (aL 49 rfl) (aA [])⟩
  |exact ⟨_,hF,aA []⟩
  |exact aA [(7022,22)]
  |refine B3.oM (Bb 19 hF) [(100000,3),(100001,2)] [(100000,3),(100001,2)] _ _ Ih Ld [] (fun a h=>aC (R3 h)) (B1 aB rfl rfl) rfl rfl rfl ⟨⟨rfl,rfl⟩,⟨⟨rfl,rfl⟩,trivial⟩⟩ (fun a=>⟨rfl,rfl,rfl,rfl,rfl,rfl,rfl,rfl⟩) (fun a hF=>?_)
  |refine Ad.oM (Bb 19 hF) [(100000,3),(100001,2)] [(100000,3),(100001,2)] _ _ Ih Ld [] (fun a h=>aC (R3 h)) (B1 aB rfl rfl) rfl rfl rfl ⟨⟨rfl,rfl⟩,⟨⟨rfl,rfl⟩,trivial⟩⟩ (fun a=>⟨rfl,rfl,rfl,rfl,rfl,rfl,rfl,rfl⟩) (fun a hF=>?_)
  |refine AndA ?_
  |refine EqX.A ?_
  |exact RetX.oB hF⟩
instance z7t {n a0 a1 a2}:CI E0 (V4 n a0 a1 a2) true 94 [.agg [.sl 2 (a0.ftypes.map Ay),aI a0.fa.fVars,aI a0.fa.fScopes,.sl 1 (a0.fa.fStates.map Aj),.sl 17 (a0.fa.fEdges.map A7)],aI a1,.agg [aI a2.fVerdict,aI a2.fBound,.sl 5 (a2.fPrefix.map Ar),aI a2.fPeriod]] aI:=⟨fun {r} hF=>by
 unfold V4 at hF
 refine cw Tryz.func94 ?_
 repeat' first
  |refine AW.step ?_;conv=>whnf
  |refine A3.o hF (fun hF=>?_) fun hF=>?_
  |refine A3.t ?_
  |refine A3.f ?_
  |refine Ad.I hF fun a hF=>?_
  |refine B3.I hF (fun a hF=>?_) rfl rfl fun _=>Or.inr rfl
  |refine IdxX.A hF fun x hF=>?_
  |exact ⟨_,hF,aA []⟩
  |refine Ap.I hF ?_ fun m v hF=>?_
  |exact aA []
  |refine AppX.oA hF fun l hF=>?_
  |exact ⟨_,hF,aA [(7038,38)]⟩
  |exact aE (LeX.adopt 8 7038 3 1 rfl rfl) (aA [])
  |refine AndA ?_
  |refine EqX.A ?_
  |exact RetX.oB hF⟩
end
end Go.Proofs.YthbogefcfhmpgaaGreat
