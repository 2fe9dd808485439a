/- What some functions compute, over plain values. -/
import Derived.Test.YthbogefcfhmpgaaGreatK18
set_option linter.unusedVariables false
set_option linter.unusedSimpArgs false
set_option maxRecDepth 100000
set_option maxHeartbeats 8000000
namespace Go.Proofs.YthbogefcfhmpgaaGreat
open Go.RowKit
open LeX renaming a->aA,trans->aB,adopt->aJ,itc->bA
open AW renaming stepU->aC,regO->aG,step->aT,jI->aY
open RetX renaming oB->aD
open Tryz renaming func222->aE,func225->aN,func105->aO
open CI renaming w->aF
open ConG renaming up->aH,walk->aR
open IdxX renaming A->aK
open AppX renaming oA->aM
open A1 renaming o->aP,t->aU,f->aW
noncomputable section
abbrev zm6 {n f a b d c}:=jf (J7 n f a b d c) (fun e=>⟨[(7,.ref [aI a.fa.fVars,aI a.fa.fScopes,.sl 1 (a.fa.fStates.map Ao),.sl 17 (a.fa.fEdges.map A9),.mapv (List.map (encM Bn A7) (a.fheld))]),(10,.row 7058),(13,.sl 3 (c.1.map Ai)),(14,.sl 1 (c.2.map Az)),(26,.sl 5 (f.map A7)),(27,aI (((f.map A7).length:Int))),(28,aI b.2.1),(54,.bool (e))],[(7058,.row 64 1 (b.2.2.map Az))]⟩) fun _=>J7.eq_1 ..
abbrev zm5 {n d a c}:=li (Hj n d a c) (fun b=>⟨[(7,.ref [aI a.fa.fVars,aI a.fa.fScopes,.sl 1 (a.fa.fStates.map Ao),.sl 17 (a.fa.fEdges.map A9),.mapv (List.map (encM Bn A7) (a.fheld))]),(9,.sl 3 (b.1.map Ai)),(10,.row 7058),(26,.sl 5 (d.map A7)),(27,aI (((d.map A7).length:Int))),(28,aI b.2.1)],[(7058,.row 64 1 (b.2.2.map Az))]⟩) fun _ _=>Hj.eq_2 ..
attribute [instance] zm6 zm5           
instance y3p {n d c}:CI E0 (Wo n d c) false 17 [Bi d,.sl 5 (c.map A7)] (fun r=>.tup [.sl 3 (r.1.map Ai),.sl 1 (r.2.1.map Az),aI r.2.2]):=⟨fun {r} b=>by
 unfold Wo at b;refine cw Tryz.func17 ?_;repeat' first
  |refine aY b (fun v b=>?_) fun b=>?_
  |refine aG b fun b=>?_
  |refine aC [10] ?_;conv=>whnf
  |refine aP b (fun b=>?_) fun b=>?_
  |refine aU ?_
  |refine Ab.oP b Ru (fun u=>.tup [.nilp,aI (u.2)]) (fun u y=>.tup [.ref [aI (y.fa.fVars),aI (y.fa.fScopes),.sl 1 (y.fa.fStates.map Ao),.sl 17 (y.fa.fEdges.map A9),.mapv (List.map (encM Bn A7) (y.fheld))],aI (u.2)]) (fun u h=>by simp only [Ru,h,Rr]) (fun u y h=>by simp only [Ru,h,Rr]) (fun a h=>zbu.h h) (fun a b=>?_) (fun a y b=>?_)
  |refine Ab.I b fun a b=>?_
  |(cases b;done)
  |refine B7.oM (Bg 62 b) [(200000,7058)] [(260000,63000000)] _ _ Vf Z1 [7058] (fun a h=>aH (z29 h)) (B0 Tryz.func63 rfl rfl) rfl rfl rfl ⟨⟨rfl,rfl⟩,trivial⟩ (fun a=>⟨rfl,rfl,rfl,rfl,rfl,rfl,rfl,rfl⟩) (fun a b=>?_)
  |refine aK b fun x b=>?_
  |refine aM b fun l b=>?_
  |exact ⟨_,b,aA [(7058,58)]⟩
  |exact ⟨_,b,aA []⟩
  |refine Av.I b ?_ fun m v b=>?_
  |exact aB (aJ 10 7058 64 1 rfl rfl) (aA [])
  |exact aD b⟩
end
noncomputable section
abbrev z6n {n e a b c}:=jf (L1 n e a b c) (fun d=>⟨[(0,.ref [aI a.fa.fVars,aI a.fa.fScopes,.sl 1 (a.fa.fStates.map Ao),.sl 17 (a.fa.fEdges.map A9),.mapv (List.map (encM Bn A7) (a.fheld))]),(3,.ptr 3 0),(84,.sl 2 (e.fStarts.map Aj)),(85,aI (((e.fStarts.map Aj).length:Int))),(86,aI b),(115,.bool (d))],[(3,.box 90 (C7 e))]⟩) fun _=>L1.eq_1 ..
abbrev z6o {n f a b c e}:=jf (Gw n f a b c e) (fun d=>⟨[(0,.ref [aI a.fa.fVars,aI a.fa.fScopes,.sl 1 (a.fa.fStates.map Ao),.sl 17 (a.fa.fEdges.map A9),.mapv (List.map (encM Bn A7) (a.fheld))]),(3,.ptr 3 0),(9,aI b),(10,.ptr 10 0),(84,.sl 2 (f.fStarts.map Aj)),(85,aI (((f.fStarts.map Aj).length:Int))),(86,aI b),(91,.bool (d))],[(3,.box 90 (C7 f)),(10,.box 182 (zat e))]⟩) fun _=>Gw.eq_1 ..
abbrev z81 {n d a b}:=li (G2 n d a b) (fun c=>⟨[(0,.ref [aI a.fa.fVars,aI a.fa.fScopes,.sl 1 (a.fa.fStates.map Ao),.sl 17 (a.fa.fEdges.map A9),.mapv (List.map (encM Bn A7) (a.fheld))]),(3,.ptr 3 0),(84,.sl 2 (d.fStarts.map Aj)),(85,aI (((d.fStarts.map Aj).length:Int))),(86,aI c)],[(3,.box 90 (C7 d))]⟩) fun _ _=>G2.eq_2 ..
abbrev z6l {n f a b c e}:=jf (Kz n f a b c e) (fun d=>⟨[(0,.ref [aI a.fa.fVars,aI a.fa.fScopes,.sl 1 (a.fa.fStates.map Ao),.sl 17 (a.fa.fEdges.map A9),.mapv (List.map (encM Bn A7) (a.fheld))]),(3,.ptr 3 0),(8,.bool (e)),(32,.sl 4 (f.fBindings.map B6)),(33,aI (((f.fBindings.map B6).length:Int))),(34,aI b),(63,.bool (d))],[(3,.box 90 (C7 f))]⟩) fun _=>Kz.eq_1 ..
abbrev z6m {n g a b c e f}:=jf (L0 n g a b c e f) (fun d=>⟨[(0,.ref [aI a.fa.fVars,aI a.fa.fScopes,.sl 1 (a.fa.fStates.map Ao),.sl 17 (a.fa.fEdges.map A9),.mapv (List.map (encM Bn A7) (a.fheld))]),(3,.ptr 3 0),(5,aI b),(6,.ptr 6 0),(8,.bool (f)),(32,.sl 4 (g.fBindings.map B6)),(33,aI (((g.fBindings.map B6).length:Int))),(34,aI b),(49,.bool (d))],[(3,.box 90 (C7 g)),(6,.box 93 (zl6 e))]⟩) fun _=>L0.eq_1 ..
abbrev z82 {n d a b}:=li (Im n d a b) (fun c=>⟨[(0,.ref [aI a.fa.fVars,aI a.fa.fScopes,.sl 1 (a.fa.fStates.map Ao),.sl 17 (a.fa.fEdges.map A9),.mapv (List.map (encM Bn A7) (a.fheld))]),(3,.ptr 3 0),(32,.sl 4 (d.fBindings.map B6)),(33,aI (((d.fBindings.map B6).length:Int))),(34,aI c)],[(3,.box 90 (C7 d))]⟩) fun _ _=>Im.eq_2 ..
abbrev z83 {n c a}:=jf (Ld n c a) (fun b=>⟨[(0,.ref [aI a.fa.fVars,aI a.fa.fScopes,.sl 1 (a.fa.fStates.map Ao),.sl 17 (a.fa.fEdges.map A9),.mapv (List.map (encM Bn A7) (a.fheld))]),(3,.ptr 3 0),(11,.bool (b))],[(3,.box 90 (C7 c))]⟩) fun _=>Ld.eq_1 ..
attribute [instance] z6n z6o z81 z6l z6m z82 z83     
instance zo7 {n d e}:CI E0 (Ut n d e) true 96 [.ref [aI d.fa.fVars,aI d.fa.fScopes,.sl 1 (d.fa.fStates.map Ao),.sl 17 (d.fa.fEdges.map A9),.mapv (List.map (encM Bn A7) (d.fheld))],Ai e] aI:=⟨fun {r} c=>by
 unfold Ut at c;refine cw Tryz.func96 ?_;repeat' first
  |refine aY c (fun v c=>?_) fun c=>?_
  |refine aG c fun c=>?_
  |refine aC [1,9,11,19,21] ?_;conv=>whnf
  |refine aP c (fun c=>?_) fun c=>?_
  |refine aU ?_
  |refine aK c fun x c=>?_
  |exact ⟨_,c,aA []⟩
  |refine OpX.nckR rfl rfl rfl rfl ?_
  |refine Av.I c (aA []) fun m v c=>?_
  |refine OpX.lkv Bn A7 c zxd rfl rfl rfl rfl rfl rfl rfl rfl rfl rfl (by first|rfl|kernel_rfl) (by repeat' first|exact Sub.nil _|exact Sub.refl _|refine Sub.agg ?_|refine Sub.tup ?_|refine Sub.fn ?_|exact SubL.nil|refine SubL.cons ?_ ?_|refine Sub.sl _ ?_|exact SubE.nil|refine SubE.cons ?_ ?_) (fun v b c=>?_)
  |refine Ab.I c fun a c=>?_
  |refine AndA ?_
  |exact aD c⟩
end
noncomputable section
end
noncomputable section
abbrev zbr {n}:=jf (Ix n) (fun b=>⟨[(12,.bool (b))],[]⟩) fun _=>Ix.eq_1 ..
abbrev zbs {n a}:=jf (Qt n a) (fun b=>⟨[(1,.ptr 1 0),(3,.bool (b))],[(1,.box 37 (Bo a))]⟩) fun _=>Qt.eq_1 ..
abbrev zdd {n a d b}:=li (Z5 n a d b) (fun c=>⟨[(6,.sl 2 (d.fFields.map E9)),(38,.sl 3 (a.fValues.map Ac)),(39,aI (((a.fValues.map Ac).length:Int))),(40,aI c)],[]⟩) fun _ _=>Z5.eq_2 ..
abbrev zde {n a c}:=jf (Ra n a c) (fun b=>⟨[(0,.sl 2 (c.map Bf)),(3,.ptr 3 0),(24,.bool (b))],[(3,.box 37 (Bo a))]⟩) fun _=>Ra.eq_1 ..
abbrev zb9 {n}:=jf (Qp n) (fun b=>⟨[(31,.bool (b))],[]⟩) fun _=>Qp.eq_1 ..
abbrev zba {n a}:=jt (Qq n a) (fun b=>⟨[(1,.ptr 1 0),(3,aI b)],[(1,.box 39 [aI a.fVerdict,aI a.fBound,.sl 5 (a.fPrefix.map A7),aI a.fPeriod])]⟩) fun _=>Qq.eq_1 ..
attribute [instance]      zbr zbs zdd zde zb9 zba
instance y1i {n f e d c}:CI E0 (Rz n f e d c) false 40 [Bi f,.sl 5 (e.map A7),Ai d,A7 c] (fun r=>.tup [.sl 3 (r.1.map Ai),.sl 1 (r.2.1.map Az),aI r.2.2]):=⟨fun {r} b=>by
 unfold Rz at b;refine cw Tryz.func40 ?_;repeat' first
  |refine aT ?_;conv=>whnf
  |refine aP b (fun b=>?_) fun b=>?_
  |refine aU ?_
  |refine aW ?_
  |refine Ab.oP b Ru (fun u=>.tup [.nilp,aI (u.2)]) (fun u y=>.tup [.ref [aI (y.fa.fVars),aI (y.fa.fScopes),.sl 1 (y.fa.fStates.map Ao),.sl 17 (y.fa.fEdges.map A9),.mapv (List.map (encM Bn A7) (y.fheld))],aI (u.2)]) (fun u h=>by simp only [Ru,h,Rr]) (fun u y h=>by simp only [Ru,h,Rr]) (fun a h=>zbu.h h) (fun a b=>?_) (fun a y b=>?_)
  |(cases b;done)
  |refine Ab.I b fun a b=>?_
  |refine AndA ?_
  |refine EqX.A ?_
  |exact aD b⟩
instance zuq {n a}:CI E0 (z2h n a) true 270 [A7 a] aI:=by unfold z2h;exact aF [1,3] Tryz.func270
instance zxn {n b a}:CI E0 (z79 n b a) true 221 [.sl 2 (b.map Bf),A7 a] aI:=by unfold z79;exact aF [4] Tryz.func221
instance zxo {n b a}:CI E0 (z7a n b a) true 162 [.sl 2 (b.map Bf),A7 a] aI:=by unfold z7a;exact aF [] Tryz.func162
end
noncomputable section
abbrev z2w {n c b a d}:=li (Xg n c b a d) (fun e=>⟨[(0,.sl 1 (a.map aI)),(1,.fn 224 [.ref [.sl 2 (b.ftypes.map Bf),aI b.fa.fVars,aI b.fa.fScopes,.sl 1 (b.fa.fStates.map Ao),.sl 17 (b.fa.fEdges.map A9)],.ref [aI c]]),(7,aI (((a.map aI).length:Int))),(8,aI e)],[]⟩) fun _ _=>Xg.eq_2 ..
abbrev z1l {n a c}:=li (Np n a c) (fun b=>⟨[(1,.fn 225 [.ptr 100000 0,.ptr 100001 0]),(2,.ptr 2 0),(5,.row 7027),(10,.sl 17 (a.fa.fEdges.map A9)),(11,aI (((a.fa.fEdges.map A9).length:Int))),(12,aI b.1)],[(100000,.box 3 [aI b.2.1]),(100001,.box 113 [.row 200001]),(2,.box 111 [.sl 2 (a.ftypes.map Bf),aI a.fa.fVars,aI a.fa.fScopes,.sl 1 (a.fa.fStates.map Ao),.sl 17 (a.fa.fEdges.map A9)]),(7027,.row 149 17 (b.2.2.1.map A9)),(200001,.mp (List.map (encM aI AV.bool) (b.2.2.2)))]⟩) fun _ _=>Np.eq_2 ..
abbrev z5n {n c}:=li (Xp n c) (fun b=>⟨[(5,.fn 222 [.ptr 3 0,.ptr 2 0]),(49,.ptr 49 0)],[(3,.box 43 [.sl 1 (b.1.map aI)]),(2,.box 111 [.sl 2 (b.2.1.map Bf),aI b.2.2.1,aI b.2.2.2.1,.sl 1 (b.2.2.2.2.1.map Ao),.sl 17 (b.2.2.2.2.2.1.map A9)]),(49,.it (List.map (encM aI AV.bool) (b.2.2.2.2.2.2)))]⟩) fun _ _=>Xp.eq_2 ..
abbrev z5m {n b d c e}:=li (Xo n b d c e) (fun f=>⟨[(2,.ptr 2 0),(5,.fn 222 [.ptr 3 0,.ptr 2 0]),(6,.ptr 6 0),(9,.row 30),(24,.sl 1 (b.2.2.2.2.2.2.map aI)),(25,aI (((b.2.2.2.2.2.2.map aI).length:Int))),(26,aI d.1),(33,.sl 17 (c.1.map A9)),(34,aI (((c.1.map A9).length:Int))),(35,aI f.1)],[(2,.box 111 [.sl 2 (b.2.1.map Bf),aI b.2.2.1,aI b.2.2.2.1,.sl 1 (b.2.2.2.2.1.map Ao),.sl 17 (b.2.2.2.2.2.1.map A9)]),(3,.box 43 [.sl 1 (b.2.2.2.2.2.2.map aI)]),(6,.box 113 [.row 34000002]),(30,.mp (List.map (encM aI AV.bool) (f.2))),(34000002,.mp (List.map (encM aI AV.bool) (c.2.2)))]⟩) fun _ _=>Xo.eq_2 ..
abbrev z5o {n b c}:=li (Xq n b c) (fun d=>⟨[(2,.ptr 2 0),(5,.fn 222 [.ptr 3 0,.ptr 2 0]),(6,.ptr 6 0),(24,.sl 1 (b.2.2.2.2.2.2.map aI)),(25,aI (((b.2.2.2.2.2.2.map aI).length:Int))),(26,aI d.1)],[(2,.box 111 [.sl 2 (b.2.1.map Bf),aI b.2.2.1,aI b.2.2.2.1,.sl 1 (b.2.2.2.2.1.map Ao),.sl 17 (b.2.2.2.2.2.1.map A9)]),(3,.box 43 [.sl 1 (b.2.2.2.2.2.2.map aI)]),(6,.box 113 [.row 7022]),(7022,.mp (List.map (encM aI AV.bool) (d.2)))]⟩) fun _ _=>Xq.eq_2 ..
abbrev z5p {n}:=jf (P6 n) (fun b=>⟨[(2,.ptr 2 0),(3,.ptr 3 0),(5,.fn 222 [.ptr 3 0,.ptr 2 0]),(21,.bool (b.1))],[(2,.box 111 [.sl 2 (b.2.1.map Bf),aI b.2.2.1,aI b.2.2.2.1,.sl 1 (b.2.2.2.2.1.map Ao),.sl 17 (b.2.2.2.2.2.1.map A9)]),(3,.box 43 [.sl 1 (b.2.2.2.2.2.2.map aI)])]⟩) fun _=>P6.eq_1 ..
abbrev z23 {n e f a b c}:=li (Xb n e f a b c) (fun d=>⟨[(1,aI f),(3,.ptr 3 0),(5,.ptr 5 0),(8,.row 7038),(12,aI d)],[(3,.box 111 [.sl 2 (a.ftypes.map Bf),aI a.fa.fVars,aI a.fa.fScopes,.sl 1 (a.fa.fStates.map Ao),.sl 17 (a.fa.fEdges.map A9)]),(5,.box 39 [aI e.fVerdict,aI e.fBound,.sl 5 (e.fPrefix.map A7),aI e.fPeriod]),(7038,.row 3 1 (b.map aI))]⟩) fun _ _=>Xb.eq_2 ..
abbrev z24 {n a e d b}:=li (Xd n a e d b) (fun c=>⟨[(1,aI e),(3,.ptr 3 0),(5,.ptr 5 0),(8,.row 7038),(21,.sl 5 (a.fPrefix.map A7)),(22,aI (((a.fPrefix.map A7).length:Int))),(23,aI c.1)],[(3,.box 111 [.sl 2 (d.ftypes.map Bf),aI d.fa.fVars,aI d.fa.fScopes,.sl 1 (d.fa.fStates.map Ao),.sl 17 (d.fa.fEdges.map A9)]),(5,.box 39 [aI a.fVerdict,aI a.fBound,.sl 5 (a.fPrefix.map A7),aI a.fPeriod]),(7038,.row 3 1 (c.2.map aI))]⟩) fun _ _=>Xd.eq_2 ..
abbrev zbc {n}:=jf (Qr n) (fun b=>⟨[(45,.bool (b))],[]⟩) fun _=>Qr.eq_1 ..
abbrev zbd {n a c d}:=jf (Qs n a c d) (fun b=>⟨[(2,aI c),(5,.ptr 5 0),(7,.ptr 7 0),(31,.bool (b))],[(5,.box 26 (B3 d)),(7,.box 39 [aI a.fVerdict,aI a.fBound,.sl 5 (a.fPrefix.map A7),aI a.fPeriod])]⟩) fun _=>Qs.eq_1 ..
attribute [instance] z2w z1l z5n z5m z5o z5p z23 z24 zbc zbd
instance zuk {n a}:CI E0 (z2g n a) true 163 [.agg [aI a.fVerdict,aI a.fBound,.sl 5 (a.fPrefix.map A7),aI a.fPeriod]] aI:=by unfold z2g;exact aF [3,5] Tryz.func163
instance zfq {n c a b}:CI E0 (z07 n c a b) true 224 [aI c,.ref [.sl 2 (a.ftypes.map Bf),aI a.fa.fVars,aI a.fa.fScopes,.sl 1 (a.fa.fStates.map Ao),.sl 17 (a.fa.fEdges.map A9)],.ref [aI b]] (fun r=>.bool (r)):=by unfold z07;exact aF [] Tryz.func224
instance zh3 {n a b c}:CI E0 (z09 n a b c) true 272 [.sl 1 (a.map aI),.fn 224 [.ref [.sl 2 (b.ftypes.map Bf),aI b.fa.fVars,aI b.fa.fScopes,.sl 1 (b.fa.fStates.map Ao),.sl 17 (b.fa.fEdges.map A9)],.ref [aI c]]] aI:=by unfold z09;exact aF [] Tryz.func272
instance zdx {n a b c}:CI E0 (z02 n a b c) true 223 [.sl 1 (a.map aI),.fn 224 [.ref [.sl 2 (b.ftypes.map Bf),aI b.fa.fVars,aI b.fa.fScopes,.sl 1 (b.fa.fStates.map Ao),.sl 17 (b.fa.fEdges.map A9)],.ref [aI c]]] (fun r=>.bool (r)):=by unfold z02;exact aF [] Tryz.func223
def z78 (c:Int)(b:(List Int))(a:Bc):List (Nat×Ent):=[(100000,.box 43 [.sl 1 (b.map aI)]),(100001,.box 111 [.sl 2 (a.ftypes.map Bf),aI a.fa.fVars,aI a.fa.fScopes,.sl 1 (a.fa.fStates.map Ao),.sl 17 (a.fa.fEdges.map A9)])]
def Ko (r:Bool×(List Int)×Bc):List (Nat×Ent):=[(100000,.box 43 [.sl 1 (r.2.1.map aI)]),(100001,.box 111 [.sl 2 (r.2.2.ftypes.map Bf),aI r.2.2.fa.fVars,aI r.2.2.fa.fScopes,.sl 1 (r.2.2.fa.fStates.map Ao),.sl 17 (r.2.2.fa.fEdges.map A9)])]
def P9 (r:Bool×(List Int)×Bc):AV:=.bool (r.1)
def z74 (r:Bool×(List Int)×Bc):AS:=⟨[(4,.bool (r.1)),(1,.ptr 100000 0),(2,.ptr 100001 0)],Ko r⟩
theorem Xi {n c e d r}(b:Xw n c e d=some r):ConG E0.P none (CalF E0.P 222 0) [aI c,.ptr 100000 0,.ptr 100001 0] [] (z78 c e d) (P9 r) (Ko r):=by
 unfold Xw at b;refine aR (E:=(E0p 3)) (caps:=[]) _ aE rfl rfl rfl rfl rfl ?_;repeat' first
  |refine aT ?_;conv=>whnf
  |refine aP b (fun b=>?_) fun b=>?_
  |refine aU ?_
  |refine aW ?_
  |refine B7.I b (fun a b=>?_) rfl rfl fun _=>Or.inr rfl
  |exact GX.A (res:=P9) (meF:=Ko) b z74
  |refine AndA ?_
  |refine EqX.A ?_
def z75 (c:Ae)(b:Int)(a:(List (Int×Bool))):List (Nat×Ent):=[(100000,.box 3 [aI b]),(100001,.box 113 [.row 200001]),(200001,.mp (List.map (encM aI AV.bool) (a)))]
def Tj (r:Bool×Int×(List (Int×Bool))):List (Nat×Ent):=[(100000,.box 3 [aI r.2.1]),(100001,.box 113 [.row 250001]),(250001,.mp (List.map (encM aI AV.bool) (r.2.2)))]
def Xr (r:Bool×Int×(List (Int×Bool))):AV:=.bool (r.1)
def z73 (r:Bool×Int×(List (Int×Bool))):AS:=⟨[(4,.bool (r.1)),(1,.ptr 100000 0),(2,.ptr 100001 0)],Tj r⟩
theorem z0u {n c e d r}(a:z0b n c e d=some r):ConG E0.P none (CalF E0.P 225 0) [A9 c,.ptr 100000 0,.ptr 100001 0] [] (z75 c e d) (Xr r) (Tj r):=by
 unfold z0b at a;refine aR (E:=(E0p 3)) (caps:=[]) _ aN rfl rfl rfl rfl rfl ?_;repeat' first
  |refine aT ?_;conv=>whnf
  |refine aP a (fun a=>?_) fun a=>?_
  |refine aU ?_
  |refine aW ?_
  |refine LkX.o aI AV.bool a (by first|rfl|kernel_rfl) Dc (by repeat' first|exact Sub.nil _|exact Sub.refl _|refine Sub.agg ?_|refine Sub.tup ?_|refine Sub.fn ?_|exact SubL.nil|refine SubL.cons ?_ ?_|refine Sub.sl _ ?_|exact SubE.nil|refine SubE.cons ?_ ?_) (fun v b a=>?_)
  |exact GX.A (res:=Xr) (meF:=Tj) a z73 (h1:=aA [(250001,200001)])
  |refine AndA ?_
  |refine EqX.A ?_
def z3h (c:Bc)(b:Int)(a:(List (Int×Bool))):List (Nat×Ent):=[(100000,.box 3 [aI b]),(100001,.box 113 [.row 200001]),(200001,.mp (List.map (encM aI AV.bool) (a)))]
def T6 (r:(List Ae)×Int×(List (Int×Bool))):List (Nat×Ent):=[(100000,.box 3 [aI r.2.1]),(100001,.box 113 [.row 250001]),(250001,.mp (List.map (encM aI AV.bool) (r.2.2)))]
def Xe (r:(List Ae)×Int×(List (Int×Bool))):AV:=.sl 17 (r.1.map A9)
def z3f (r:(List Ae)×Int×(List (Int×Bool))):AS:=⟨[(4,.sl 17 (r.1.map A9)),(1,.fn 225 [.ptr 100000 0,.ptr 100001 0])],T6 r⟩
theorem z0h {n c e d r}(b:z04 n c e d=some r):ConG E0.P none (CalF E0.P 105 0) [.agg [.sl 2 (c.ftypes.map Bf),aI c.fa.fVars,aI c.fa.fScopes,.sl 1 (c.fa.fStates.map Ao),.sl 17 (c.fa.fEdges.map A9)],.fn 225 [.ptr 100000 0,.ptr 100001 0]] [] (z3h c e d) (Xe r) (T6 r):=by
 unfold z04 at b;refine aR (E:=(E0p 2)) (caps:=[]) _ aO rfl rfl rfl rfl rfl ?_;repeat' first
  |refine aG b fun b=>?_
  |refine AW.frzO b 7027 rfl (fun b=>?_)
  |refine aC [8] ?_;conv=>whnf
  |refine aP b (fun b=>?_) fun b=>?_
  |refine aU ?_
  |refine aW ?_
  |refine GX.o (res:=Xe) (meF:=T6) b ?_;exact GX.mk (z3f _) (aA [(250001,200001)]) rfl _ rfl (by repeat' first|exact Sub.nil _|exact Sub.refl _|refine Sub.agg ?_|refine Sub.tup ?_|refine Sub.fn ?_|exact SubL.nil|refine SubL.cons ?_ ?_|refine Sub.sl _ ?_|exact SubE.nil|refine SubE.cons ?_ ?_) [100000,100001] ⟨Or.inr ⟨1,0,_,_,_,_,_,Nat.le_of_ble_eq_true rfl,rfl,rfl,rfl,rfl,rfl⟩,⟨Or.inr ⟨1,1,_,_,_,_,_,Nat.le_of_ble_eq_true rfl,rfl,rfl,rfl,rfl,rfl⟩,trivial⟩⟩ rfl
  |refine aK b fun x b=>?_
  |refine Ab.I b fun a b=>?_
  |refine B7.oM (Bg 22 b) [(100000,100000),(100001,100001),(200001,200001)] [(100000,100000),(100001,100001),(250001,23000002)] _ _ Tj Xr [200001] (fun a h=>aH (z0u h)) (B0 aN rfl rfl) rfl rfl rfl ⟨⟨rfl,rfl⟩,⟨⟨rfl,rfl⟩,⟨⟨rfl,rfl⟩,trivial⟩⟩⟩ (fun a=>⟨rfl,rfl,rfl,rfl,rfl,rfl,rfl,rfl⟩) (fun a b=>?_)
  |refine Ab.oM (Bg 22 b) [(100000,100000),(100001,100001),(200001,200001)] [(100000,100000),(100001,100001),(250001,23000002)] _ _ Tj Xr [200001] (fun a h=>aH (z0u h)) (B0 aN rfl rfl) rfl rfl rfl ⟨⟨rfl,rfl⟩,⟨⟨rfl,rfl⟩,⟨⟨rfl,rfl⟩,trivial⟩⟩⟩ (fun a=>⟨rfl,rfl,rfl,rfl,rfl,rfl,rfl,rfl⟩) (fun a b=>?_)
  |refine aM b fun l b=>?_
  |exact ⟨_,b,aA [(7027,27),(200001,23000002)]⟩
  |exact ⟨_,b,aA [(200001,23000002)]⟩
  |exact ⟨_,b,aA []⟩
  |refine Av.I b ?_ fun m v b=>?_
  |exact aB (aJ 5 7027 149 17 rfl rfl) (aA [])
  |refine AndA ?_
  |refine EqX.A ?_
instance zkp {n c d}:CI E0 (z0q n c d) true 164 [.agg [.sl 2 (c.ftypes.map Bf),aI c.fa.fVars,aI c.fa.fScopes,.sl 1 (c.fa.fStates.map Ao),.sl 17 (c.fa.fEdges.map A9)],.sl 1 (d.map aI)] (fun r=>.bool (r)):=⟨fun {r} b=>by
 unfold z0q at b;refine cw Tryz.func164 ?_;repeat' first
  |refine AW.frsO AV.bool b 7022 rfl (fun b=>?_)
  |refine AW.pckO (encM aI AV.bool) b 49 rfl (fun x s b=>?_)
  |refine aY b (fun v b=>?_) fun b=>?_
  |refine aG b fun b=>?_
  |refine AW.frzO b 7022 rfl (fun b=>?_)
  |refine aC [16,2,18] ?_;conv=>whnf
  |refine aP b (fun b=>?_) fun b=>?_
  |refine aU ?_
  |refine aW ?_
  |refine UpX.o aI AV.bool b (by first|rfl|kernel_rfl) Dc (by repeat' first|exact Sub.nil _|exact Sub.refl _|refine Sub.agg ?_|refine Sub.tup ?_|refine Sub.fn ?_|exact SubL.nil|refine SubL.cons ?_ ?_|refine Sub.sl _ ?_|exact SubE.nil|refine SubE.cons ?_ ?_) (fun l b=>?_)
  |refine Ab.I b fun a b=>?_
  |refine OpX.rng rfl rfl rfl rfl rfl rfl rfl rfl ?_
  |refine OpX.nxt (encM aI AV.bool) b rfl rfl rfl rfl rfl (fun b=>?_) (fun b=>?_)
  |refine OpX.ent rfl rfl rfl rfl rfl ?_
  |refine B7.oM (Bg 56 b) [(100000,3),(100001,2)] [(100000,3),(100001,2)] _ _ Ko P9 [] (fun a h=>aH (Xi h)) (B0 aE rfl rfl) rfl rfl rfl ⟨⟨rfl,rfl⟩,⟨⟨rfl,rfl⟩,trivial⟩⟩ (fun a=>⟨rfl,rfl,rfl,rfl,rfl,rfl,rfl,rfl⟩) (fun a b=>?_)
  |refine Ab.oM (Bg 56 b) [(100000,3),(100001,2)] [(100000,3),(100001,2)] _ _ Ko P9 [] (fun a h=>aH (Xi h)) (B0 aE rfl rfl) rfl rfl rfl ⟨⟨rfl,rfl⟩,⟨⟨rfl,rfl⟩,trivial⟩⟩ (fun a=>⟨rfl,rfl,rfl,rfl,rfl,rfl,rfl,rfl⟩) (fun a b=>?_)
  |exact ⟨_,b,aB (bA 49 rfl) (aA [])⟩
  |refine Av.I b ?_ fun m v b=>?_
  |exact aA []
  |refine aK b fun x b=>?_
  |refine B7.oM (Bg 33 b) [(100000,8),(100001,6),(200001,7022)] [(100000,8),(100001,6),(250001,34000002)] _ _ T6 Xe [7022] (fun a h=>aH (z0h h)) (B0 aO rfl rfl) rfl rfl rfl ⟨⟨rfl,rfl⟩,⟨⟨rfl,rfl⟩,⟨⟨rfl,rfl⟩,trivial⟩⟩⟩ (fun a=>⟨rfl,rfl,rfl,rfl,rfl,rfl,rfl,rfl⟩) (fun a b=>?_)
  |refine Ab.oM (Bg 33 b) [(100000,8),(100001,6),(200001,7022)] [(100000,8),(100001,6),(250001,34000002)] _ _ T6 Xe [7022] (fun a h=>aH (z0h h)) (B0 aO rfl rfl) rfl rfl rfl ⟨⟨rfl,rfl⟩,⟨⟨rfl,rfl⟩,⟨⟨rfl,rfl⟩,trivial⟩⟩⟩ (fun a=>⟨rfl,rfl,rfl,rfl,rfl,rfl,rfl,rfl⟩) (fun a b=>?_)
  |exact ⟨_,b,aB (bA 49 rfl) (aA [(7022,30)])⟩
  |exact ⟨_,b,aA [(7022,30)]⟩
  |exact ⟨_,b,aB (bA 49 rfl) (aA [])⟩
  |exact ⟨_,b,aA []⟩
  |exact aA [(7022,22)]
  |refine B7.oM (Bg 19 b) [(100000,3),(100001,2)] [(100000,3),(100001,2)] _ _ Ko P9 [] (fun a h=>aH (Xi h)) (B0 aE rfl rfl) rfl rfl rfl ⟨⟨rfl,rfl⟩,⟨⟨rfl,rfl⟩,trivial⟩⟩ (fun a=>⟨rfl,rfl,rfl,rfl,rfl,rfl,rfl,rfl⟩) (fun a b=>?_)
  |refine Ab.oM (Bg 19 b) [(100000,3),(100001,2)] [(100000,3),(100001,2)] _ _ Ko P9 [] (fun a h=>aH (Xi h)) (B0 aE rfl rfl) rfl rfl rfl ⟨⟨rfl,rfl⟩,⟨⟨rfl,rfl⟩,trivial⟩⟩ (fun a=>⟨rfl,rfl,rfl,rfl,rfl,rfl,rfl,rfl⟩) (fun a b=>?_)
  |refine AndA ?_
  |refine EqX.A ?_
  |exact aD b⟩
instance zg8 {n c e d}:CI E0 (z08 n c e d) true 94 [.agg [.sl 2 (c.ftypes.map Bf),aI c.fa.fVars,aI c.fa.fScopes,.sl 1 (c.fa.fStates.map Ao),.sl 17 (c.fa.fEdges.map A9)],aI e,.agg [aI d.fVerdict,aI d.fBound,.sl 5 (d.fPrefix.map A7),aI d.fPeriod]] aI:=⟨fun {r} b=>by
 unfold z08 at b;refine cw Tryz.func94 ?_;repeat' first
  |refine aT ?_;conv=>whnf
  |refine aP b (fun b=>?_) fun b=>?_
  |refine aU ?_
  |refine aW ?_
  |refine Ab.I b fun a b=>?_
  |refine B7.I b (fun a b=>?_) rfl rfl fun _=>Or.inr rfl
  |refine aK b fun x b=>?_
  |exact ⟨_,b,aA []⟩
  |refine Av.I b ?_ fun m v b=>?_
  |exact aA []
  |refine aM b fun l b=>?_
  |exact ⟨_,b,aA [(7038,38)]⟩
  |exact aB (aJ 8 7038 3 1 rfl rfl) (aA [])
  |refine AndA ?_
  |refine EqX.A ?_
  |exact aD b⟩
end
noncomputable section
abbrev z7u {n}:=jf (La n) (fun b=>⟨[(2,.bool (b))],[]⟩) fun _=>La.eq_1 ..
abbrev z7m {n a b}:=li (Pq n a b) (fun c=>⟨[(0,.sl 11 (a.map B8)),(3,aI c)],[]⟩) fun _ _=>Pq.eq_2 ..
abbrev z7q {n}:=jf (L7 n) (fun b=>⟨[(2,.bool (b))],[]⟩) fun _=>L7.eq_1 ..
abbrev z7n {n a b d c}:=li (Pr n a b d c) (fun e=>⟨[(1,.ptr 1 0),(4,aI b),(5,.ptr 5 0),(6,aI e)],[(1,.box 26 (B3 a)),(5,.box 149 (Bp d))]⟩) fun _ _=>Pr.eq_2 ..
abbrev z64 {n a b c e}:=jf (F7 n a b c e) (fun d=>⟨[(1,.ptr 1 0),(4,aI b),(5,.ptr 5 0),(105,.bool (d))],[(1,.box 26 (B3 a)),(5,.box 149 (Bp e))]⟩) fun _=>F7.eq_1 ..
abbrev z65 {n a b c d}:=jf (Ks n a b c d) (fun e=>⟨[(1,.ptr 1 0),(4,aI b),(64,.bool (e))],[(1,.box 26 (B3 a))]⟩) fun _=>Ks.eq_1 ..
abbrev z7o {n a b}:=li (Ii n a b) (fun c=>⟨[(1,.ptr 1 0),(4,aI c)],[(1,.box 26 (B3 a))]⟩) fun _ _=>Ii.eq_2 ..
abbrev z62 {n a b c}:=jf (G1 n a b c) (fun d=>⟨[(1,.ptr 1 0),(3,aI b),(55,.bool (d))],[(1,.box 26 (B3 a))]⟩) fun _=>G1.eq_1 ..
abbrev z63 {n a b c d}:=jf (Kr n a b c d) (fun e=>⟨[(1,.ptr 1 0),(3,aI b),(15,.bool (e))],[(1,.box 26 (B3 a))]⟩) fun _=>Kr.eq_1 ..
abbrev z7p {n a b}:=li (Ij n a b) (fun c=>⟨[(1,.ptr 1 0),(3,aI c)],[(1,.box 26 (B3 a))]⟩) fun _ _=>Ij.eq_2 ..
abbrev z7x {n a b}:=li (Pw n a b) (fun c=>⟨[(0,.sl 3 (a.map Ac)),(3,aI c)],[]⟩) fun _ _=>Pw.eq_2 ..
abbrev z7w {n a b}:=li (Pv n a b) (fun c=>⟨[(0,.sl 5 (a.map A7)),(3,aI c)],[]⟩) fun _ _=>Pv.eq_2 ..
abbrev z5f {n a b c}:=li (P2 n a b c) (fun d=>⟨[(0,.sl 5 (a.map A7)),(3,aI b),(4,aI d)],[]⟩) fun _ _=>P2.eq_2 ..
abbrev z5e {n a b c}:=li (P1 n a b c) (fun d=>⟨[(0,.sl 5 (a.map A7)),(3,aI b),(4,aI d)],[]⟩) fun _ _=>P1.eq_2 ..
abbrev z5g {n a b}:=li (Gu n a b) (fun c=>⟨[(0,.sl 5 (a.map A7)),(3,aI c)],[]⟩) fun _ _=>Gu.eq_2 ..
attribute [instance]   z7u z7m z7q z7n z64 z65 z7o z62 z63 z7p z7x z7w z5f z5e z5g
instance zum {n d c b a}:CI E0 (Z8 n d c b a) true 35 [.sl 2 (d.map Bf),Bi c,aI b,.agg [aI a.fVerdict,aI a.fBound,.sl 5 (a.fPrefix.map A7),aI a.fPeriod]] aI:=by unfold Z8;exact aF [6,9] Tryz.func35
instance zo0 {n a}:CI E0 (Lv n a) true 81 [Au a] (fun r=>.bool (r)):=by unfold Lv;exact aF [1] Tryz.func81
instance znx {n a}:CI E0 (Un n a) true 80 [.sl 11 (a.map B8)] (fun r=>.bool (r)):=by unfold Un;exact aF [] Tryz.func80
instance zny {n c}:CI E0 (Uo n c) true 25 [Bi c] (fun r=>.bool (r)):=⟨fun {r} b=>by
 unfold Uo at b;refine cw Tryz.func25 ?_;repeat' first
  |refine aY b (fun v b=>?_) fun b=>?_
  |refine aG b fun b=>?_
  |refine aC [2,4,7,10,17] ?_;conv=>whnf
  |refine aP b (fun b=>?_) fun b=>?_
  |refine aU ?_
  |refine aW ?_
  |exact ⟨_,b,aA []⟩
  |refine aK b fun x b=>?_
  |refine IdxX.oD b Dg (fun x b=>?_)
  |refine Ab.I b fun a b=>?_
  |refine Av.I b (aA []) fun m v b=>?_
  |exact aD b⟩
instance zo4 {n a}:CI E0 (Uq n a) true 93 [.sl 3 (a.map Ac)] (fun r=>.bool (r)):=by unfold Uq;exact aF [] Tryz.func93
instance zo3 {n a}:CI E0 (Qm n a) true 34 [.sl 5 (a.map A7)] (fun r=>.bool (r)):=by unfold Qm;exact aF [] Tryz.func34
instance zik {n a}:CI E0 (Pu n a) true 36 [A7 a] (fun r=>.bool (r)):=by unfold Pu;exact aF [] Tryz.func36
instance zo2 {n a}:CI E0 (Hb n a) true 38 [A7 a] Bn:=by unfold Hb;exact aF [] Tryz.func38
instance zlp {n b a}:CI E0 (Qf n b a) true 45 [A7 b,A7 a] (fun r=>.bool (r)):=by unfold Qf;exact aF [] Tryz.func45
instance zki {n a}:CI E0 (Io n a) true 12 [.sl 5 (a.map A7)] aI:=by unfold Io;exact aF [] Tryz.func12
instance zle {n b a}:CI E0 (H5 n b a) true 46 [Bi b,.sl 5 (a.map A7)] aI:=by unfold H5;exact aF [] Tryz.func46
instance zk1 {n}:CI E0 (Yc n) false 101 [] Ai:=by unfold Yc;exact aF [] Tryz.func101
end
noncomputable section
abbrev z4v {n a d b}:=li (Oy n a d b) (fun c=>⟨[(0,.sl 5 (d.map A7)),(3,.ptr 3 0),(4,.ptr 4 0),(6,aI c)],[(3,.box 86 (zxz a)),(4,.box 37 [aI 0,aI 0,aI 0,aI 0,.nils])]⟩) fun _ _=>Oy.eq_2 ..
abbrev z4w {n d e f a b}:=li (Fw n d e f a b) (fun c=>⟨[(0,.sl 5 (f.map A7)),(1,aI e),(2,.sl 4 (d.map B6)),(6,.ptr 6 0),(7,.ptr 7 0),(8,aI c.1)],[(6,.box 271 [.nils]),(7,.box 271 [.cont (a) 13]),(13,.nest 29 (List.map (enR A7 37 5) (c.2)))]⟩) fun _ _=>Fw.eq_2 ..
abbrev z1w {n}:=jf (Jq n) (fun b=>⟨[(6,.bool (b))],[]⟩) fun _=>Jq.eq_1 ..
abbrev z4n {n e d a b}:=li (Ou n e d a b) (fun c=>⟨[(7,.ptr 7 0),(9,.ptr 9 0),(10,.sl 11 (a.fGuards.map B8)),(11,aI c)],[(7,.box 37 (Bo e)),(9,.box 271 (Dp d))]⟩) fun _ _=>Ou.eq_2 ..
abbrev z61 {n a d b}:=li (Kq n a d b) (fun c=>⟨[(1,aI a),(2,.ptr 2 0),(5,.row 7029),(6,aI c.1)],[(2,.box 26 (B3 d)),(7029,.row 149 17 (c.2.map A9))]⟩) fun _ _=>Kq.eq_2 ..
abbrev z7c {n a d b}:=li (Pj n a d b) (fun c=>⟨[(0,.sl 1 (d.map aI)),(1,aI a),(5,aI c)],[]⟩) fun _ _=>Pj.eq_2 ..
abbrev z3m {n a d b}:=li (K0 n a d b) (fun c=>⟨[(0,.sl 2 (d.map Aj)),(1,aI a),(5,.row 7026),(6,aI c.1)],[(7026,.row 182 2 (c.2.map Aj))]⟩) fun _ _=>K0.eq_2 ..
abbrev z3l {n f g a b c d}:=jf (Jz n f g a b c d) (fun e=>⟨[(0,.sl 2 (a.map Aj)),(1,aI g),(2,aI f),(7,.row 7031),(8,aI b.1),(24,.bool (e))],[(7031,.row 182 2 (b.2.map Aj))]⟩) fun _=>Jz.eq_1 ..
abbrev z3k {n d e a b}:=li (I3 n d e a b) (fun c=>⟨[(0,.sl 2 (a.map Aj)),(1,aI e),(2,aI d),(7,.row 7031),(8,aI c.1)],[(7031,.row 182 2 (c.2.map Aj))]⟩) fun _ _=>I3.eq_2 ..
abbrev z5y {n a d e b}:=li (Pa n a d e b) (fun c=>⟨[(0,.sl 2 (e.map Aj)),(2,aI a),(4,.ptr 4 0),(7,aI c)],[(4,.box 230 (Zm d))]⟩) fun _ _=>Pa.eq_2 ..
abbrev z2i {n a b c}:=li (Nx n a b c) (fun d=>⟨[(8,.ptr 8 0),(10,.ptr 10 0),(15,.ptr 15 0),(20,aI d.1)],[(8,.box 149 (Bp a)),(10,.box 90 [aI 0,.nils,.nils]),(15,.box 90 [aI a.fTo,.sl 4 (b.map B6),.sl 2 (d.2.map Aj)])]⟩) fun _ _=>Nx.eq_2 ..
abbrev z2j {n a b c d e}:=li (Ny n a b c d e) (fun f=>⟨[(8,.ptr 8 0),(10,.ptr 10 0),(15,.ptr 15 0),(18,.ptr 18 0),(19,aI f)],[(8,.box 149 (Bp a)),(10,.box 90 [aI 0,.nils,.nils]),(15,.box 90 [aI a.fTo,.sl 4 (c.map B6),.sl 2 (b.map Aj)]),(18,.box 271 (Dp d))]⟩) fun _ _=>Ny.eq_2 ..
abbrev z2k {n e a f g b c}:=li (Nz n e a f g b c) (fun d=>⟨[(1,.sl 5 (g.map A7)),(7,.ptr 7 0),(8,.ptr 8 0),(9,.ptr 9 0),(10,.ptr 10 0),(15,.ptr 15 0),(17,aI d)],[(7,.box 90 (C7 f)),(8,.box 149 (Bp a)),(9,.box 37 (Bo e)),(10,.box 90 [aI 0,.nils,.nils]),(15,.box 90 [aI a.fTo,.nils,.sl 2 (b.map Aj)])]⟩) fun _ _=>Nz.eq_2 ..
abbrev z2l {n d a e f b}:=li (O0 n d a e f b) (fun c=>⟨[(1,.sl 5 (f.map A7)),(7,.ptr 7 0),(8,.ptr 8 0),(9,.ptr 9 0),(10,.ptr 10 0),(15,.ptr 15 0),(16,aI c.1)],[(7,.box 90 (C7 e)),(8,.box 149 (Bp a)),(9,.box 37 (Bo d)),(10,.box 90 [aI 0,.nils,.nils]),(15,.box 90 [aI a.fTo,.nils,.sl 2 (c.2.map Aj)])]⟩) fun _ _=>O0.eq_2 ..
abbrev z2o {n a c d e}:=jf (Ei n a c d e) (fun b=>⟨[(1,.sl 5 (e.map A7)),(7,.ptr 7 0),(8,.ptr 8 0),(9,.ptr 9 0),(10,.ptr 10 0),(70,.bool (b))],[(7,.box 90 (C7 d)),(8,.box 149 (Bp c)),(9,.box 37 (Bo a)),(10,.box 90 [aI 0,.nils,.nils])]⟩) fun _=>Ei.eq_1 ..
attribute [instance] z4v z4w z1w z4n z61 z7c z3m z3l z3k z5y z2i z2j z2k z2l z2o
instance zk5 {n b a}:CI E0 (U7 n b a) false 323 [.sl 5 (b.map A7),Bn a] (fun r=>.tup [A7 r.1,.bool (r.2)]):=by unfold U7;exact aF [] Tryz.func323
instance zk6 {n e d c}:CI E0 (Yd n e d c) false 311 [.sl 5 (e.map A7),aI d,.sl 4 (c.map B6)] Dn:=⟨fun {r} b=>by
 unfold Yd at b;refine cw Tryz.func311 ?_;repeat' first
  |refine AW.nstO (er:=A7) 37 5 b 13 rfl (fun b=>?_)
  |refine AW.frrO (ety:=37) (sz:=5) A7 b 13 rfl (fun b=>?_)
  |refine aG b fun b=>?_
  |refine aC [9,7,2] ?_;conv=>whnf
  |refine aP b (fun b=>?_) fun b=>?_
  |refine aW ?_
  |refine MakX.on b (fun m b=>?_)
  |refine aK b fun x b=>?_
  |refine Ab.I b fun a b=>?_
  |refine OpX.ixc b rfl rfl rfl rfl rfl rfl rfl rfl (fun b=>?_)
  |refine OpX.ntk A7 b rfl rfl rfl rfl rfl rfl rfl rfl rfl rfl (fun q b=>?_)
  |refine aM b fun l b=>?_
  |refine OpX.npt A7 b rfl rfl rfl rfl rfl rfl rfl rfl rfl rfl rfl (fun l b=>?_)
  |exact ⟨_,b,aA []⟩
  |refine Av.I b (aA []) fun m v b=>?_
  |refine AndA ?_
  |refine EqX.A ?_
  |exact aD b⟩
def zax (r:Aq):AV:=.agg [.sl 1 (List.map (fun q=>AV.sl 5 (List.map A7 q)) (r.fVars))]
instance z8v {n b a}:CI E0 (Lt n b a) false 274 [.sl 5 (b.map A7),Ai a] Dn:=by unfold Lt;exact aF [] Tryz.func274
instance zg4 {n c b a}:CI E0 (Ot n c b a) true 275 [B8 c,Dn b,A7 a] (fun r=>.bool (r)):=by unfold Ot;exact aF [1] Tryz.func275
instance zk0 {n d c b a}:CI E0 (U5 n d c b a) true 229 [Bi d,.sl 5 (c.map A7),Ai b,A7 a] (fun r=>.bool (r)):=by unfold U5;exact aF [] Tryz.func229
instance zlg {n c b}:CI E0 (Ue n c b) false 153 [Bi c,aI b] (fun r=>.sl 17 (r.map A9)):=⟨fun {r} a=>by
 unfold Ue at a;refine cw Tryz.func153 ?_;repeat' first
  |refine aG a fun a=>?_
  |refine aC [5] ?_;conv=>whnf
  |refine aP a (fun a=>?_) fun a=>?_
  |refine aK a fun x a=>?_
  |refine aM a fun l a=>?_
  |exact ⟨_,a,aA [(7029,29)]⟩
  |exact ⟨_,a,aA []⟩
  |refine Av.I a ?_ fun m v a=>?_
  |exact aB (aJ 5 7029 149 17 rfl rfl) (aA [])
  |exact aD a⟩
instance zns {n b a}:CI E0 (Uk n b a) true 276 [.sl 1 (b.map aI),aI a] (fun r=>.bool (r)):=by unfold Uk;exact aF [] Tryz.func276
instance zic {n c b}:CI E0 (Pk n c b) false 279 [.sl 2 (c.map Aj),aI b] (fun r=>.sl 2 (r.map Aj)):=⟨fun {r} a=>by
 unfold Pk at a;refine cw Tryz.func279 ?_;repeat' first
  |refine aG a fun a=>?_
  |refine aC [5] ?_;conv=>whnf
  |refine aP a (fun a=>?_) fun a=>?_
  |refine aK a fun x a=>?_
  |refine aM a fun l a=>?_
  |exact ⟨_,a,aA [(7026,26)]⟩
  |exact ⟨_,a,aA []⟩
  |refine Av.I a ?_ fun m v a=>?_
  |exact aB (aJ 5 7026 182 2 rfl rfl) (aA [])
  |exact aD a⟩
instance zib {n e d c}:CI E0 (Tw n e d c) false 277 [.sl 2 (e.map Aj),aI d,aI c] (fun r=>.sl 2 (r.map Aj)):=⟨fun {r} b=>by
 unfold Tw at b;refine cw Tryz.func277 ?_;repeat' first
  |refine aY b (fun v b=>?_) fun b=>?_
  |refine aG b fun b=>?_
  |refine aC [4] ?_;conv=>whnf
  |refine aP b (fun b=>?_) fun b=>?_
  |refine Ab.I b fun a b=>?_
  |refine aM b fun l b=>?_
  |refine SlsX.o Aj b (fun l b=>?_)
  |refine aK b fun x b=>?_
  |exact ⟨_,b,aA [(7031,31)]⟩
  |exact ⟨_,b,aA []⟩
  |refine Av.I b ?_ fun m v b=>?_
  |exact aB (aJ 7 7031 182 2 rfl rfl) (aA [])
  |exact aD b⟩
instance zld {n c b a}:CI E0 (Uc n c b a) true 278 [.sl 2 (c.map Aj),Bu b,aI a] (fun r=>.bool (r)):=by unfold Uc;exact aF [] Tryz.func278
end
end Go.Proofs.YthbogefcfhmpgaaGreat
