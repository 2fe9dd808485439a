/- What some functions compute, over plain values. -/
import Derived.Test.YtkoamfnbbhfaiaaGreatDoorK25
set_option linter.unusedVariables false
set_option linter.unusedSimpArgs false
set_option maxRecDepth 100000
set_option maxHeartbeats 8000000
namespace Go.Proofs.YtkoamfnbbhfaiaaGreatDoor
open Go.RowKit List
open LeX renaming a->aA,trans->aS,adopt->aT,pa->cB
open RetX renaming oB->aB
open CI renaming w->aC
open AW renaming stepU->aD,regO->aH,step->aL,jI->bP
open _root_.Go.Proofs.Tryz renaming prog->aE,underlying97->aF,func32->aQ,func229->aX,ntmps229->bC,func226->bF,func186->bH,func187->bI,func189->bJ,func190->bK,ntmps226->bS,ntmps186->bT,ntmps187->bU,ntmps190->bV,func119->cA,func260->cC,func122->cD,func184->cE,func230->cF,func188->cG,func75->cI
open IdxX renaming A->aG,oD->bZ
open Nat renaming le_refl->aJ,le_of_ble_eq_true->aY,min->bG,min_eq_left->bQ
open Option renaming isNone_none->aK
open _root_.Go.Proofs.YtkoamfnbbhfaiaaGreatDoor.Own renaming made_->aM,nil_->bR
open List renaming getElem?_append_left->aN,getElem?_toArray->aV,getElem?_append_right->aZ,length_nil->bD,append_assoc->bL,take_append_drop->bO
open Ac renaming o->aO
open AppX renaming oA->aP
open B5 renaming I->aR
open And renaming intro->aU
open Or renaming inr->aW
open Ag renaming I->bA,oR->bX
open ConG renaming walk->bB,up->bE
noncomputable section
abbrev z0r {n b d f e}:=li (Vc n b d f e) (fun c=>⟨[(0,.ptr 100000 0),(7,.sl 1 (d.map aI)),(8,.sl 1 (f.map aI)),(111,aI (((d.map aI).length:Int))),(112,aI c.1)],[(100000,.box 85 [aI c.2.1,aI c.2.2.1,.sl 1 (c.2.2.2.1.map B6),.sl 17 (c.2.2.2.2.1.map Ax),aI c.2.2.2.2.2.1,aI c.2.2.2.2.2.2.1,.sl 1 (c.2.2.2.2.2.2.2.1.map B6),.sl 17 (c.2.2.2.2.2.2.2.2.1.map Ax),.row 200108,.row 200109]),(200108,.row 3 1 (c.2.2.2.2.2.2.2.2.2.1.map aI)),(200109,.row 3 1 (c.2.2.2.2.2.2.2.2.2.2.map aI))]⟩) fun _ _=>Vc.eq_2 ..
abbrev z0q {n b d f e}:=li (N7 n b d f e) (fun c=>⟨[(0,.ptr 100000 0),(7,.sl 1 (d.map aI)),(8,.sl 1 (f.map aI)),(111,aI (((d.map aI).length:Int))),(112,aI c.1)],[(100000,.box 85 [aI c.2.1,aI c.2.2.1,.sl 1 (c.2.2.2.1.map B6),.sl 17 (c.2.2.2.2.1.map Ax),aI c.2.2.2.2.2.1,aI c.2.2.2.2.2.2.1,.sl 1 (c.2.2.2.2.2.2.2.1.map B6),.sl 17 (c.2.2.2.2.2.2.2.2.1.map Ax),.row 200108,.row 200109]),(200108,.row 3 1 (c.2.2.2.2.2.2.2.2.2.1.map aI)),(200109,.row 3 1 (c.2.2.2.2.2.2.2.2.2.2.map aI))]⟩) fun _ _=>N7.eq_2 ..
abbrev z2k {n}:=jf (I9 n) (fun b=>⟨[(10,.ptr 38 0),(55,.bool (b.1))],[(38,.box 85 [aI b.2.1,aI b.2.2.1,.sl 1 (b.2.2.2.1.map B6),.sl 17 (b.2.2.2.2.1.map Ax),aI b.2.2.2.2.2.1,aI b.2.2.2.2.2.2.1,.sl 1 (b.2.2.2.2.2.2.2.1.map B6),.sl 17 (b.2.2.2.2.2.2.2.2.1.map Ax),.row 7031,.row 7036]),(7031,.row 3 1 (b.2.2.2.2.2.2.2.2.2.1.map aI)),(7036,.row 3 1 (b.2.2.2.2.2.2.2.2.2.2.map aI))]⟩) fun _=>I9.eq_1 ..
abbrev z2j {n a d b}:=li (I8 n a d b) (fun c=>⟨[(2,.ptr 2 0),(3,.ptr 3 0),(13,.sl 4 [C1 d,C1 a]),(14,aI 2),(15,aI c)],[(2,.box 25 (Bf d)),(3,.box 25 (Bf a))]⟩) fun _ _=>I8.eq_2 ..
abbrev z56 {n}:=jf (L3 n) (fun b=>⟨[(2,.bool (b))],[]⟩) fun _=>L3.eq_1 ..
abbrev z4v {n a b}:=li (Ou n a b) (fun c=>⟨[(0,.sl 11 (a.map B0)),(3,aI c)],[]⟩) fun _ _=>Ou.eq_2 ..
abbrev z4z {n}:=jf (Io n) (fun b=>⟨[(2,.bool (b))],[]⟩) fun _=>Io.eq_1 ..
abbrev z4w {n a b d c}:=li (Ov n a b d c) (fun e=>⟨[(1,.ptr 1 0),(4,aI b),(5,.ptr 5 0),(6,aI e)],[(1,.box 25 (Bf a)),(5,.box 46 (C4 d))]⟩) fun _ _=>Ov.eq_2 ..
abbrev z3u {n a b c e}:=jf (F4 n a b c e) (fun d=>⟨[(1,.ptr 1 0),(4,aI b),(5,.ptr 5 0),(105,.bool (d))],[(1,.box 25 (Bf a)),(5,.box 46 (C4 e))]⟩) fun _=>F4.eq_1 ..
abbrev z3v {n a b c d}:=jf (Ic n a b c d) (fun e=>⟨[(1,.ptr 1 0),(4,aI b),(64,.bool (e))],[(1,.box 25 (Bf a))]⟩) fun _=>Ic.eq_1 ..
abbrev z4x {n a b}:=li (G5 n a b) (fun c=>⟨[(1,.ptr 1 0),(4,aI c)],[(1,.box 25 (Bf a))]⟩) fun _ _=>G5.eq_2 ..
abbrev z3s {n a b c}:=jf (G4 n a b c) (fun d=>⟨[(1,.ptr 1 0),(3,aI b),(55,.bool (d))],[(1,.box 25 (Bf a))]⟩) fun _=>G4.eq_1 ..
abbrev z3t {n a b c d}:=jf (Kr n a b c d) (fun e=>⟨[(1,.ptr 1 0),(3,aI b),(15,.bool (e))],[(1,.box 25 (Bf a))]⟩) fun _=>Kr.eq_1 ..
abbrev z4y {n a b}:=li (Im n a b) (fun c=>⟨[(1,.ptr 1 0),(3,aI c)],[(1,.box 25 (Bf a))]⟩) fun _ _=>Im.eq_2 ..
abbrev z59 {n a b}:=li (Oy n a b) (fun c=>⟨[(0,.sl 3 (a.map Aa)),(3,aI c)],[]⟩) fun _ _=>Oy.eq_2 ..
abbrev z58 {n a b}:=li (Ox n a b) (fun c=>⟨[(0,.sl 5 (a.map A6)),(3,aI c)],[]⟩) fun _ _=>Ox.eq_2 ..
attribute [instance] z0r z0q z2k z2j z56 z4v z4z z4w z3u z3v z4x z3s z3t z4y z59 z58
instance zfb {n b a}:CI E0 (Pm n b a) true 53 [Ax b,Ax a] (fun r=>.bool (r)):=by unfold Pm;exact aC [1] Tryz.func53
def z2m (c:Int)(b:Int)(a:Dt):List (Nat×Ent):=[(100000,.box 85 [aI a.fa.fVars,aI a.fa.fScopes,.sl 1 (a.fa.fStates.map B6),.sl 17 (a.fa.fEdges.map Ax),aI a.fb.fVars,aI a.fb.fScopes,.sl 1 (a.fb.fStates.map B6),.sl 17 (a.fb.fEdges.map Ax),.row 200108,.row 200109]),(200108,.row 3 1 (a.fto.map aI)),(200109,.row 3 1 (a.ffrom.map aI))]
def I3 (r:Bool×Dt):List (Nat×Ent):=[(100000,.box 85 [aI r.2.fa.fVars,aI r.2.fa.fScopes,.sl 1 (r.2.fa.fStates.map B6),.sl 17 (r.2.fa.fEdges.map Ax),aI r.2.fb.fVars,aI r.2.fb.fScopes,.sl 1 (r.2.fb.fStates.map B6),.sl 17 (r.2.fb.fEdges.map Ax),.row 250108,.row 250109]),(250108,.row 3 1 (r.2.fto.map aI)),(250109,.row 3 1 (r.2.ffrom.map aI))]
def K5 (r:Bool×Dt):AV:=.bool (r.1)
def z03 (r:Bool×Dt):AS:=⟨[(6,.bool (r.1)),(0,.ptr 100000 0)],I3 r⟩
theorem z01 {n d c e r}(b:I7 n d c e=some r):ConG E0.P none (CalF E0.P 32 0) [.ptr 100000 0,aI d,aI c] [] (z2m d c e) (K5 r) (I3 r):=by
 induction n generalizing d c e r
 case zero=>cases b
 case succ n f =>
 unfold I7 at b;refine bB (E:=(E0p 3)) (caps:=[]) _ aQ rfl rfl rfl rfl rfl ?_;repeat' first
  |refine aL ?_;conv=>whnf
  |refine aO b (fun b=>?_) fun b=>?_
  |refine Ac.t ?_
  |refine Ac.f ?_
  |exact GX.A (res:=K5) (meF:=I3) b z03 (h1:=aA [(250108,200108),(250109,200109)])
  |refine OpX.nckP rfl rfl rfl rfl rfl ?_
  |refine NatX.o b (fun m b=>?_)
  |refine EltX.o aI b (fun x b=>?_)
  |refine aG b fun x b=>?_
  |refine bA b fun a b=>?_
  |refine SetX.o aI b (fun x=>rfl) (fun x=>(by first|exact SubL.refl _|(repeat' first|exact SubL.nil|refine SubL.cons ?_ ?_|exact Sub.refl _|exact Sub.nil _|refine Sub.agg ?_))) (fun l b=>?_)
  |refine Be.oM (Ca 165 b) [(100000,100000),(200108,200108),(200109,200109)] [(100000,100000),(250108,166000001),(250109,166000002)] _ _ I3 K5 [200108,200109] (fun a h=>bE (f h)) (B7 aQ rfl rfl) rfl rfl rfl ⟨⟨rfl,rfl⟩,⟨⟨rfl,rfl⟩,⟨⟨rfl,rfl⟩,trivial⟩⟩⟩ (fun a=>⟨rfl,rfl,rfl,rfl,rfl,rfl,rfl,rfl⟩) (fun a b=>?_)
  |refine Ag.oM (Ca 165 b) [(100000,100000),(200108,200108),(200109,200109)] [(100000,100000),(250108,166000001),(250109,166000002)] _ _ I3 K5 [200108,200109] (fun a h=>bE (f h)) (B7 aQ rfl rfl) rfl rfl rfl ⟨⟨rfl,rfl⟩,⟨⟨rfl,rfl⟩,⟨⟨rfl,rfl⟩,trivial⟩⟩⟩ (fun a=>⟨rfl,rfl,rfl,rfl,rfl,rfl,rfl,rfl⟩) (fun a b=>?_)
  |exact GX.A (res:=K5) (meF:=I3) b z03 (h1:=aA [(250108,166000001),(250109,166000002)])
  |exact ⟨_,b,aA [(200108,166000001),(200109,166000002)]⟩
  |refine aR b (aA []) fun m v b=>?_
  |refine AndA ?_
  |refine EqX.A ?_
instance zct {n d c}:CI E0 (L9 n d c) false 10 [C1 d,C1 c] (fun r=>.tup [.sl 1 (r.1.map aI),.bool (r.2.1),aI r.2.2]):=⟨fun {r} b=>by
 unfold L9 at b;refine cw Tryz.func10 ?_;repeat' first
  |refine bP b (fun v b=>?_) fun b=>?_
  |refine aH b fun b=>?_
  |refine aD [9] ?_;conv=>whnf
  |refine aO b (fun b=>?_) fun b=>?_
  |refine Ac.t ?_
  |refine Ac.f ?_
  |refine bX b (fun r=>r) aI (fun _=>AV.row 0) rfl (fun a h=>z7u h) (fun a b=>?_)
  |refine bX b (fun r=>r) aI (fun _=>AV.row 0) rfl (fun a h=>ConT.sub (by repeat' first|exact Sub.nil _|exact Sub.refl _|refine Sub.agg ?_|refine Sub.tup ?_|refine Sub.fn ?_|exact SubL.nil|refine SubL.cons ?_ ?_|refine Sub.sl _ ?_|exact SubE.nil|refine SubE.cons ?_ ?_) (z7u h)) (fun a b=>?_)
  |refine OpX.nckP rfl rfl rfl rfl rfl ?_
  |exact ⟨_,b,aA [(7031,31),(7036,36)]⟩
  |refine Be.oM (Ca 53 b) [(100000,38),(200108,31),(200109,36)] [(100000,38),(250108,54000001),(250109,54000002)] _ _ I3 K5 [31,36] (fun a h=>bE (z01 h)) (B7 aQ rfl rfl) rfl rfl rfl ⟨⟨rfl,rfl⟩,⟨⟨rfl,rfl⟩,⟨⟨rfl,rfl⟩,trivial⟩⟩⟩ (fun a=>⟨rfl,rfl,rfl,rfl,rfl,rfl,rfl,rfl⟩) (fun a b=>?_)
  |refine Ag.oM (Ca 53 b) [(100000,38),(200108,31),(200109,36)] [(100000,38),(250108,54000001),(250109,54000002)] _ _ I3 K5 [31,36] (fun a h=>bE (z01 h)) (B7 aQ rfl rfl) rfl rfl rfl ⟨⟨rfl,rfl⟩,⟨⟨rfl,rfl⟩,⟨⟨rfl,rfl⟩,trivial⟩⟩⟩ (fun a=>⟨rfl,rfl,rfl,rfl,rfl,rfl,rfl,rfl⟩) (fun a b=>?_)
  |exact ⟨_,b,aA [(7031,54000001),(7036,54000002)]⟩
  |refine aG b fun x b=>?_
  |refine bA b fun a b=>?_
  |exact ⟨_,b,aA []⟩
  |refine aR b (aA []) fun m v b=>?_
  |refine AndA ?_
  |refine EqX.A ?_
  |exact aB b⟩
instance zho {n a}:CI E0 (Ln n a) true 38 [Al a] (fun r=>.bool (r)):=by unfold Ln;exact aC [1] Tryz.func38
instance zhl {n a}:CI E0 (Sn n a) true 37 [.sl 11 (a.map B0)] (fun r=>.bool (r)):=by unfold Sn;exact aC [] Tryz.func37
instance zhm {n c}:CI E0 (Ll n c) true 16 [C1 c] (fun r=>.bool (r)):=⟨fun {r} b=>by
 unfold Ll at b;refine cw Tryz.func16 ?_;repeat' first
  |refine bP b (fun v b=>?_) fun b=>?_
  |refine aH b fun b=>?_
  |refine aD [2,4,7,10,17] ?_;conv=>whnf
  |refine aO b (fun b=>?_) fun b=>?_
  |refine Ac.t ?_
  |refine Ac.f ?_
  |exact ⟨_,b,aA []⟩
  |refine aG b fun x b=>?_
  |refine bZ b Dn (fun x b=>?_)
  |refine bA b fun a b=>?_
  |refine aR b (aA []) fun m v b=>?_
  |exact aB b⟩
instance zhs {n a}:CI E0 (Sq n a) true 39 [.sl 3 (a.map Aa)] (fun r=>.bool (r)):=by unfold Sq;exact aC [] Tryz.func39
end
noncomputable section
abbrev z3e {n a b c}:=li (O5 n a b c) (fun d=>⟨[(0,.sl 5 (a.map A6)),(3,aI b),(4,aI d)],[]⟩) fun _ _=>O5.eq_2 ..
abbrev z3d {n a b c}:=li (O4 n a b c) (fun d=>⟨[(0,.sl 5 (a.map A6)),(3,aI b),(4,aI d)],[]⟩) fun _ _=>O4.eq_2 ..
abbrev z3f {n a b}:=li (H0 n a b) (fun c=>⟨[(0,.sl 5 (a.map A6)),(3,aI c)],[]⟩) fun _ _=>H0.eq_2 ..
abbrev z2w {n a d b}:=li (O1 n a d b) (fun c=>⟨[(0,.sl 5 (d.map A6)),(3,.ptr 3 0),(4,.ptr 4 0),(6,aI c)],[(3,.box 75 (zqz a)),(4,.box 59 [aI 0,aI 0,aI 0,aI 0,.nils])]⟩) fun _ _=>O1.eq_2 ..
abbrev z2x {n d e f a b}:=li (G1 n d e f a b) (fun c=>⟨[(0,.sl 5 (f.map A6)),(1,aI e),(2,.sl 4 (d.map B9)),(6,.ptr 6 0),(7,.ptr 7 0),(8,aI c.1)],[(6,.box 223 [.nils]),(7,.box 223 [.cont (a) 13]),(13,.nest 26 (List.map (enR A6 59 5) (c.2)))]⟩) fun _ _=>G1.eq_2 ..
abbrev z0v {n}:=jf (Jz n) (fun b=>⟨[(6,.bool (b))],[]⟩) fun _=>Jz.eq_1 ..
abbrev z2o {n e d a b}:=li (Nx n e d a b) (fun c=>⟨[(7,.ptr 7 0),(9,.ptr 9 0),(10,.sl 11 (a.fGuards.map B0)),(11,aI c)],[(7,.box 59 (Cc e)),(9,.box 223 (Dx d))]⟩) fun _ _=>Nx.eq_2 ..
abbrev z3r {n a d b}:=li (Kq n a d b) (fun c=>⟨[(1,aI a),(2,.ptr 2 0),(5,.row 7029),(6,aI c.1)],[(2,.box 25 (Bf d)),(7029,.row 46 17 (c.2.map Ax))]⟩) fun _ _=>Kq.eq_2 ..
abbrev z4l {n a d b}:=li (Ok n a d b) (fun c=>⟨[(0,.sl 1 (d.map aI)),(1,aI a),(5,aI c)],[]⟩) fun _ _=>Ok.eq_2 ..
abbrev z1w {n a d b}:=li (K7 n a d b) (fun c=>⟨[(0,.sl 2 (d.map Ae)),(1,aI a),(5,.row 7026),(6,aI c.1)],[(7026,.row 232 2 (c.2.map Ae))]⟩) fun _ _=>K7.eq_2 ..
abbrev z1v {n f g a b c d}:=jf (K6 n f g a b c d) (fun e=>⟨[(0,.sl 2 (a.map Ae)),(1,aI g),(2,aI f),(7,.row 7031),(8,aI b.1),(24,.bool (e))],[(7031,.row 232 2 (b.2.map Ae))]⟩) fun _=>K6.eq_1 ..
abbrev z1u {n d e a b}:=li (I4 n d e a b) (fun c=>⟨[(0,.sl 2 (a.map Ae)),(1,aI e),(2,aI d),(7,.row 7031),(8,aI c.1)],[(7031,.row 232 2 (c.2.map Ae))]⟩) fun _ _=>I4.eq_2 ..
abbrev z3o {n a d e b}:=li (Oa n a d e b) (fun c=>⟨[(0,.sl 2 (e.map Ae)),(2,aI a),(4,.ptr 4 0),(7,aI c)],[(4,.box 115 (Wp d))]⟩) fun _ _=>Oa.eq_2 ..
attribute [instance] z3e z3d z3f z2w z2x z0v z2o z3r z4l z1w z1v z1u z3o
instance zhr {n a}:CI E0 (Sp n a) true 17 [.sl 5 (a.map A6)] (fun r=>.bool (r)):=by unfold Sp;exact aC [] Tryz.func17
instance zcm {n a}:CI E0 (S1 n a) true 23 [A6 a] (fun r=>.bool (r)):=by unfold S1;exact aC [] Tryz.func23
instance zhq {n a}:CI E0 (Lo n a) true 25 [A6 a] C3:=by unfold Lo;exact aC [] Tryz.func25
instance zf9 {n b a}:CI E0 (Pj n b a) true 26 [A6 b,A6 a] (fun r=>.bool (r)):=by unfold Pj;exact aC [] Tryz.func26
instance zed {n a}:CI E0 (P9 n a) true 7 [.sl 5 (a.map A6)] aI:=by unfold P9;exact aC [] Tryz.func7
instance zex {n b a}:CI E0 (El n b a) true 18 [C1 b,.sl 5 (a.map A6)] aI:=by unfold El;exact aC [] Tryz.func18
instance zdw {n}:CI E0 (Vo n) false 40 [] Ak:=by unfold Vo;exact aC [] Tryz.func40
instance ze0 {n b a}:CI E0 (S6 n b a) false 257 [.sl 5 (b.map A6),C3 a] (fun r=>.tup [A6 r.1,.bool (r.2)]):=by unfold S6;exact aC [] Tryz.func257
instance ze1 {n e d c}:CI E0 (Vp n e d c) false 220 [.sl 5 (e.map A6),aI d,.sl 4 (c.map B9)] Dw:=⟨fun {r} b=>by
 unfold Vp at b;refine cw Tryz.func220 ?_;repeat' first
  |refine AW.nstO (er:=A6) 59 5 b 13 rfl (fun b=>?_)
  |refine AW.frrO (ety:=59) (sz:=5) A6 b 13 rfl (fun b=>?_)
  |refine aH b fun b=>?_
  |refine aD [9,7,2] ?_;conv=>whnf
  |refine aO b (fun b=>?_) fun b=>?_
  |refine Ac.f ?_
  |refine MakX.on b (fun m b=>?_)
  |refine aG b fun x b=>?_
  |refine bA b fun a b=>?_
  |refine OpX.ixc b rfl rfl rfl rfl rfl rfl rfl rfl (fun b=>?_)
  |refine OpX.ntk A6 b rfl rfl rfl rfl rfl rfl rfl rfl rfl rfl (fun q b=>?_)
  |refine aP b fun l b=>?_
  |refine OpX.npt A6 b rfl rfl rfl rfl rfl rfl rfl rfl rfl rfl rfl (fun l b=>?_)
  |exact ⟨_,b,aA []⟩
  |refine aR b (aA []) fun m v b=>?_
  |refine AndA ?_
  |refine EqX.A ?_
  |exact aB b⟩
def z7f (r:Ai):AV:=.agg [.sl 1 (List.map (fun q=>AV.sl 5 (List.map A6 q)) (r.fVars))]
instance z5u {n b a}:CI E0 (Lk n b a) false 167 [.sl 5 (b.map A6),Ak a] Dw:=by unfold Lk;exact aC [] Tryz.func167
instance zac {n c b a}:CI E0 (Nv n c b a) true 168 [B0 c,Dw b,A6 a] (fun r=>.bool (r)):=by unfold Nv;exact aC [1] Tryz.func168
instance zdv {n d c b a}:CI E0 (S4 n d c b a) true 117 [C1 d,.sl 5 (c.map A6),Ak b,A6 a] (fun r=>.bool (r)):=by unfold S4;exact aC [] Tryz.func117
instance zez {n c b}:CI E0 (Sc n c b) false 118 [C1 c,aI b] (fun r=>.sl 17 (r.map Ax)):=⟨fun {r} a=>by
 unfold Sc at a;refine cw Tryz.func118 ?_;repeat' first
  |refine aH a fun a=>?_
  |refine aD [5] ?_;conv=>whnf
  |refine aO a (fun a=>?_) fun a=>?_
  |refine aG a fun x a=>?_
  |refine aP a fun l a=>?_
  |exact ⟨_,a,aA [(7029,29)]⟩
  |exact ⟨_,a,aA []⟩
  |refine aR a ?_ fun m v a=>?_
  |exact aS (aT 5 7029 46 17 rfl rfl) (aA [])
  |exact aB a⟩
instance zhg {n b a}:CI E0 (Sj n b a) true 169 [.sl 1 (b.map aI),aI a] (fun r=>.bool (r)):=by unfold Sj;exact aC [] Tryz.func169
instance zcg {n c b}:CI E0 (Ol n c b) false 173 [.sl 2 (c.map Ae),aI b] (fun r=>.sl 2 (r.map Ae)):=⟨fun {r} a=>by
 unfold Ol at a;refine cw Tryz.func173 ?_;repeat' first
  |refine aH a fun a=>?_
  |refine aD [5] ?_;conv=>whnf
  |refine aO a (fun a=>?_) fun a=>?_
  |refine aG a fun x a=>?_
  |refine aP a fun l a=>?_
  |exact ⟨_,a,aA [(7026,26)]⟩
  |exact ⟨_,a,aA []⟩
  |refine aR a ?_ fun m v a=>?_
  |exact aS (aT 5 7026 232 2 rfl rfl) (aA [])
  |exact aB a⟩
instance zcf {n e d c}:CI E0 (Rx n e d c) false 171 [.sl 2 (e.map Ae),aI d,aI c] (fun r=>.sl 2 (r.map Ae)):=⟨fun {r} b=>by
 unfold Rx at b;refine cw Tryz.func171 ?_;repeat' first
  |refine bP b (fun v b=>?_) fun b=>?_
  |refine aH b fun b=>?_
  |refine aD [4] ?_;conv=>whnf
  |refine aO b (fun b=>?_) fun b=>?_
  |refine bA b fun a b=>?_
  |refine aP b fun l b=>?_
  |refine SlsX.o Ae b (fun l b=>?_)
  |refine aG b fun x b=>?_
  |exact ⟨_,b,aA [(7031,31)]⟩
  |exact ⟨_,b,aA []⟩
  |refine aR b ?_ fun m v b=>?_
  |exact aS (aT 7 7031 232 2 rfl rfl) (aA [])
  |exact aB b⟩
end
noncomputable section
abbrev z19 {n a b c}:=li (N9 n a b c) (fun d=>⟨[(8,.ptr 8 0),(10,.ptr 10 0),(15,.ptr 15 0),(20,aI d.1)],[(8,.box 46 (C4 a)),(10,.box 99 [aI 0,.nils,.nils]),(15,.box 99 [aI a.fTo,.sl 4 (b.map B9),.sl 2 (d.2.map Ae)])]⟩) fun _ _=>N9.eq_2 ..
abbrev z1a {n a b c d e}:=li (Na n a b c d e) (fun f=>⟨[(8,.ptr 8 0),(10,.ptr 10 0),(15,.ptr 15 0),(18,.ptr 18 0),(19,aI f)],[(8,.box 46 (C4 a)),(10,.box 99 [aI 0,.nils,.nils]),(15,.box 99 [aI a.fTo,.sl 4 (c.map B9),.sl 2 (b.map Ae)]),(18,.box 223 (Dx d))]⟩) fun _ _=>Na.eq_2 ..
abbrev z1b {n e a f g b c}:=li (Nb n e a f g b c) (fun d=>⟨[(1,.sl 5 (g.map A6)),(7,.ptr 7 0),(8,.ptr 8 0),(9,.ptr 9 0),(10,.ptr 10 0),(15,.ptr 15 0),(17,aI d)],[(7,.box 99 (Co f)),(8,.box 46 (C4 a)),(9,.box 59 (Cc e)),(10,.box 99 [aI 0,.nils,.nils]),(15,.box 99 [aI a.fTo,.nils,.sl 2 (b.map Ae)])]⟩) fun _ _=>Nb.eq_2 ..
abbrev z1c {n d a e f b}:=li (Nc n d a e f b) (fun c=>⟨[(1,.sl 5 (f.map A6)),(7,.ptr 7 0),(8,.ptr 8 0),(9,.ptr 9 0),(10,.ptr 10 0),(15,.ptr 15 0),(16,aI c.1)],[(7,.box 99 (Co e)),(8,.box 46 (C4 a)),(9,.box 59 (Cc d)),(10,.box 99 [aI 0,.nils,.nils]),(15,.box 99 [aI a.fTo,.nils,.sl 2 (c.2.map Ae)])]⟩) fun _ _=>Nc.eq_2 ..
abbrev z1f {n a c d e}:=jf (Ez n a c d e) (fun b=>⟨[(1,.sl 5 (e.map A6)),(7,.ptr 7 0),(8,.ptr 8 0),(9,.ptr 9 0),(10,.ptr 10 0),(70,.bool (b))],[(7,.box 99 (Co d)),(8,.box 46 (C4 c)),(9,.box 59 (Cc a)),(10,.box 99 [aI 0,.nils,.nils])]⟩) fun _=>Ez.eq_1 ..
abbrev z1e {n f g h i e a b c}:=jf (K1 n f g h i e a b c) (fun d=>⟨[(1,.sl 5 (i.map A6)),(7,.ptr 7 0),(8,.ptr 8 0),(9,.ptr 9 0),(10,.ptr 10 0),(12,.ptr 12 0),(13,.sl 11 (a.fGuards.map B0)),(14,aI b),(54,.bool (d))],[(7,.box 99 (Co h)),(8,.box 46 (C4 g)),(9,.box 59 (Cc f)),(10,.box 99 [aI 0,.nils,.nils]),(12,.box 223 (Dx e))]⟩) fun _=>K1.eq_1 ..
abbrev z1d {n e f g h d a b}:=li (Hz n e f g h d a b) (fun c=>⟨[(1,.sl 5 (h.map A6)),(7,.ptr 7 0),(8,.ptr 8 0),(9,.ptr 9 0),(10,.ptr 10 0),(12,.ptr 12 0),(13,.sl 11 (a.fGuards.map B0)),(14,aI c)],[(7,.box 99 (Co g)),(8,.box 46 (C4 f)),(9,.box 59 (Cc e)),(10,.box 99 [aI 0,.nils,.nils]),(12,.box 223 (Dx d))]⟩) fun _ _=>Hz.eq_2 ..
abbrev z54 {n a d b}:=jf (L2 n a d b) (fun c=>⟨[(0,.sl 1 (d.map Ap)),(3,.ptr 3 0),(5,aI b),(34,.bool (c))],[(3,.box 91 (M8 a))]⟩) fun _=>L2.eq_1 ..
abbrev z52 {n a f b c d}:=jf (L1 n a f b c d) (fun e=>⟨[(0,.sl 1 (f.map Ap)),(3,.ptr 3 0),(5,aI b),(19,.bool (e))],[(3,.box 91 (M8 a))]⟩) fun _=>L1.eq_1 ..
abbrev z51 {n a d b}:=li (Ip n a d b) (fun c=>⟨[(0,.sl 1 (d.map Ap)),(3,.ptr 3 0),(5,aI c)],[(3,.box 91 (M8 a))]⟩) fun _ _=>Ip.eq_2 ..
abbrev z4p {n d e f g a c}:=li (Il n d e f g a c) (fun b=>⟨[(1,.sl 5 (f.map A6)),(4,.ptr 4 0),(6,.ptr 6 0),(7,.ptr 7 0),(10,.sl 3 (b.1.map Ak)),(11,.sl 1 (b.2.1.map Ap)),(12,.sl 17 (a.map Ax)),(13,aI b.2.2)],[(4,.box 25 (Bf g)),(6,.box 99 (Co e)),(7,.box 59 (Cc d))]⟩) fun _ _=>Il.eq_2 ..
abbrev z4q {n a c d e}:=jt (Kz n a c d e) (fun b=>⟨[(1,.sl 5 (d.map A6)),(4,.ptr 4 0),(6,.ptr 6 0),(7,.ptr 7 0),(10,.sl 3 (b.map Ak)),(11,.nils)],[(4,.box 25 (Bf e)),(6,.box 99 (Co c)),(7,.box 59 (Cc a))]⟩) fun _=>Kz.eq_1 ..
abbrev z4r {n a g h i d b c e}:=li (Om n a g h i d b c e) (fun f=>⟨[(1,.sl 5 (h.map A6)),(2,.sl 3 (g.map Ak)),(4,.ptr 4 0),(7,.ptr 7 0),(10,.sl 3 (b.map Ak)),(11,.sl 1 (f.1.map Ap)),(12,aI d.2.2),(14,.sl 1 (c.map Ap)),(16,aI f.2)],[(4,.box 25 (Bf i)),(7,.box 59 (Cc a))]⟩) fun _ _=>Om.eq_2 ..
attribute [instance] z19 z1a z1b z1c z1f z1e z1d z54 z52 z51 z4p z4q z4r
instance zew {n c b a}:CI E0 (Sa n c b a) true 172 [.sl 2 (c.map Ae),Bl b,aI a] (fun r=>.bool (r)):=by unfold Sa;exact aC [] Tryz.func172
instance zb3 {n g f e d c}:CI E0 (Kp n g f e d c) false 119 [C1 g,.sl 5 (f.map A6),Ak e,Ax d,A6 c] (fun r=>.tup [Ak r.1,.bool (r.2)]):=⟨fun {r} b=>by
 unfold Kp at b;refine Con.env (E:=E0b) rfl rfl ?_;refine Con.walk _ cA rfl (B7 cA rfl rfl) rfl (Or.inl rfl) ?_;repeat' first
  |refine bP b (fun v b=>?_) fun b=>?_
  |refine aH b fun b=>?_
  |refine AW.frzO b 125 rfl (fun b=>?_)
  |refine aD [21,6,8] ?_;conv=>whnf
  |refine aO b (fun b=>?_) fun b=>?_
  |refine bA b fun a b=>?_
  |refine aG b fun x b=>?_
  |refine AppX.oA0 b fun l b=>?_
  |refine OpX.bldS B9 b rfl rfl rfl rfl rfl rfl rfl rfl rfl rfl rfl rfl rfl rfl (fun l b=>?_)
  |refine aP b fun l b=>?_
  |refine OpX.bldR A6 b rfl rfl rfl rfl rfl rfl rfl rfl rfl rfl rfl rfl rfl rfl rfl rfl (by first|exact SubR.refl _|(repeat' first|exact SubR.nil|refine SubR.cons ?_ ?_|exact SubL.nil|refine SubL.cons ?_ ?_|exact Sub.refl _|exact Sub.nil _)) rfl (fun l b=>?_)
  |refine Be.oE b 130 z7f rfl (fun a h=>Con.env rfl rfl (z5u.h h)) rfl rfl (fun a b=>?_)
  |exact ⟨_,b,aA []⟩
  |refine aR b (aA []) fun m v b=>?_
  |refine bZ b Dn (fun x b=>?_)
  |refine Ag.S b fun a b=>?_
  |refine AndA ?_
  |exact aB b⟩
instance zhn {n d c}:CI E0 (Lm n d c) false 42 [.sl 1 (d.map Ap),Ap c] (fun r=>.sl 1 (r.map Ap)):=⟨fun {r} b=>by
 unfold Lm at b;refine cw Tryz.func42 ?_;repeat' first
  |refine bP b (fun v b=>?_) fun b=>?_
  |refine aH b fun b=>?_
  |refine aD [2,4] ?_;conv=>whnf
  |refine aO b (fun b=>?_) fun b=>?_
  |refine SlsX.o Ap b (fun l b=>?_)
  |refine AppX.oA0 b fun l b=>?_
  |refine aP b fun l b=>?_
  |refine aG b fun x b=>?_
  |refine bA b fun a b=>?_
  |exact ⟨_,b,aA []⟩
  |refine aR b (aA []) fun m v b=>?_
  |refine AndA ?_
  |exact aB b⟩
instance zhi {n f e d c}:CI E0 (Sk n f e d c) false 71 [C1 f,.sl 5 (e.map A6),Ak d,A6 c] (fun r=>.tup [.sl 3 (r.1.map Ak),.sl 1 (r.2.map Ap)]):=⟨fun {r} b=>by
 unfold Sk at b;refine cw Tryz.func71 ?_;repeat' first
  |refine AW.jI2 b (fun v b=>?_) fun b=>?_
  |refine aH b fun b=>?_
  |refine aD [3,11] ?_;conv=>whnf
  |refine aO b (fun b=>?_) fun b=>?_
  |refine bA b fun a b=>?_
  |refine aG b fun x b=>?_
  |exact ⟨_,b,aA []⟩
  |refine aR b ?_ fun m v b=>?_
  |exact cB 11 (aA [])
  |refine Ag.S b fun a b=>?_
  |exact ⟨_,b,cB 10 (aA [])⟩
  |refine AndA ?_
  |exact aB b⟩
end
noncomputable section
abbrev z4s {n a f g h b c d}:=li (Oo n a f g h b c d) (fun e=>⟨[(1,.sl 5 (g.map A6)),(2,.sl 3 (f.map Ak)),(4,.ptr 4 0),(7,.ptr 7 0),(10,.sl 3 (e.1.map Ak)),(11,.sl 1 (b.2.1.map Ap)),(12,aI b.2.2),(13,.sl 3 (c.1.map Ak)),(14,.sl 1 (c.2.map Ap)),(15,aI e.2)],[(4,.box 25 (Bf h)),(7,.box 59 (Cc a))]⟩) fun _ _=>Oo.eq_2 ..
abbrev z4t {n a d e f c}:=li (Oq n a d e f c) (fun b=>⟨[(1,.sl 5 (e.map A6)),(2,.sl 3 (d.map Ak)),(4,.ptr 4 0),(7,.ptr 7 0),(10,.sl 3 (b.1.map Ak)),(11,.sl 1 (b.2.1.map Ap)),(12,aI b.2.2)],[(4,.box 25 (Bf f)),(7,.box 59 (Cc a))]⟩) fun _ _=>Oq.eq_2 ..
abbrev z1z {n a g h d e b c}:=jf (K8 n a g h d e b c) (fun f=>⟨[(1,.sl 5 (g.map A6)),(2,aI a),(3,.ptr 3 0),(10,.sl 1 (b.map Ap)),(11,aI d.2.2),(12,.sl 3 (c.map Ak)),(55,.bool (f))],[(3,.box 25 (Bf h))]⟩) fun _=>K8.eq_1 ..
abbrev z1x {n a f g b c d}:=li (Nk n a f g b c d) (fun e=>⟨[(1,.sl 5 (f.map A6)),(2,aI a),(3,.ptr 3 0),(10,.sl 1 (e.1.map Ap)),(11,aI b.2.2),(12,.sl 3 (c.1.map Ak)),(13,.sl 1 (c.2.map Ap)),(14,aI e.2)],[(3,.box 25 (Bf g))]⟩) fun _ _=>Nk.eq_2 ..
abbrev z1y {n a d e c}:=li (I5 n a d e c) (fun b=>⟨[(1,.sl 5 (d.map A6)),(2,aI a),(3,.ptr 3 0),(9,.sl 3 (b.1.map Ak)),(10,.sl 1 (b.2.1.map Ap)),(11,aI b.2.2)],[(3,.box 25 (Bf e))]⟩) fun _ _=>I5.eq_2 ..
abbrev z2n {n a c}:=jf (Ia n a c) (fun b=>⟨[(1,.sl 5 (a.map A6)),(2,.ptr 2 0),(15,.bool (b))],[(2,.box 25 (Bf c))]⟩) fun _=>Ia.eq_1 ..
abbrev z7x {n a b}:=li (Ls n a b) (fun c=>⟨[(0,.sl 5 (a.map A6)),(3,.row 9),(10,.sl 5 (a.map A6)),(11,aI (((a.map A6).length:Int))),(12,aI c.1)],[(9,.mp (List.map (encM Lr AV.bool) (c.2)))]⟩) fun _ _=>Ls.eq_2 ..
abbrev zal {n d a b}:=li (Q5 n d a b) (fun c=>⟨[(8,.ptr 24 0),(25,.sl 5 (d.map A6)),(26,aI (((d.map A6).length:Int))),(27,aI c.1)],[(24,.box 176 [aI a.fVars,aI a.fScopes,.sl 1 (a.fStates.map B6),.sl 17 (a.fEdges.map Ax),.row 22]),(22,.mp (List.map (encM C3 A6) (c.2)))]⟩) fun _ _=>Q5.eq_2 ..
abbrev z6m {n d a e b}:=li (Pk n d a e b) (fun c=>⟨[(0,.ref [aI a.fa.fVars,aI a.fa.fScopes,.sl 1 (a.fa.fStates.map B6),.sl 17 (a.fa.fEdges.map Ax),.mapv (List.map (encM C3 A6) (a.fheld))]),(4,.ptr 4 0),(5,.ptr 5 0),(15,.sl 4 (d.map B9)),(16,aI (((d.map B9).length:Int))),(17,aI c.1)],[(4,.box 223 [.nils]),(5,.box 223 [.cont (e) 13]),(13,.nest 26 (List.map (enR A6 59 5) (c.2)))]⟩) fun _ _=>Pk.eq_2 ..
attribute [instance] z4s z4t z1z z1x z1y z2n z7x zal z6m
instance zhj {n f e d c}:CI E0 (Sm n f e d c) false 41 [C1 f,.sl 5 (e.map A6),.sl 3 (d.map Ak),A6 c] (fun r=>.tup [.sl 3 (r.1.map Ak),.sl 1 (r.2.map Ap)]):=⟨fun {r} b=>by
 unfold Sm at b;refine cw Tryz.func41 ?_;repeat' first
  |refine aL ?_;conv=>whnf
  |refine aO b (fun b=>?_) fun b=>?_
  |refine aG b fun x b=>?_
  |refine bA b fun a b=>?_
  |exact ⟨_,b,aA []⟩
  |refine aR b ?_ fun m v b=>?_
  |exact aA []
  |exact cB 10 (cB 11 (aA []))
  |refine AndA ?_
  |exact aB b⟩
instance zch {n e d c}:CI E0 (Ry n e d c) false 19 [C1 e,.sl 5 (d.map A6),aI c] (fun r=>.tup [.sl 3 (r.1.map Ak),.sl 1 (r.2.1.map Ap),.bool (r.2.2)]):=⟨fun {r} b=>by
 unfold Ry at b;refine cw Tryz.func19 ?_;repeat' first
  |refine bP b (fun v b=>?_) fun b=>?_
  |refine aH b fun b=>?_
  |refine aD [11] ?_;conv=>whnf
  |refine aO b (fun b=>?_) fun b=>?_
  |refine bA b fun a b=>?_
  |refine aG b fun x b=>?_
  |exact ⟨_,b,aA []⟩
  |refine aR b ?_ fun m v b=>?_
  |exact aA []
  |exact cB 10 (aA [])
  |refine AndA ?_
  |exact aB b⟩
instance zdu {n b a}:CI E0 (La n b a) true 5 [C1 b,.sl 5 (a.map A6)] (fun r=>.bool (r)):=by unfold La;exact aC [1] Tryz.func5
def z0k (b:Int)(a:Int):List (Nat×Ent):=[(100000,.box 3 [aI a])]
def Gt (r:Int×Int):List (Nat×Ent):=[(100000,.box 3 [aI r.2])]
def Hx (r:Int×Int):AV:=aI (r.1)
def z0j (r:Int×Int):AS:=⟨[(3,aI r.1),(1,.ptr 100000 0)],Gt r⟩
theorem N1 {n b c r}(a:Jw n b c=some r):ConG E0.P none (CalF E0.P 8 0) [aI b,.ptr 100000 0] [] (z0k b c) (Hx r) (Gt r):=by
 unfold Jw at a;refine bB (E:=(E0p 2)) (caps:=[]) _ Tryz.func8 rfl rfl rfl rfl rfl ?_;repeat' first
  |refine aL ?_;conv=>whnf
  |refine aO a (fun a=>?_) fun a=>?_
  |refine Ac.t ?_
  |refine Ac.f ?_
  |exact GX.A (res:=Hx) (meF:=Gt) a z0j
  |refine AndA ?_
  |refine EqX.A ?_
instance zns {n a}:CI E0 (Tk n a) true 110 [A6 a] (fun r=>.bool (r)):=by unfold Tk;exact aC [] Tryz.func110
instance zt7 {n a}:CI E0 (U7 n a) true 67 [A6 a] C3:=by unfold U7;exact aC [] Tryz.func67
instance znw {n b a}:CI E0 (Tm n b a) true 111 [A6 b,A6 a] aI:=by unfold Tm;exact aC [] Tryz.func111
instance zsz {n a}:CI E0 (M9 n a) true 112 [A6 a] Lr:=by unfold M9;exact aC [] Tryz.func112
theorem zqg (a b:Ix):eqK (Lr a) (Lr b)=some (decide (a=b)):=by cases a;cases b;simp [Lr,eqK,eqL,eq1,aI,Qg]
instance zo4 {n d}:CI E0 (Tp n d) true 65 [.sl 5 (d.map A6)] aI:=⟨fun {r} c=>by
 unfold Tp at c;refine cw Tryz.func65 ?_;repeat' first
  |refine aL ?_;conv=>whnf
  |refine aO c (fun c=>?_) fun c=>?_
  |refine Ac.f ?_
  |refine aG c fun x c=>?_
  |refine bA c fun a c=>?_
  |refine LkX.o Lr AV.bool c (by first|rfl|kernel_rfl) zqg (by repeat' first|exact Sub.nil _|exact Sub.refl _|refine Sub.agg ?_|refine Sub.tup ?_|refine Sub.fn ?_|exact SubL.nil|refine SubL.cons ?_ ?_|refine Sub.sl _ ?_|exact SubE.nil|refine SubE.cons ?_ ?_) (fun v b c=>?_)
  |refine UpX.o Lr AV.bool c (by first|rfl|kernel_rfl) zqg (by repeat' first|exact Sub.nil _|exact Sub.refl _|refine Sub.agg ?_|refine Sub.tup ?_|refine Sub.fn ?_|exact SubL.nil|refine SubL.cons ?_ ?_|refine Sub.sl _ ?_|exact SubE.nil|refine SubE.cons ?_ ?_) (fun l c=>?_)
  |exact ⟨_,c,aA []⟩
  |refine aR c (aA []) fun m v c=>?_
  |refine AndA ?_
  |exact aB c⟩
instance zwk {n a}:CI E0 (Qi n a) true 90 [A6 a] C3:=by unfold Qi;exact aC [] Tryz.func90
theorem zub (a b:Bt):eqK (C3 a) (C3 b)=some (decide (a=b)):=by cases a;cases b;simp [C3,eqK,eqL,eq1,aI,Qg]
def Wf:Option Bg->AV |none=>.nilp |some x=>.ref [aI (x.fa.fVars),aI (x.fa.fScopes),.sl 1 (x.fa.fStates.map B6),.sl 17 (x.fa.fEdges.map Ax),.mapv (List.map (encM C3 A6) (x.fheld))]
def Ze (r:(Option Bg)×Int):AV:=.tup [Wf (r.1),aI (r.2)]
instance zei {n d c}:CI E0 (Qa n d c) false 54 [C1 d,.sl 5 (c.map A6)] (fun r=>.tup [Wf (r.1),aI r.2]):=⟨fun {r} b=>by
 unfold Qa at b;refine cw Tryz.func54 ?_;repeat' first
  |refine aL ?_;conv=>whnf
  |refine aO b (fun b=>?_) fun b=>?_
  |refine bA b fun a b=>?_
  |refine aG b fun x b=>?_
  |refine OpX.nckP rfl rfl rfl rfl rfl ?_
  |refine UpX.o C3 A6 b (by first|rfl|kernel_rfl) zub (by repeat' first|exact Sub.nil _|exact Sub.refl _|refine Sub.agg ?_|refine Sub.tup ?_|refine Sub.fn ?_|exact SubL.nil|refine SubL.cons ?_ ?_|refine Sub.sl _ ?_|exact SubE.nil|refine SubE.cons ?_ ?_) (fun l b=>?_)
  |exact ⟨_,b,aA []⟩
  |refine aR b (aA []) fun m v b=>?_
  |refine AndA ?_
  |exact aB b⟩
instance zt0 {n}:CI E0 (U4 n) false 55 [] Ak:=by unfold U4;exact aC [] Tryz.func55
def z6g (c:Bg)(b:A4)(a:A7):List (Nat×Ent):=[]
def Vi (r:Bg×A4×A7):List (Nat×Ent):=[(3,.box 121 [.ref [aI r.1.fa.fVars,aI r.1.fa.fScopes,.sl 1 (r.1.fa.fStates.map B6),.sl 17 (r.1.fa.fEdges.map Ax),.mapv (List.map (encM C3 A6) (r.1.fheld))]]),(4,.box 99 (Co r.2.1)),(5,.box 59 (Cc r.2.2))]
def Ys (r:Bg×A4×A7):AV:=.fn 128 [.ptr 3 0,.ptr 4 0,.ptr 5 0]
def z67 (r:Bg×A4×A7):AS:=⟨[(6,.fn 128 [.ptr 3 0,.ptr 4 0,.ptr 5 0])],Vi r⟩
theorem z4d {n a c b r}(d:Vq n a c b=some r):ConG E0.P none (CalF E0.P 91 0) [.ref [aI a.fa.fVars,aI a.fa.fScopes,.sl 1 (a.fa.fStates.map B6),.sl 17 (a.fa.fEdges.map Ax),.mapv (List.map (encM C3 A6) (a.fheld))],Ak c,A6 b] [] (z6g a c b) (Ys r) (Vi r):=by
 unfold Vq at d;refine bB (E:=(E0p 3)) (caps:=[]) _ Tryz.func91 rfl rfl rfl rfl rfl ?_;repeat' first
  |refine aL ?_;conv=>whnf
  |exact GX.A (res:=Ys) (meF:=Vi) d z67
def z3n (b:(List A4))(a:(List A8)):List (Nat×Ent):=[(100000,.box 66 [.row 200000]),(200000,.row 99 3 (b.map Ak)),(100001,.box 49 [.row 200001]),(200001,.row 91 1 (a.map Ap))]
def Kf (r:(List A4)×(List A8)):List (Nat×Ent):=[(100000,.box 66 [.row 250000]),(250000,.row 99 3 (r.1.map Ak)),(100001,.box 49 [.row 250001]),(250001,.row 91 1 (r.2.map Ap))]
def z05 (r:(List A4)×(List A8)):AS:=⟨[(8,.ptr 100000 0),(9,.ptr 100001 0)],Kf r⟩
end
noncomputable section
abbrev z11 {n a a0f2 a0f1 a0f0}:=jf (K0 n a a0f2 a0f1 a0f0) (fun b=>⟨[(1,aI a),(2,.ptr 2 0),(14,.bool (b))],[(2,.box 337 [.sl 1 (List.map (fun q=>AV.sl 5 (List.map A6 q)) (a0f0.fVars)),aI a0f1,aI a0f2.fSource,aI a0f2.fSeq,aI a0f2.fType,aI a0f2.fTime,.sl 3 (a0f2.fValues.map Aa),.mapv [(aI 5,.fn 288 [.ref [.fn 287 []]]),(aI 6,.fn 289 [.ref [.fn 287 []]]),(aI 7,.fn 290 []),(aI 8,.fn 291 []),(aI 10,.fn 292 []),(aI 11,.fn 293 []),(aI 12,.fn 294 [])]])]⟩) fun _=>K0.eq_1 ..
abbrev z1r {n d a b}:=li (Nj n d a b) (fun c=>⟨[(3,.ptr 3 0),(4,.ptr 4 0),(6,.row 7034),(14,.sl 5 (a.map A6)),(15,aI (((a.map A6).length:Int))),(16,aI c.1)],[(3,.box 42 (Ck d)),(4,.box 40 [aI 0,aI 0,.str (ByteArray.empty)]),(7034,.row 40 3 (c.2.map Aa))]⟩) fun _ _=>Nj.eq_2 ..
abbrev z2c {n a}:=jt (Kd n a) (fun b=>⟨[(4,.ptr 4 0),(8,.ptr 8 0),(9,aI b)],[(4,.box 40 [aI 0,aI 0,.str (ByteArray.empty)]),(8,.box 40 (Cb a.1))]⟩) fun _=>Kd.eq_1 ..
abbrev z2d {n a}:=jt (Ke n a) (fun b=>⟨[(3,.ptr 3 0),(4,.ptr 4 0),(7,.ptr 7 0)],[(3,.box 42 (Ck a)),(4,.box 40 [aI 0,aI 0,.str (ByteArray.empty)]),(7,.box 59 [aI b.1,aI b.2.1,aI b.2.2.1,aI b.2.2.2.1,.sl 3 (b.2.2.2.2.map Aa)])]⟩) fun _=>Ke.eq_1 ..
abbrev z7s {n a f b c d}:=jt (Iv n a f b c d) (fun e=>⟨[(0,aI f),(1,.sl 1 (a.map aI)),(6,aI d),(7,.bool (true)),(8,.sl 1 (a.map aI)),(9,aI (((a.map aI).length:Int))),(10,aI b),(14,aI f),(22,.bool (e))],[]⟩) fun _=>Iv.eq_1 ..
abbrev z7t {n a f b c d}:=jt (Hb n a f b c d) (fun e=>⟨[(0,aI f),(1,.sl 1 (a.map aI)),(6,aI d),(7,.bool (true)),(8,.sl 1 (a.map aI)),(9,aI (((a.map aI).length:Int))),(10,aI b),(14,aI f),(15,.bool (e))],[]⟩) fun _=>Hb.eq_1 ..
abbrev z7r {n a d b}:=li (Gc n a d b) (fun c=>⟨[(0,aI d),(1,.sl 1 (a.map aI)),(8,.sl 1 (a.map aI)),(9,aI (((a.map aI).length:Int))),(10,aI c)],[]⟩) fun _ _=>Gc.eq_2 ..
abbrev z5e {n}:=jf (L7 n) (fun b=>⟨[(4,.ptr 4 0)],[(4,.box 40 [aI b.1,aI b.2.1,.str (b.2.2)])]⟩) fun _=>L7.eq_1 ..
abbrev z5d {n}:=jf (L6 n) (fun b=>⟨[(4,.ptr 4 0)],[(4,.box 40 [aI b.1,aI b.2.1,.str (b.2.2)])]⟩) fun _=>L6.eq_1 ..
abbrev z2e {n b a a0f2 a0f1 a0f0 d}:=li (Nt n b a a0f2 a0f1 a0f0 d) (fun c=>⟨[(2,.ptr 2 0),(3,.ptr 3 0),(4,.ptr 4 0),(6,.row 7042),(7,.row 7047),(23,.sl 8 (a.fArgs.map idA)),(24,aI (((a.fArgs.map idA).length:Int))),(25,aI c.1)],[(2,.box 337 [.sl 1 (List.map (fun q=>AV.sl 5 (List.map A6 q)) (a0f0.fVars)),aI a0f1,aI a0f2.fSource,aI a0f2.fSeq,aI a0f2.fType,aI a0f2.fTime,.sl 3 (a0f2.fValues.map Aa),.mapv [(aI 5,.fn 288 [.ref [.fn 287 []]]),(aI 6,.fn 289 [.ref [.fn 287 []]]),(aI 7,.fn 290 []),(aI 8,.fn 291 []),(aI 10,.fn 292 []),(aI 11,.fn 293 []),(aI 12,.fn 294 [])]]),(3,.box 42 (Ck a)),(4,.box 40 [aI 0,aI 0,.str (ByteArray.empty)]),(7042,.row 40 3 (c.2.1.map Aa)),(7047,.row 3 1 (c.2.2.map aI))]⟩) fun _ _=>Nt.eq_2 ..
attribute [instance] z11 z1r z2c z2d z7s z7t z7r z5e z5d z2e
instance zko {n c d}:CI E0 (Tb n c d) false 129 [.ref [aI c.fa.fVars,aI c.fa.fScopes,.sl 1 (c.fa.fStates.map B6),.sl 17 (c.fa.fEdges.map Ax),.mapv (List.map (encM C3 A6) (c.fheld))],.sl 4 (d.map B9)] Dw:=⟨fun {r} a=>by
 unfold Tb at a;refine cw Tryz.func129 ?_;repeat' first
  |refine AW.nstO (er:=A6) 59 5 a 13 rfl (fun a=>?_)
  |refine AW.frrO (ety:=59) (sz:=5) A6 a 13 rfl (fun a=>?_)
  |refine aH a fun a=>?_
  |refine aD [7,2] ?_;conv=>whnf
  |refine aO a (fun a=>?_) fun a=>?_
  |refine OpX.nckR rfl rfl rfl rfl ?_
  |refine MakX.on a (fun m a=>?_)
  |refine aG a fun x a=>?_
  |refine OpX.ixc a rfl rfl rfl rfl rfl rfl rfl rfl (fun a=>?_)
  |refine OpX.ntk A6 a rfl rfl rfl rfl rfl rfl rfl rfl rfl rfl (fun q a=>?_)
  |refine OpX.lkv C3 A6 a zub rfl rfl rfl rfl rfl rfl rfl rfl rfl rfl (by first|rfl|kernel_rfl) (by repeat' first|exact Sub.nil _|exact Sub.refl _|refine Sub.agg ?_|refine Sub.tup ?_|refine Sub.fn ?_|exact SubL.nil|refine SubL.cons ?_ ?_|refine Sub.sl _ ?_|exact SubE.nil|refine SubE.cons ?_ ?_) (fun v b a=>?_)
  |refine aP a fun l a=>?_
  |refine OpX.npt A6 a rfl rfl rfl rfl rfl rfl rfl rfl rfl rfl rfl (fun l a=>?_)
  |exact ⟨_,a,aA []⟩
  |refine aR a (aA []) fun m v a=>?_
  |refine AndA ?_
  |refine EqX.A ?_
  |exact aB a⟩
theorem z7c:Con E0 false 260 [] (.mapv [(aI 5,.fn 288 [.ref [.fn 287 []]]),(aI 6,.fn 289 [.ref [.fn 287 []]]),(aI 7,.fn 290 []),(aI 8,.fn 291 []),(aI 10,.fn 292 []),(aI 11,.fn 293 []),(aI 12,.fn 294 [])]):=by
 refine Con.walk _ cC rfl (B7 cC rfl rfl) rfl (Or.inl rfl) ?_;repeat' first
  |refine AW.frb0 1 rfl rfl ?_
  |refine AW.into ?_
  |refine aD [2] ?_;conv=>whnf
  |refine UpX.mk _ _ (by first|rfl|kernel_rfl) (by first|rfl|kernel_rfl) (SubM.refl _) ?_
  |exact RetX.mk rfl
instance zag {n a0f0 a0f1 a0f2 b}:CI E0 (O9 n a0f0 a0f1 a0f2 b) false 313 [.agg [.sl 1 (List.map (fun q=>AV.sl 5 (List.map A6 q)) (a0f0.fVars)),aI a0f1,aI a0f2.fSource,aI a0f2.fSeq,aI a0f2.fType,aI a0f2.fTime,.sl 3 (a0f2.fValues.map Aa),.mapv [(aI 5,.fn 288 [.ref [.fn 287 []]]),(aI 6,.fn 289 [.ref [.fn 287 []]]),(aI 7,.fn 290 []),(aI 8,.fn 291 []),(aI 10,.fn 292 []),(aI 11,.fn 293 []),(aI 12,.fn 294 [])]],aI b] (fun r=>.sl 5 (r.map A6)):=⟨fun {r} a=>by
 unfold O9 at a;refine cw Tryz.func313 ?_;repeat' first
  |refine bP a (fun v a=>?_) fun a=>?_
  |refine aH a fun a=>?_
  |refine aD [1] ?_;conv=>whnf
  |refine aO a (fun a=>?_) fun a=>?_
  |refine IdxX.o (fun q=>AV.sl 5 (List.map A6 q)) a fun x a=>?_
  |exact ⟨_,a,aA []⟩
  |exact aB a⟩
instance zrf {n b a}:CI E0 (M7 n b a) true 315 [A6 b,aI a] (fun r=>.tup [Aa r.1,aI r.2]):=by unfold M7;exact aC [] Tryz.func315
instance zbf {n a0f0 a0f1 a0f2 c}:CI E0 (Vf n a0f0 a0f1 a0f2 c) true 314 [.agg [.sl 1 (List.map (fun q=>AV.sl 5 (List.map A6 q)) (a0f0.fVars)),aI a0f1,aI a0f2.fSource,aI a0f2.fSeq,aI a0f2.fType,aI a0f2.fTime,.sl 3 (a0f2.fValues.map Aa),.mapv [(aI 5,.fn 288 [.ref [.fn 287 []]]),(aI 6,.fn 289 [.ref [.fn 287 []]]),(aI 7,.fn 290 []),(aI 8,.fn 291 []),(aI 10,.fn 292 []),(aI 11,.fn 293 []),(aI 12,.fn 294 [])]],Al c] (fun r=>.tup [Aa r.1,aI r.2]):=⟨fun {r} b=>by
 unfold Vf at b;refine cw Tryz.func314 ?_;repeat' first
  |refine aL ?_;conv=>whnf
  |refine aO b (fun b=>?_) fun b=>?_
  |refine bA b fun a b=>?_
  |refine Be.I b (fun a b=>?_) rfl rfl fun _=>aW rfl
  |refine aG b fun x b=>?_
  |refine aP b fun l b=>?_
  |exact ⟨_,b,aA [(7034,34)]⟩
  |refine aR b ?_ fun m v b=>?_
  |exact aS (aT 6 7034 40 3 rfl rfl) (aA [])
  |exact aB b⟩
instance zcp {n a0f0 a0f1 a0f2 a}:CI E0 (P1 n a0f0 a0f1 a0f2 a) true 295 [.agg [.sl 1 (List.map (fun q=>AV.sl 5 (List.map A6 q)) (a0f0.fVars)),aI a0f1,aI a0f2.fSource,aI a0f2.fSeq,aI a0f2.fType,aI a0f2.fTime,.sl 3 (a0f2.fValues.map Aa),.mapv [(aI 5,.fn 288 [.ref [.fn 287 []]]),(aI 6,.fn 289 [.ref [.fn 287 []]]),(aI 7,.fn 290 []),(aI 8,.fn 291 []),(aI 10,.fn 292 []),(aI 11,.fn 293 []),(aI 12,.fn 294 [])]],Al a] (fun r=>.tup [Aa r.1,aI r.2]):=by unfold P1;exact aC [10,17] Tryz.func295
instance znv {n b a}:CI E0 (Wb n b a) true 296 [aI b,.sl 1 (a.map aI)] aI:=by unfold Wb;exact aC [6,7,8,11,12,15] Tryz.func296
instance zra {n a}:CI E0 (Wl n a) true 262 [.bool (a)] Aa:=by unfold Wl;exact aC [] Tryz.func262
instance zt3 {n a}:CI E0 (E9 n a) true 225 [.bool (a)] Aa:=by unfold E9;exact aC [] Tryz.func225
instance zi2 {n a}:CI E0 (T5 n a) true 287 [aI a] Aa:=by unfold T5;exact aC [] Tryz.func287
instance zi1 {n b a}:CI E0 (T4 n b a) true 288 [aI b,aI a,.ref [.fn 287 []]] Aa:=by unfold T4;exact aC [] Tryz.func288
instance zi0 {n b a}:CI E0 (Sy n b a) true 289 [aI b,aI a,.ref [.fn 287 []]] Aa:=by unfold Sy;exact aC [] Tryz.func289
instance zhz {n b a}:CI E0 (Sx n b a) true 290 [aI b,aI a] Aa:=by unfold Sx;exact aC [] Tryz.func290
instance zhy {n b a}:CI E0 (Sw n b a) true 291 [aI b,aI a] Aa:=by unfold Sw;exact aC [] Tryz.func291
instance zhx {n b a}:CI E0 (Sv n b a) true 292 [aI b,aI a] Aa:=by unfold Sv;exact aC [1] Tryz.func292
instance zhw {n b a}:CI E0 (Su n b a) true 293 [aI b,aI a] Aa:=by unfold Su;exact aC [1] Tryz.func293
instance zhv {n b a}:CI E0 (Lp n b a) true 294 [aI b,aI a] Aa:=by unfold Lp;exact aC [] Tryz.func294
def z5j (r:A5×Int):AV:=.tup [.agg [aI (r.1.fKind),aI (r.1.fNum),.str (r.1.fText)],aI (r.2)]
end
noncomputable section
abbrev z9t {n}:=jf (M0 n) (fun b=>⟨[(8,.bool (b))],[]⟩) fun _=>M0.eq_1 ..
abbrev z80 {n}:=jf (Lt n) (fun b=>⟨[(6,.bool (b))],[]⟩) fun _=>Lt.eq_1 ..
abbrev z1o {n b c a d}:=li (Nh n b c a d) (fun e=>⟨[(0,.sl 11 (a.map B0)),(1,.fn 130 [.ref (Dx c),.ref (Cc b)]),(7,aI (((a.map B0).length:Int))),(8,aI e)],[]⟩) fun _ _=>Nh.eq_2 ..
abbrev z1q {n}:=jf (K4 n) (fun b=>⟨[(5,.bool (b))],[]⟩) fun _=>K4.eq_1 ..
abbrev z1n {n b c d a e}:=li (Ng n b c d a e) (fun f=>⟨[(0,.sl 11 (a.map B0)),(1,.fn 183 [.ref (C4 d),.ref (Dx c),.ref (Cc b)]),(7,aI (((a.map B0).length:Int))),(8,aI f)],[]⟩) fun _ _=>Ng.eq_2 ..
abbrev z0p {n d a b}:=li (Jy n d a b) (fun c=>⟨[(0,.sl 2 (a.map Ae)),(1,aI d),(2,.fn 228 []),(8,aI (((a.map Ae).length:Int))),(9,aI c.1),(10,aI c.2)],[]⟩) fun _ _=>Jy.eq_2 ..
abbrev z8w {n f a b c d}:=jt (Lx n f a b c d) (fun e=>⟨[(2,aI f),(7,.row 7033),(10,aI d.1),(14,.sl 1 (a.map aI)),(15,aI (((a.map aI).length:Int))),(16,aI b.1)],[(7033,.row 232 2 (e.map Ae))]⟩) fun _=>Lx.eq_1 ..
abbrev z8v {n d a b}:=li (Iy n d a b) (fun c=>⟨[(2,aI d),(7,.row 7013),(14,.sl 1 (a.map aI)),(15,aI (((a.map aI).length:Int))),(16,aI c.1)],[(7013,.row 232 2 (c.2.map Ae))]⟩) fun _ _=>Iy.eq_2 ..
abbrev z1m {n b a c}:=li (Nf n b a c) (fun d=>⟨[(0,.sl 2 (a.map Ae)),(1,.fn 231 [.ref (Wp b)]),(7,aI (((a.map Ae).length:Int))),(8,aI d)],[]⟩) fun _ _=>Nf.eq_2 ..
attribute [instance] z9t z80 z1o z1q z1n z0p z8w z8v z1m
theorem z1s {n a0f0 a0f1 a0f2 c r}(b:H4 n a0f0 a0f1 a0f2 c=some r):Con E0 true 261 [.agg [.sl 1 (List.map (fun q=>AV.sl 5 (List.map A6 q)) (a0f0.fVars)),aI a0f1,aI a0f2.fSource,aI a0f2.fSeq,aI a0f2.fType,aI a0f2.fTime,.sl 3 (a0f2.fValues.map Aa),.mapv [(aI 5,.fn 288 [.ref [.fn 287 []]]),(aI 6,.fn 289 [.ref [.fn 287 []]]),(aI 7,.fn 290 []),(aI 8,.fn 291 []),(aI 10,.fn 292 []),(aI 11,.fn 293 []),(aI 12,.fn 294 [])]],Al c] (.tup [Aa r.1,aI r.2]):=by
 induction n generalizing a0f0 a0f1 a0f2 c r
 case zero=>cases b
 case succ n d =>
 unfold H4 at b;refine cw Tryz.func261 ?_;repeat' first
  |refine aL ?_;conv=>whnf
  |refine aO b (fun b=>?_) fun b=>?_
  |refine bA b fun a b=>?_
  |refine Be.I b (fun a b=>?_) rfl rfl fun _=>aW rfl
  |refine NatX.o b (fun m b=>?_)
  |refine EltX.o Aa b (fun x b=>?_)
  |refine OpX.lkc rfl rfl rfl rfl rfl rfl rfl rfl rfl rfl (by first|rfl|kernel_rfl) ?_
  |refine LkC.cons b (fun b=>?_) (fun b=>?_)
  |(cases b;done)
  |refine LtX.o b (fun b=>?_)
  |refine bZ b Dn (fun x b=>?_)
  |refine Ag.o b z5j (fun a h=>d h) (fun a b=>?_)
  |refine aP b fun l b=>?_
  |exact ⟨_,b,aA [(7042,42),(7047,47)]⟩
  |refine aR b ?_ fun m v b=>?_
  |exact aS (aT 6 7042 40 3 rfl rfl) (aS (aT 7 7047 3 1 rfl rfl) (aA []))
  |refine AndA ?_
  |refine EqX.A ?_
  |exact aB b
instance zcq {n a0f0 a0f1 a0f2 a}:CI E0 (H4 n a0f0 a0f1 a0f2 a) true 261 [.agg [.sl 1 (List.map (fun q=>AV.sl 5 (List.map A6 q)) (a0f0.fVars)),aI a0f1,aI a0f2.fSource,aI a0f2.fSeq,aI a0f2.fType,aI a0f2.fTime,.sl 3 (a0f2.fValues.map Aa),.mapv [(aI 5,.fn 288 [.ref [.fn 287 []]]),(aI 6,.fn 289 [.ref [.fn 287 []]]),(aI 7,.fn 290 []),(aI 8,.fn 291 []),(aI 10,.fn 292 []),(aI 11,.fn 293 []),(aI 12,.fn 294 [])]],Al a] (fun r=>.tup [Aa r.1,aI r.2]):=⟨z1s⟩
instance zt6 {n f e d c}:CI E0 (Wq n f e d c) true 224 [Al f,Dw e,aI d,A6 c] (fun r=>.tup [Aa r.1,aI r.2]):=⟨fun {r} b=>by
 unfold Wq at b;refine cw Tryz.func224 ?_;repeat' first
  |refine aL ?_;conv=>whnf
  |refine aO b (fun b=>?_) fun b=>?_
  |refine bA b fun a b=>?_
  |refine Ag.mk _ _ z7c ?_
  |refine AndA ?_
  |exact aB b⟩
def ziq (r:Bool):AV:=.bool (r)
instance zbg {n d c b a}:CI E0 (J3 n d c b a) true 182 [Al d,Dw c,aI b,A6 a] (fun r=>.bool (r)):=by unfold J3;exact aC [2] Tryz.func182
instance zo6 {n c b a}:CI E0 (Q4 n c b a) true 131 [B0 c,Dw b,A6 a] (fun r=>.bool (r)):=by unfold Q4;exact aC [1] Tryz.func131
instance z9x {n c b a}:CI E0 (Kc n c b a) true 130 [B0 c,.ref (Dx b),.ref (Cc a)] (fun r=>.bool (r)):=by unfold Kc;exact aC [] Tryz.func130
instance zba {n a b c}:CI E0 (Rw n a b c) true 122 [.sl 11 (a.map B0),.fn 130 [.ref (Dx b),.ref (Cc c)]] aI:=by unfold Rw;exact aC [] cD
instance z8s {n a b c}:CI E0 (Rk n a b c) true 75 [.sl 11 (a.map B0),.fn 130 [.ref (Dx b),.ref (Cc c)]] (fun r=>.bool (r)):=by unfold Rk;exact aC [] cI
instance zbe {n d c b a}:CI E0 (Ij n d c b a) true 183 [B0 d,.ref (C4 c),.ref (Dx b),.ref (Cc a)] (fun r=>.bool (r)):=by unfold Ij;exact aC [1] Tryz.func183
instance zb9 {n a b c d}:CI E0 (Rv n a b c d) true 122 [.sl 11 (a.map B0),.fn 183 [.ref (C4 b),.ref (Dx c),.ref (Cc d)]] aI:=by unfold Rv;exact aC [] cD
instance z8r {n a b c d}:CI E0 (Rj n a b c d) true 75 [.sl 11 (a.map B0),.fn 183 [.ref (C4 b),.ref (Dx c),.ref (Cc d)]] (fun r=>.bool (r)):=by unfold Rj;exact aC [] cI
set_option maxHeartbeats 400000 in
theorem zib (l:List (Cel 2))(S:Nat->Prop)(v:Value)(w:World)(h:Sl w S 2 encC v l)(d:l.length<=1000000000) :
  Calls aE 226 #[v] w (Ms 232 2 encC l w):=by
 have eok:EOk aE 97 232 2 16 (encC (n:=2)):=eokC (sz:=2) (Ee 97 _ rfl) rfl (Ee 232 _ rfl) (by omega) rfl;obtain ⟨A,c,rfl,f,_⟩:=h.form;have a:=fun (W:World)=>Lib.run_eql_slice_nil W 97 232 A l.length c 0 0 aF
 have H:=hide h;cases A with
 |none =>
  have g:l=[]:=h.none_nil;subst g;clear h H d f;simp only [bD,aK] at a ⊢
  go_enter bF,bS
  go_wp2
  go_ret
  exact ⟨none,0,rfl,bR,by go_grown⟩
 |some ad =>
  clear h
  go_enter bF,bS
  go_wp2_with (at_builtin;refine Lw rfl _ _ rfl eok rfl aM rfl (H.out.alloc _) (by simp;omega) (by omega) (by simp) ?_;intro A' i w1 b e _)
  go_ret
  exact ⟨A',i,rfl,b,(aM (sz:=2) (enc:=encC (n:=2))).grown ((Below.refl _ _).alloc (aJ _) _) (aJ _) (by simp) e⟩
theorem zek {n a r}(b:Cl n a=some r):ConT E0 226 [.sl 2 (List.map Ae a)] 232 2 (List.map Ae r) (.row 0):=Qe rfl (B7 bF rfl rfl) zib b
instance zo7 {n b a}:CI E0 (M1 n b a) true 228 [Ae b,aI a] aI:=by unfold M1;exact aC [] Tryz.func228
instance z9w {n d c}:CI E0 (Ns n d c) true 227 [.sl 2 (d.map Ae),aI c,.fn 228 []] (fun r=>.tup [aI r.1,.bool (r.2)]):=⟨fun {r} b=>by
 unfold Ns at b;refine cw Tryz.func227 ?_;repeat' first
  |refine aL ?_;conv=>whnf
  |refine aO b (fun b=>?_) fun b=>?_
  |refine aG b fun x b=>?_
  |refine bA b fun a b=>?_
  |exact ⟨_,b,aA []⟩
  |refine ShX.o b (fun b=>?_)
  |refine aR b (aA []) fun m v b=>?_
  |exact aB b⟩
set_option maxRecDepth 100000 in
set_option maxHeartbeats 1600000 in
theorem zdo (l:List (Cel 2))(x:Cel 2)(i:Nat)(base:Nat)(A:Option Addr)(c g off c1:Nat)(w:World)(ho:Own w base 232 2 encC (.slice A l.length c) l)
  (N:Xk w g off (encC x)) (bo:1<=c1) (J:(Value.slice A l.length c).ownBlock≠some g) (hi:i<=l.length) (hl:l.length<=1000000000) (C:base<=w.heap.size) :
  Calls aE 229 #[.slice A l.length c,.int .i64 i,.slice (some ⟨g,off,none⟩) 1 c1] w (zr8 232 2 encC base (.slice A l.length c) (l.take i++x::l.drop i) w):=by
 have k:(l.take i++x::l.drop i).length=l.length+1:=by simp;omega
 have d:(encC x).length=2:=x.2.1;have eok:EOk aE 97 232 2 16 (encC (n:=2)):=eokC (sz:=2) (Ee 97 _ rfl) rfl (Ee 232 _ rfl) (by omega) rfl;by_cases bh:i=l.length
 ·subst bh;have bd:Hid (Sl w (fun _=>True) 2 encC (.slice (some ⟨g,off,none⟩) 1 c1) [x]):=Sl.one_x bo N;have H:=hide ho;have bg:Hid (l.take l.length++x::l.drop l.length=l++[x]):=by simp [Hid]
  have hc:l.length<=c:=by obtain ⟨_,_,he,h1,_⟩:=ho.val;injection he with _ _ hc;omega
  rw [bg.out];clear ho N J k
  go_enter aX,bC
  go_wp2_with (at_builtin;refine Lw (v:=.slice A l.length c) rfl _ _ rfl eok rfl H.out rfl bd.out (by simp;omega) (by omega) C ?_;intro A2 c2 w2 bf o aa)
  all_goals (go_ret;exact ⟨A2,c2,by simp,bf,by cases A<;>exact o,by cases A<;>exact aa⟩)
 ·rcases ho.2 with ⟨hv,h0⟩|⟨h,cap,r,hv,ar,hh,bx,aq,B,m⟩
  ·omega
  injection hv with hA _ bn
  subst hA;subst bn;have bk:h≠g:=fun e=>J (by simp [Value.ownBlock,e])
  have bz:i<l.length:=by omega
  have ad:((l.take i).flatMap encC).length=i*2:=by rw [Za (sz:=2) (fun y=>y.2.1)];simp;omega
  have L:((l.drop i).flatMap encC).length=(l.length-i)*2:=by rw [Za (sz:=2) (fun y=>y.2.1)];simp
  have E:(l.take i).flatMap encC++(l.drop i).flatMap encC=l.flatMap encC:=by rw [<-flatMap_append,bO]
  have p:(l.take i++x::l.drop i).flatMap encC=(l.take i).flatMap encC++encC x++(l.drop i).flatMap encC:=by simp [flatMap_append,flatMap_cons]
  have h2:=zkf eok.one (l.drop i);have K:=eok.one x;have P:r.toList=(l.take i).flatMap encC++(l.drop i).flatMap encC++r.toList.drop (l.length*2):=by rw [E,<-m,bO]
  generalize ch:(l.take i).flatMap encC=F1 at *;generalize cg:(l.drop i).flatMap encC=F2 at *;generalize hX:encC x=X at *;have av:(r.toList.drop (l.length*2)).length=c*2-l.length*2:=by simp [B]
  generalize r.toList.drop (l.length*2)=R at *;obtain ⟨r⟩:=r;simp only at P;subst P;generalize hn:l.length=n at *;by_cases V:n+1<=c
  ·have bj:(i:Int)<(n:Int):=by omega
   have f:Blk w h 232 (F1++F2++R).toArray:=hh;have bw:∀ lb cb,(callFunc 263 #[.slice (some ⟨g,off,none⟩) 1 c1,.slice (some ⟨h,(i+1)*2,none⟩) lb cb]).run aE w=.ok (.value (.bool false)) w:=fun lb cb=>by
    rw [run_callFunc_extern Tryz.func263 (by kernel_rfl) (by kernel_rfl) (by kernel_rfl) (e:=Extern.SlicesOverlaps.overlaps #[97,97] #[4]) (by kernel_rfl),
     zak w 97 4 232 aF 2 (fun _=>by kernel_rfl) ⟨g,off,none⟩ ⟨h,(i+1)*2,none⟩ 1 c1 lb cb (fun e=>bk e.symm) N.shape 232 (F1++F2++R).toArray.size (f.shape) (by rw [size_toArray,length_append,length_append];omega) (f.frozen _) (f.frozen _)]
    rfl
   have bt:=hide f;have bb:=hide N;have bm:Hid (F2.length=bG (n+1-i) (n-i)*2):=by unfold Hid;rw [show bG (n+1-i) (n-i)=n-i from Nat.min_eq_right (by omega)];exact L
   have s:Hid (∀ (W:World),W.heap=w.heap->∀ j u,F2[j]? = some u->W.cell? ((⟨h,i*2,none⟩:Addr).add j)=some u):=fun W hW j u I=>by
    have e:Blk W h 232 (F1++F2++R).toArray:=by unfold Blk;rw [hW];exact f
    rw [Addr.add_lit,e.cell];have hj:=(List.getElem?_eq_some_iff.1 I).1;simp only [aV];rw [bL,aZ (by omega),aN (by omega),show i*2+j-F1.length=j by omega];exact I
   have bq:=hide h2;have HL:=hide (aU k (aU p (aU ar B)));have d:=hide d;clear N f hh m J E B ho h2 k p
   go_enter aX,bC
   go_wp2_with fail
   have T:IntKind.i64.wrap ((i:Int)+1)=(i:Int)+1:=by rw [IntKind.wrap_i64];omega
   have ab:(0:Int)<=(i:Int)+1:=by omega
   have bi:i<=n:=by omega
   have U:((i:Int)+1).toNat=i+1:=by omega
   have aa:¬(c=i+1):=by omega
   have au:(i:Int)<=(n:Int)+1:=by omega
   have cj:¬(c=i):=by omega
   go_region_law (refine z7i rfl _ _ 97 97 rfl 232 2 aF (by kernel_rfl) h ((i+1)*2) (n-i) (c-(i+1)) (n+1-i) (c-i) ⟨h,i*2,none⟩ (by simp [Act.eval,Act.put]) (by simp [Act.eval,Act.put]) 232 (F1++F2++R) bt.out F2 bm.out (s.out _ rfl) (by simp;omega) bq.out ?_;intro w1 F Y)
   clear T ab U aa;have az:Hid (Blk w1 h 232 ((F1++F2++R).take (i*2+2)++F2++(F1++F2++R).drop (i*2+2+F2.length)).toArray):=by
    have e:(i+1)*2=i*2+2:=by omega
    rw [e] at F;exact F
   have ac:Hid (∀ j u,X[j]? = some u->w1.cell? ((⟨g,off,none⟩:Addr).add j)=some u):=fun j u I=>by
    have e:Xk w1 g off X:=Xk.grown (w:=w.drew) bb.out Y (by simp;omega);rw [Addr.add_lit];exact e.cell I
   have ap:=hide (Yy Y);have D:=hide K;clear F Y K
   go_wp2_with (refine z5k rfl (.tmp 80) (.tmp 81) 97 97 rfl 232 2 aF (by kernel_rfl) h (i*2) (n+1-i) (c-i) 1 c1 ⟨g,off,none⟩ rfl rfl 232 _ az.out X (by rw [show bG 1 (n+1-i)=1 from bQ (by omega)];exact d.out) ac.out (by have:=d.out;have:=av;simp;omega) D.out ?_;intro w2 M o)
   go_ret
   have a:=HL.out;refine ⟨some ⟨h,0,none⟩,c,by show Ending.returned (.slice (some ⟨h,0,none⟩) (n+1) c)=_;rw [a.1],Own.of_blk M a.2.2.1 (by rw [a.1];exact V) aq (by have:=d.out;have:=av;simp;omega) ?_ (fun y=>y.2.1),z7p ap.out o,Or.inl rfl⟩;rw [a.1,a.2.1,<-z9o F1 F2 R X (i*2) 2 ((n-i)*2) ad L d.out (by omega)];congr 1;omega
  ·have f:Blk w h 232 (F1++F2++R).toArray:=hh;obtain ⟨i0,z,al,ah,af,S,ag⟩:=eok.inf;have ak:i+(n+1-i)=n+1:=by omega
   have aj:(n:Int)+1-(i:Int)=((n+1-i:Nat):Int):=by omega
   have ce:h < w.heap.size:=f.lt;have cd:g<w.heap.size:=N.lt;have O:(Builtin.firstCells i0.size i (.slice (some ⟨h,0,none⟩) i c)).run aE w.drew=.ok F1.toArray w.drew:=by
    rw [af];refine run_firstCells_some w.drew 2 i ⟨h,0,none⟩ i c F1 ad (fun j v hj=>?_);have ca:=(List.getElem?_eq_some_iff.1 hj).1;rw [Addr.add_lit];refine (f.cell _).trans ?_;simp only [aV,Nat.zero_add];rw [bL,aN (by omega)];exact hj
   have t:=fun ty=>Lib.run_append_grow_zeros w 97 3 ty 232 i0 z .i64 .i64 eok.und Tryz.underlying3 al ah (some ⟨h,0,none⟩) i c F1 O (n+1-i) (by omega) (by omega) (by omega) (by omega) (by rw [S];omega) (by rw [S,ak];exact growslice_fits (by omega) (by omega))
   rw [ak] at t;obtain ⟨G,hG⟩:∃ G,G=grownCap w (n+1) c 232:=⟨_,rfl⟩;rw [<-hG] at t;have br:n+1<=G:=by rw [hG];exact grownCap_ge w _ _ _
   have Q:G<=maxLen:=by rw [hG];exact grownCap_le_maxLen w (n+1) c 232 (by unfold maxLen;omega)
   obtain ⟨Z,hZ,ck⟩:∃ Z:List Value,F1.toArray++Builtin.zeroCells z.cells (n+1-i)++Builtin.zeroCells z.cells (G-(n+1))=(F1++Z).toArray/\Z.length=(G-i)*2 :=
    ⟨(Builtin.zeroCells z.cells (n+1-i)).toList++(Builtin.zeroCells z.cells (G-(n+1))).toList,by simp [Array.append_assoc],by simp [size_zeroCells,ag];omega⟩
   rw [hZ] at t;obtain ⟨W1,q⟩:∃ W1,W1=w.drew.alloc (.cells (F1++Z).toArray 232):=⟨_,rfl⟩;have bs:Hid (Blk W1 w.heap.size 232 (F1++Z).toArray):=by rw [q];exact Blk.new w.drew _ _
   have ba:Hid (Xk W1 g off X):=by rw [q];exact Xk.alloc (w:=w.drew) N _
   have F:Hid (Blk W1 h 232 (F1++F2++R).toArray):=by rw [q];exact Blk.alloc (w:=w.drew) f _
   have bl:Hid (∀ b,W1.grownBy b (some w.heap.size)->∀ row,w.grownBy b row):=fun b hb row=>by
    rw [q] at hb;exact Yy (z7q hb row)
   have ai:Hid (∀ ty,(Builtin.append_ #[97,3] ty #[.slice (some ⟨h,0,none⟩) i c,.int .i64 ((n:Int)+1-(i:Int))]).run aE w=.ok (.slice (some ⟨w.heap.size,0,none⟩) (n+1) G) W1):=fun ty=>by
    rw [aj,q];exact t ty
   have ac:Hid (∀ j u,X[j]? = some u->W1.cell? ((⟨g,off,none⟩:Addr).add j)=some u):=fun j u I=>by
    rw [Addr.add_lit];exact ba.out.cell I
   have HL:=hide (aU k (aU p (aU ar B)));have d:=hide d;have D:=hide K;have bu:=hide h2;have aw:Hid (F2.length=bG (n-i) (n-i)*2):=by unfold Hid;rw [show bG (n-i) (n-i)=n-i from Nat.min_self _];exact L
   have bj:(i:Int)<(n:Int):=by omega
   have cc:(c:Int)<(n:Int)+1:=by omega
   have bi:i<=n:=by omega
   have ci:¬(c=i):=by omega
   have cm:¬(G=i):=by omega
   have bv:¬(G=i+1):=by omega
   have cl:G<=9223372036854775807:=by unfold maxLen at Q;omega
   clear N f hh m J E B ho h2 k p K t O q hZ hG aj af S ag ah al aq
   go_enter aX,bC
   go_wp2_with (first|(at_builtin;refine Lib.wpList_append_run _ rfl _ _ _ _ rfl _ _ rfl rfl _ _ (ai.out _) ?_)|(refine z5k rfl (.tmp 43) (.tmp 44) 97 97 rfl 232 2 aF (by kernel_rfl) w.heap.size (i*2) (n+1-i) (G-i) 1 c1 ⟨g,off,none⟩ rfl rfl 232 _ bs.out X (by rw [show bG 1 (n+1-i)=1 from bQ (by omega)];exact d.out) ac.out (by have:=d.out;simp;omega) D.out ?_;intro w2 M o))
   have cf:h≠w.heap.size:=by omega
   have s:Hid (∀ j u,F2[j]? = some u->w2.cell? ((⟨h,i*2,none⟩:Addr).add j)=some u):=fun j u I=>by
    have e:Blk w2 h 232 (F1++F2++R).toArray:=F.out.grown o (by simp;omega);rw [Addr.add_lit,e.cell];have hj:=(List.getElem?_eq_some_iff.1 I).1;simp only [aV];rw [bL,aZ (by omega),aN (by omega),show i*2+j-F1.length=j by omega];exact I
   have ao:=hide o;have ay:=hide M;have T:IntKind.i64.wrap ((i:Int)+1)=(i:Int)+1:=by rw [IntKind.wrap_i64];omega
   have ab:(0:Int)<=(i:Int)+1:=by omega
   have U:((i:Int)+1).toNat=i+1:=by omega
   have au:(i:Int)<=(n:Int):=by omega
   have bp:(i:Int)+1<=(n:Int)+1:=by omega
   clear o M
   go_region_law (refine z7i rfl _ _ 97 97 rfl 232 2 aF (by kernel_rfl) w.heap.size ((i+1)*2) (n-i) (G-(i+1)) (n-i) (c-i) ⟨h,i*2,none⟩ (by simp [Act.eval,Act.put]) (by simp [Act.eval,Act.put]) 232 _ ay.out F2 aw.out s.out (by have:=d.out;simp;omega) bu.out ?_;intro w3 ae an)
   clear T ab U au bp;have ax:Hid (Blk w3 w.heap.size 232 (((F1++Z).take (i*2)++X++(F1++Z).drop (i*2+X.length)).take (i*2+2)++F2++((F1++Z).take (i*2)++X++(F1++Z).drop (i*2+X.length)).drop (i*2+2+F2.length)).toArray):=by
    have e:(i+1)*2=i*2+2:=by omega
    rw [e] at ae;exact ae
   have am:=hide (Yy an);clear ae an
   go_wp2
   go_ret
   have a:=HL.out;have bc:=d.out;refine ⟨some ⟨w.heap.size,0,none⟩,G,by show Ending.returned (.slice (some ⟨w.heap.size,0,none⟩) (n+1) G)=_;rw [a.1],Own.of_blk ax.out C (by rw [a.1];exact br) Q (by simp;omega) ?_ (fun y=>y.2.1),bl.out _ (z7p ao.out am.out) _,aW rfl⟩;rw [a.1,a.2.1,<-zh2 F1 F2 Z X (i*2) 2 ((n-i)*2) ad L bc (by omega)];congr 1;omega
theorem zbh {n a v r i}(b:Qs n a i v=some r):ConC false E0 229 [.row 0,aI i,.sl 2 (List.map Ae v)] 232 2 (List.map Ae a) 232 2 (List.map Ae r) (.row 0):=znr rfl (B7 aX rfl rfl) (by omega) zdo b
def Z5 (r:(List Ah)):AV:=.row 0
theorem za1 {n e d c r}(b:Tx n e d c=some r):ConT E0 184 [.sl 2 (e.map Ae),.sl 1 (d.map aI),aI c] 232 2 (r.map Ae) (Z5 r):=by
 unfold Tx at b;refine ConT.walk _ cE rfl (B7 cE rfl rfl) rfl rfl ?_;repeat' first
  |refine AW.jI2 b (fun v b=>?_) fun b=>?_
  |refine aH b fun b=>?_
  |refine aD [6] ?_;conv=>whnf
  |refine aO b (fun b=>?_) fun b=>?_
  |refine bX b (fun r=>r) Ae (fun _=>AV.row 0) rfl (fun a h=>zek h) (fun a b=>?_)
  |refine aG b fun x b=>?_
  |refine Be.I b (fun a b=>?_) rfl rfl fun _=>aW rfl
  |refine NatX.o b (fun m b=>?_)
  |refine LtX.o b (fun b=>?_)
  |refine SetX.o Ae b (fun x=>rfl) (fun x=>(by first|exact SubL.refl _|(repeat' first|exact SubL.nil|refine SubL.cons ?_ ?_|exact Sub.refl _|exact Sub.nil _|refine Sub.agg ?_))) (fun l b=>?_)
  |exact ⟨_,b,aA [(7013,7033)]⟩
  |refine Be.oC b 7013 (fun r=>r) Ae (fun _=>AV.row 0) rfl (fun a h=>zbh h) rfl rfl rfl rfl rfl rfl (fun a b=>?_)
  |exact ⟨_,b,aA [(7033,33)]⟩
  |exact ⟨_,b,aA [(7033,7013)]⟩
  |refine aR b ?_ fun m v b=>?_
  |exact aA [(7013,13)]
  |refine TX.o (rl:=fun r=>r.map Ae) (res:=Z5) b ?_;exact TX.mk _ 7013 (LeX.refl _ _ _) _ rfl rfl (by repeat' first|exact Sub.nil _|exact Sub.refl _|refine Sub.agg ?_|refine Sub.tup ?_|refine Sub.fn ?_|exact SubL.nil|refine SubL.cons ?_ ?_|refine Sub.sl _ ?_|exact SubE.nil|refine SubE.cons ?_ ?_)
instance zo8 {n b a}:CI E0 (Tq n b a) true 231 [Ae b,.ref (Wp a)] (fun r=>.bool (r)):=by unfold Tq;exact aC [] Tryz.func231
end
noncomputable section
abbrev z8y {n e a f b c}:=jf (Ly n e a f b c) (fun d=>⟨[(0,.sl 2 (f.map Ae)),(2,aI e),(10,.sl 2 (a.map Bl)),(11,aI (((a.map Bl).length:Int))),(12,aI b),(32,.bool (d))],[]⟩) fun _=>Ly.eq_1 ..
abbrev z8x {n d a e b}:=li (Iz n d a e b) (fun c=>⟨[(0,.sl 2 (e.map Ae)),(2,aI d),(10,.sl 2 (a.map Bl)),(11,aI (((a.map Bl).length:Int))),(12,aI c)],[]⟩) fun _ _=>Iz.eq_2 ..
abbrev z1l {n b a c}:=li (Nd n b a c) (fun d=>⟨[(0,.sl 2 (a.map Ae)),(1,.fn 189 [.ref (C4 b)]),(7,aI (((a.map Ae).length:Int))),(8,aI d)],[]⟩) fun _ _=>Nd.eq_2 ..
abbrev z5c {n c}:=li (L5 n c) (fun b=>⟨[(0,.row 200001),(1,.fn 189 [.ptr 100000 0]),(5,aI b.1),(6,aI b.2.1)],[(100000,.box 46 [aI b.2.2.1,aI b.2.2.2.1,aI b.2.2.2.2.1,aI b.2.2.2.2.2.1,aI b.2.2.2.2.2.2.1,.sl 8 (b.2.2.2.2.2.2.2.1.map idA),aI b.2.2.2.2.2.2.2.2.1,aI b.2.2.2.2.2.2.2.2.2.1,aI b.2.2.2.2.2.2.2.2.2.2.1,aI b.2.2.2.2.2.2.2.2.2.2.2.1,aI b.2.2.2.2.2.2.2.2.2.2.2.2.1,.str (b.2.2.2.2.2.2.2.2.2.2.2.2.2.1),.sl 1 (b.2.2.2.2.2.2.2.2.2.2.2.2.2.2.1.map aI),.sl 1 (b.2.2.2.2.2.2.2.2.2.2.2.2.2.2.2.1.map aI),.sl 8 (b.2.2.2.2.2.2.2.2.2.2.2.2.2.2.2.2.1.map idA),.sl 2 (b.2.2.2.2.2.2.2.2.2.2.2.2.2.2.2.2.2.1.map Bl),.sl 1 (b.2.2.2.2.2.2.2.2.2.2.2.2.2.2.2.2.2.2.1.map aI)]),(200001,.row 232 2 (b.2.2.2.2.2.2.2.2.2.2.2.2.2.2.2.2.2.2.2.map Ae))]⟩) fun _ _=>L5.eq_2 ..
abbrev z3g {n f a g e c b}:=li (O6 n f a g e c b) (fun d=>⟨[(6,.ptr 6 0),(7,.ptr 7 0),(9,.ptr 9 0),(10,.ptr 10 0),(12,.row 52),(13,.ptr 13 0),(81,.sl 8 (a.fChecks.map idA)),(82,aI (((a.fChecks.map idA).length:Int))),(83,aI d)],[(6,.box 99 (Co g)),(7,.box 46 (C4 a)),(9,.box 59 (Cc f)),(10,.box 99 [aI 0,.nils,.nils]),(13,.box 223 [.row 63]),(52,.row 232 2 (e.map Ae)),(63,.row 26 1 (List.map (fun q=>AV.sl 5 (List.map A6 q)) (c)))]⟩) fun _ _=>O6.eq_2 ..
abbrev z3h {n a c d e}:=jf (G3 n a c d e) (fun b=>⟨[(6,.ptr 6 0),(7,.ptr 7 0),(8,.ptr 8 0),(9,.ptr 9 0),(10,.ptr 10 0),(44,.bool (b))],[(6,.box 99 (Co e)),(7,.box 46 (C4 d)),(8,.box 223 (Dx c)),(9,.box 59 (Cc a)),(10,.box 99 [aI 0,.nils,.nils])]⟩) fun _=>G3.eq_1 ..
attribute [instance] z8y z8x z1l z5c z3g z3h
instance zb8 {n a b}:CI E0 (Ru n a b) true 230 [.sl 2 (a.map Ae),.fn 231 [.ref (Wp b)]] aI:=by unfold Ru;exact aC [] cF
instance zrb {n e d c}:CI E0 (Ty n e d c) true 185 [.sl 2 (e.map Ae),.sl 2 (d.map Bl),aI c] (fun r=>.bool (r)):=⟨fun {r} b=>by
 unfold Ty at b;refine cw Tryz.func185 ?_;repeat' first
  |refine bP b (fun v b=>?_) fun b=>?_
  |refine aH b fun b=>?_
  |refine aD [5] ?_;conv=>whnf
  |refine aO b (fun b=>?_) fun b=>?_
  |refine aG b fun x b=>?_
  |refine Be.I b (fun a b=>?_) rfl rfl fun _=>aW rfl
  |exact ⟨_,b,aA []⟩
  |refine aR b (aA []) fun m v b=>?_
  |refine AndA ?_
  |exact aB b⟩
set_option maxHeartbeats 400000 in
theorem zie (l:List (Cel 1))(S:Nat->Prop)(v:Value)(w:World)(h:Sl w S 1 encC v l)(d:l.length<=1000000000) :
  Calls aE 186 #[v] w (Ms 26 1 encC l w):=by
 have eok:EOk aE 221 26 1 24 (encC (n:=1)):=eokC (sz:=1) (Ee 221 _ rfl) rfl (Ee 26 _ rfl) (by omega) rfl;obtain ⟨A,c,rfl,f,_⟩:=h.form;have a:=fun (W:World)=>Lib.run_eql_slice_nil W 221 26 A l.length c 0 0 Tryz.underlying221
 have H:=hide h;cases A with
 |none =>
  have g:l=[]:=h.none_nil;subst g;clear h H d f;simp only [bD,aK] at a ⊢
  go_enter bH,bT
  go_wp2
  go_ret
  exact ⟨none,0,rfl,bR,by go_grown⟩
 |some ad =>
  clear h
  go_enter bH,bT
  go_wp2_with (at_builtin;refine Lw rfl _ _ rfl eok rfl aM rfl (H.out.alloc _) (by simp;omega) (by omega) (by simp) ?_;intro A' i w1 b e _)
  go_ret
  exact ⟨A',i,rfl,b,(aM (sz:=1) (enc:=encC (n:=1))).grown ((Below.refl _ _).alloc (aJ _) _) (aJ _) (by simp) e⟩
theorem zen {n a r}(b:Cl n a=some r):ConT E0 186 [.sl 1 (List.map (fun q=>AV.sl 5 (List.map A6 q)) a)] 26 1 (List.map (fun q=>AV.sl 5 (List.map A6 q)) r) (.row 0):=Qe rfl (B7 bH rfl rfl) zie b
set_option maxHeartbeats 400000 in
theorem zid (l:List (Cel 5))(S:Nat->Prop)(v:Value)(w:World)(h:Sl w S 5 encC v l)(d:l.length<=1000000000) :
  Calls aE 187 #[v] w (Ms 59 5 encC l w):=by
 have eok:EOk aE 26 59 5 56 (encC (n:=5)):=eokC (sz:=5) (Ee 26 _ rfl) rfl (Ee 59 _ rfl) (by omega) rfl;obtain ⟨A,c,rfl,f,_⟩:=h.form;have a:=fun (W:World)=>Lib.run_eql_slice_nil W 26 59 A l.length c 0 0 Tryz.underlying26
 have H:=hide h;cases A with
 |none =>
  have g:l=[]:=h.none_nil;subst g;clear h H d f;simp only [bD,aK] at a ⊢
  go_enter bI,bU
  go_wp2
  go_ret
  exact ⟨none,0,rfl,bR,by go_grown⟩
 |some ad =>
  clear h
  go_enter bI,bU
  go_wp2_with (at_builtin;refine Lw rfl _ _ rfl eok rfl aM rfl (H.out.alloc _) (by simp;omega) (by omega) (by simp) ?_;intro A' i w1 b e _)
  go_ret
  exact ⟨A',i,rfl,b,(aM (sz:=5) (enc:=encC (n:=5))).grown ((Below.refl _ _).alloc (aJ _) _) (aJ _) (by simp) e⟩
theorem zem {n a r}(b:Cl n a=some r):ConT E0 187 [.sl 5 (List.map A6 a)] 59 5 (List.map A6 r) (.row 0):=Qe rfl (B7 bI rfl rfl) zid b
instance zbd {n b a}:CI E0 (Kw n b a) true 189 [Ae b,.ref (C4 a)] (fun r=>.bool (r)):=by unfold Kw;exact aC [] bJ
instance zb7 {n a b}:CI E0 (Rt n a b) true 230 [.sl 2 (a.map Ae),.fn 189 [.ref (C4 b)]] aI:=by unfold Rt;exact aC [] cF
def z0t (b:Ah)(a:Am):List (Nat×Ent):=[(100000,.box 46 (C4 a))]
def V9 (r:Bool×Am):List (Nat×Ent):=[(100000,.box 46 (C4 r.2))]
def Yq (r:Bool×Am):AV:=.bool (r.1)
def z0s (r:Bool×Am):AS:=⟨[(3,.bool (r.1)),(1,.ptr 100000 0)],V9 r⟩
theorem z0h {n c d r}(b:N6 n c d=some r):ConG E0.P none (CalF E0.P 189 0) [Ae c,.ptr 100000 0] [] (z0t c d) (Yq r) (V9 r):=by
 unfold N6 at b;refine bB (E:=(E0p 2)) (caps:=[]) _ bJ rfl rfl rfl rfl rfl ?_;repeat' first
  |refine aL ?_;conv=>whnf
  |refine bA b fun a b=>?_
  |exact GX.A (res:=Yq) (meF:=V9) b z0s
def z7g (b:Am)(a:(List Ah)):List (Nat×Ent):=[(100000,.box 46 (C4 b)),(200001,.row 232 2 (a.map Ae))]
def Si (r:(List Ah)×Am):List (Nat×Ent):=[(260000,.row 232 2 (r.1.map Ae)),(100000,.box 46 (C4 r.2))]
def W0 (r:(List Ah)×Am):AV:=.row 260000
def z17 (r:(List Ah)×Am):AS:=⟨[(4,.row 260000),(1,.fn 189 [.ptr 100000 0])],Si r⟩
theorem z5v {n d c r}(b:Sr n d c=some r):ConG E0.P none (CalF E0.P 188 0) [.row 200001,.fn 189 [.ptr 100000 0]] [] (z7g d c) (W0 r) (Si r):=by
 unfold Sr at b;refine bB (E:=(E0p 2)) (caps:=[]) _ cG rfl rfl rfl rfl rfl ?_;repeat' first
  |refine aL ?_;conv=>whnf
  |refine aO b (fun b=>?_) fun b=>?_
  |refine Be.I b (fun a b=>?_) rfl rfl fun _=>aW rfl
  |refine GX.o (res:=W0) (meF:=Si) b ?_;exact GX.mk (z17 _) (aA [(260000,200001)]) rfl _ rfl (by repeat' first|exact Sub.nil _|exact Sub.refl _|refine Sub.agg ?_|refine Sub.tup ?_|refine Sub.fn ?_|exact SubL.nil|refine SubL.cons ?_ ?_|refine Sub.sl _ ?_|exact SubE.nil|refine SubE.cons ?_ ?_) [100000] ⟨aW ⟨1,0,_,_,_,_,_,aY rfl,rfl,rfl,rfl,rfl,rfl⟩,trivial⟩ rfl
  |refine OpX.sub b rfl rfl rfl rfl rfl rfl rfl rfl rfl rfl (fun m b=>?_)
  |refine OpX.clr Ae b rfl rfl rfl rfl rfl rfl rfl rfl rfl rfl rfl (by first|exact SubL.refl _|(repeat' first|exact SubL.nil|refine SubL.cons ?_ ?_|exact Sub.refl _|exact Sub.nil _|refine Sub.agg ?_)) (fun l b=>?_)
  |refine SlsX.o Ae b (fun l b=>?_)
  |refine GX.o (res:=W0) (meF:=Si) b ?_;exact GX.mk (z17 _) (aA [(260000,41)]) rfl _ rfl (by repeat' first|exact Sub.nil _|exact Sub.refl _|refine Sub.agg ?_|refine Sub.tup ?_|refine Sub.fn ?_|exact SubL.nil|refine SubL.cons ?_ ?_|refine Sub.sl _ ?_|exact SubE.nil|refine SubE.cons ?_ ?_) [100000] ⟨aW ⟨1,0,_,_,_,_,_,aY rfl,rfl,rfl,rfl,rfl,rfl⟩,trivial⟩ rfl
  |refine NatX.o b (fun m b=>?_)
  |refine EltX.o Ae b (fun x b=>?_)
  |refine Be.oM (Ca 28 b) [(100000,100000)] [(100000,100000)] _ _ V9 Yq [] (fun a h=>bE (z0h h)) (B7 bJ rfl rfl) rfl rfl rfl ⟨⟨rfl,rfl⟩,trivial⟩ (fun a=>⟨rfl,rfl,rfl,rfl,rfl,rfl,rfl,rfl⟩) (fun a b=>?_)
  |refine SetX.o Ae b (fun x=>rfl) (fun x=>(by first|exact SubL.refl _|(repeat' first|exact SubL.nil|refine SubL.cons ?_ ?_|exact Sub.refl _|exact Sub.nil _|refine Sub.agg ?_))) (fun l b=>?_)
  |exact ⟨_,b,aA []⟩
  |refine aR b (aA []) fun m v b=>?_
  |refine EqX.A ?_
set_option maxHeartbeats 400000 in
theorem zic (l:List (Cel 4))(S:Nat->Prop)(v:Value)(w:World)(h:Sl w S 4 encC v l)(d:l.length<=1000000000) :
  Calls aE 190 #[v] w (Ms 128 4 encC l w):=by
 have eok:EOk aE 89 128 4 32 (encC (n:=4)):=eokC (sz:=4) (Ee 89 _ rfl) rfl (Ee 128 _ rfl) (by omega) rfl;obtain ⟨A,c,rfl,f,_⟩:=h.form;have a:=fun (W:World)=>Lib.run_eql_slice_nil W 89 128 A l.length c 0 0 Tryz.underlying89
 have H:=hide h;cases A with
 |none =>
  have g:l=[]:=h.none_nil;subst g;clear h H d f;simp only [bD,aK] at a ⊢
  go_enter bK,bV
  go_wp2
  go_ret
  exact ⟨none,0,rfl,bR,by go_grown⟩
 |some ad =>
  clear h
  go_enter bK,bV
  go_wp2_with (at_builtin;refine Lw rfl _ _ rfl eok rfl aM rfl (H.out.alloc _) (by simp;omega) (by omega) (by simp) ?_;intro A' i w1 b e _)
  go_ret
  exact ⟨A',i,rfl,b,(aM (sz:=4) (enc:=encC (n:=4))).grown ((Below.refl _ _).alloc (aJ _) _) (aJ _) (by simp) e⟩
theorem zel {n a r}(b:Cl n a=some r):ConT E0 190 [.sl 4 (List.map B9 a)] 128 4 (List.map B9 r) (.row 0):=Qe rfl (B7 bK rfl rfl) zic b
instance zeg {n c g f e d}:CI E0 (Pc n c g f e d) false 132 [.ref [aI c.fa.fVars,aI c.fa.fScopes,.sl 1 (c.fa.fStates.map B6),.sl 17 (c.fa.fEdges.map Ax),.mapv (List.map (encM C3 A6) (c.fheld))],Ak g,Ax f,Dw e,A6 d] (fun r=>.tup [Ak r.1,.bool (r.2)]):=⟨fun {r} b=>by
 unfold Pc at b;refine cw Tryz.func132 ?_;repeat' first
  |refine bP b (fun v b=>?_) fun b=>?_
  |refine aH b fun b=>?_
  |refine aD [1] ?_;conv=>whnf
  |refine aO b (fun b=>?_) fun b=>?_
  |refine Ac.t ?_
  |refine bX b (fun r=>r) Ae Z5 rfl (fun a h=>za1 h) (fun a b=>?_)
  |refine Be.I b (fun a b=>?_) rfl rfl fun _=>aW rfl
  |refine bX b (fun r=>r) (fun q=>AV.sl 5 (List.map A6 q)) (fun _=>AV.row 0) rfl (fun a h=>zen h) (fun a b=>?_)
  |refine IdxX.o (fun q=>AV.sl 5 (List.map A6 q)) b fun x b=>?_
  |refine bX b (fun r=>r) A6 (fun _=>AV.row 0) rfl (fun a h=>zem h) (fun a b=>?_)
  |refine aP b fun l b=>?_
  |refine NatX.o b (fun m b=>?_)
  |refine OpX.str A6 b rfl rfl rfl rfl rfl rfl rfl rfl rfl rfl rfl (fun l b=>?_)
  |refine Be.oM (Ca 96 b) [(100000,7),(200001,52)] [(260000,97000000),(100000,7)] _ _ Si W0 [52] (fun a h=>bE (z5v h)) (B7 cG rfl rfl) rfl rfl rfl ⟨⟨rfl,rfl⟩,⟨⟨rfl,rfl⟩,trivial⟩⟩ (fun a=>⟨rfl,rfl,rfl,rfl,rfl,rfl,rfl,rfl⟩) (fun a b=>?_)
  |refine bX b (fun r=>r) B9 (fun _=>AV.row 0) rfl (fun a h=>zel h) (fun a b=>?_)
  |refine bA b fun a b=>?_
  |refine bZ b Dn (fun x b=>?_)
  |refine Be.o b ziq (fun a h=>Con.sub (by repeat' first|exact Sub.nil _|exact Sub.refl _|refine Sub.agg ?_|refine Sub.tup ?_|refine Sub.fn ?_|exact SubL.nil|refine SubL.cons ?_ ?_|refine Sub.sl _ ?_|exact SubE.nil|refine SubE.cons ?_ ?_) (zbg.h h)) (fun _=>aW rfl) (fun a b=>?_)
  |exact ⟨_,b,aA []⟩
  |refine aR b (aA []) fun m v b=>?_
  |refine OpX.nckR rfl rfl rfl rfl ?_
  |refine aG b fun x b=>?_
  |refine AndA ?_
  |exact aB b⟩
def z0f (yl_l:Nat)(yl_T:Array Value)(c:A7)(d:A4)(a:Bg)(e:Ai)(b:Int×(List A4)×(List A8)):AS:=⟨[(0,.yld yl_l yl_T [.any,.any,.any,.any,.any,.any,.any,.any,.ptr 100000 0,.ptr 100001 0]),(1,.ptr 100002 0),(2,.ptr 100003 0),(3,.ptr 100004 0),(5,.ptr 5 0),(39,.sl 17 (a.fa.fEdges.map Ax)),(40,aI (((a.fa.fEdges.map Ax).length:Int))),(41,aI (b.1))],[(100000,.box 66 [.row 33000001]),(100001,.box 49 [.row 33000003]),(100002,.box 121 [.ref [aI (a.fa.fVars),aI (a.fa.fScopes),.sl 1 (a.fa.fStates.map B6),.sl 17 (a.fa.fEdges.map Ax),.mapv (List.map (encM C3 A6) (a.fheld))]]),(100003,.box 99 [aI (d.fState),.sl 4 (d.fBindings.map B9),.sl 2 (d.fStarts.map Ae)]),(100004,.box 59 [aI (c.fSource),aI (c.fSeq),aI (c.fType),aI (c.fTime),.sl 3 (c.fValues.map Aa)]),(5,.box 223 [.sl 1 (List.map (fun q=>AV.sl 5 (List.map A6 q)) (e.fVars))]),(33000001,.row 99 3 (b.2.1.map Ak)),(33000003,.row 91 1 (b.2.2.map Ap))]⟩
theorem z0d {n yl_l yl_R yl_T c d e a b}:zww (E0y yl_l yl_R 4) 67 (Hw n c d e a b) (z0f yl_l yl_T c d e a):=LoopA.oT fun _=>rfl
end
end Go.Proofs.YtkoamfnbbhfaiaaGreatDoor
