/- What some functions compute, over plain values. -/
import Derived.Test.YthbogefcfhmpgaaGreatK17
set_option linter.unusedVariables false
set_option linter.unusedSimpArgs false
set_option maxRecDepth 100000
set_option maxHeartbeats 8000000
namespace Go.Proofs.YthbogefcfhmpgaaGreat
open Go.RowKit List
open LeX renaming a->aA,trans->aT,adoptC->bY
open Tryz renaming prog->aB,underlying88->aC,func109->aS,func289->aY,ntmps289->bD,func175->bF,func107->bH,func105->bI,func144->bK,func247->bM,func248->bN,func250->bO,func143->bP,ntmps144->cB,ntmps247->cC,ntmps248->cD,ntmps143->cE,func123->cG,func235->cH,func245->cI,func290->cJ,func249->cK,func195->cL,func127->cM,func63->cP,func62->cQ
open Nat renaming le_of_ble_eq_true->aD,le_refl->aE,min->bL,min_eq_left->bW
open ConG renaming up->aF,walk->aJ
open Or renaming inr->aG,inl->aX
open Option renaming isNone_none->aH
open AW renaming step->aK,stepU->aP,regO->aU
open Bool renaming not_false->aL,not_true->aO
open _root_.Go.Proofs.YthbogefcfhmpgaaGreat.Own renaming made_->aM,nil_->bZ
open RetX renaming oB->aN
open List renaming getElem?_append_left->aQ,getElem?_toArray->aW,getElem?_append_right->bA,length_nil->bE,map_cons->bQ,append_assoc->bR,take_append_drop->bU,map_nil->bX
open IdxX renaming A->aR
open And renaming intro->aV
open CI renaming w->aZ
open A1 renaming o->bB,f->cN,t->cR
open SubL renaming refl->bC
open EqX renaming A->bG
open AppX renaming oA->bJ
open Av renaming I->bS
open B7 renaming oM->bV
open Ab renaming I->cA,oM->cT,oR->cU
open OpX renaming nlq->cF,nckR->cO
noncomputable section
abbrev z1m {n a c}:=li (Nq n a c) (fun b=>⟨[(1,.fn 107 [.ptr 100000 0,.ptr 100001 0]),(2,.ptr 2 0),(5,.row 7027),(10,.sl 17 (a.fa.fEdges.map A9)),(11,aI (((a.fa.fEdges.map A9).length:Int))),(12,aI b.1)],[(100000,.box 111 [.sl 2 (b.2.1.map Bf),aI b.2.2.1,aI b.2.2.2.1,.sl 1 (b.2.2.2.2.1.map Ao),.sl 17 (b.2.2.2.2.2.1.map A9)]),(100001,.box 3 [aI b.2.2.2.2.2.2.1]),(2,.box 111 [.sl 2 (a.ftypes.map Bf),aI a.fa.fVars,aI a.fa.fScopes,.sl 1 (a.fa.fStates.map Ao),.sl 17 (a.fa.fEdges.map A9)]),(7027,.row 149 17 (b.2.2.2.2.2.2.2.map A9))]⟩) fun _ _=>Nq.eq_2 ..
abbrev z47 {n b a e d}:=li (Ol n b a e d) (fun c=>⟨[(0,aI e),(1,.ptr 100000 0),(2,.ptr 100001 0),(3,.ptr 100002 0),(4,.ptr 100003 0),(10,.sl 17 (a.map A9)),(11,aI (((a.map A9).length:Int))),(12,aI c.1)],[(100000,.box 24 [.sl 17 (c.2.1.map A9)]),(100001,.box 113 [.row 200001]),(100002,.box 3 [aI c.2.2.1]),(100003,.box 115 [.fn 109 [.ptr 100000 0,.ptr 100001 0,.ptr 100002 0,.ptr 100003 0]]),(200001,.mp (List.map (encM aI AV.bool) (c.2.2.2)))]⟩) fun _ _=>Ol.eq_2 ..
abbrev z43 {n g a b f c d}:=li (Xl n g a b f c d) (fun e=>⟨[(2,.ptr 2 0),(5,.row 7045),(8,.ptr 8 0),(11,.sl 1 (g.map aI)),(12,aI (((g.map aI).length:Int))),(13,aI b.1),(27,.sl 2 (c.fFields.map E9)),(28,aI (((c.fFields.map E9).length:Int))),(29,aI e.1)],[(2,.box 111 [.sl 2 (a.ftypes.map Bf),aI a.fa.fVars,aI a.fa.fScopes,.sl 1 (a.fa.fStates.map Ao),.sl 17 (a.fa.fEdges.map A9)]),(8,.box 37 [aI 0,aI b.1,aI f,aI b.1,.row 7039]),(7045,.row 37 5 (b.2.map A7)),(7039,.row 144 3 (e.2.map Ac))]⟩) fun _ _=>Xl.eq_2 ..
abbrev z44 {n d a b}:=li (Xm n d a b) (fun c=>⟨[(2,.ptr 2 0),(5,.row 7045),(11,.sl 1 (d.map aI)),(12,aI (((d.map aI).length:Int))),(13,aI c.1)],[(2,.box 111 [.sl 2 (a.ftypes.map Bf),aI a.fa.fVars,aI a.fa.fScopes,.sl 1 (a.fa.fStates.map Ao),.sl 17 (a.fa.fEdges.map A9)]),(7045,.row 37 5 (c.2.map A7))]⟩) fun _ _=>Xm.eq_2 ..
abbrev zbe {n a e d b}:=li (V7 n a e d b) (fun c=>⟨[(6,.ptr 6 0),(11,.ptr 11 0),(12,.mapv (List.map (encM aI AV.bool) (d))),(39,aI (((a.fStates.map Ao).length:Int))),(40,aI c)],[(6,.box 39 [aI 0,aI 0,.nils,aI 0]),(11,.box 111 [.sl 2 (e.map Bf),aI a.fVars,aI a.fScopes,.sl 1 (a.fStates.map Ao),.sl 17 (a.fEdges.map A9)])]⟩) fun _ _=>V7.eq_2 ..
abbrev zc0 {n a b}:=li (M1 n a b) (fun c=>⟨[(0,.sl 5 (a.map A7)),(3,.row 9),(10,.sl 5 (a.map A7)),(11,aI (((a.map A7).length:Int))),(12,aI c.1)],[(9,.mp (List.map (encM Lz AV.bool) (c.2)))]⟩) fun _ _=>M1.eq_2 ..
attribute [instance] z1m z47 z43 z44 zbe zc0
instance zdy {n a b}:CI E0 (z03 n a b) true 175 [.sl 11 (a.map B8),.fn 176 [.ref [aI b]]] (fun r=>.bool (r)):=by unfold z03;exact aZ [] bF
instance zhe {n c e d}:CI E0 (Ts n c e d) true 108 [.agg [.sl 2 (c.ftypes.map Bf),aI c.fa.fVars,aI c.fa.fScopes,.sl 1 (c.fa.fStates.map Ao),.sl 17 (c.fa.fEdges.map A9)],aI e,aI d] (fun r=>.bool (r)):=⟨fun {r} b=>by
 unfold Ts at b;refine cw Tryz.func108 ?_;repeat' first
  |refine aK ?_;conv=>whnf
  |refine bB b (fun b=>?_) fun b=>?_
  |refine cR ?_
  |refine cN ?_
  |refine aR b fun x b=>?_
  |refine B7.I b (fun a b=>?_) rfl rfl fun _=>aG rfl
  |refine AndA ?_
  |refine bG ?_
  |exact aN b⟩
def z8f (c:Ae)(a:Bc)(b:Int):List (Nat×Ent):=[(100000,.box 111 [.sl 2 (a.ftypes.map Bf),aI a.fa.fVars,aI a.fa.fScopes,.sl 1 (a.fa.fStates.map Ao),.sl 17 (a.fa.fEdges.map A9)]),(100001,.box 3 [aI b])]
def Tv (r:Bool×Bc×Int):List (Nat×Ent):=[(100000,.box 111 [.sl 2 (r.2.1.ftypes.map Bf),aI r.2.1.fa.fVars,aI r.2.1.fa.fScopes,.sl 1 (r.2.1.fa.fStates.map Ao),.sl 17 (r.2.1.fa.fEdges.map A9)]),(100001,.box 3 [aI r.2.2])]
def Xz (r:Bool×Bc×Int):AV:=.bool (r.1)
def z8c (r:Bool×Bc×Int):AS:=⟨[(4,.bool (r.1)),(1,.ptr 100000 0),(2,.ptr 100001 0)],Tv r⟩
theorem z10 {n c e d r}(b:z0f n c e d=some r):ConG E0.P none (CalF E0.P 107 0) [A9 c,.ptr 100000 0,.ptr 100001 0] [] (z8f c e d) (Xz r) (Tv r):=by
 unfold z0f at b;refine aJ (E:=(E0p 3)) (caps:=[]) _ bH rfl rfl rfl rfl rfl ?_;repeat' first
  |refine aK ?_;conv=>whnf
  |refine bB b (fun b=>?_) fun b=>?_
  |refine cR ?_
  |refine cN ?_
  |refine cA b fun a b=>?_
  |exact GX.A (res:=Xz) (meF:=Tv) b z8c
  |refine AndA ?_
  |refine bG ?_
def z3i (c:Bc)(a:Bc)(b:Int):List (Nat×Ent):=[(100000,.box 111 [.sl 2 (a.ftypes.map Bf),aI a.fa.fVars,aI a.fa.fScopes,.sl 1 (a.fa.fStates.map Ao),.sl 17 (a.fa.fEdges.map A9)]),(100001,.box 3 [aI b])]
def T7 (r:(List Ae)×Bc×Int):List (Nat×Ent):=[(100000,.box 111 [.sl 2 (r.2.1.ftypes.map Bf),aI r.2.1.fa.fVars,aI r.2.1.fa.fScopes,.sl 1 (r.2.1.fa.fStates.map Ao),.sl 17 (r.2.1.fa.fEdges.map A9)]),(100001,.box 3 [aI r.2.2])]
def Xf (r:(List Ae)×Bc×Int):AV:=.sl 17 (r.1.map A9)
def z3g (r:(List Ae)×Bc×Int):AS:=⟨[(4,.sl 17 (r.1.map A9)),(1,.fn 107 [.ptr 100000 0,.ptr 100001 0])],T7 r⟩
theorem z0i {n c e d r}(b:z05 n c e d=some r):ConG E0.P none (CalF E0.P 105 0) [.agg [.sl 2 (c.ftypes.map Bf),aI c.fa.fVars,aI c.fa.fScopes,.sl 1 (c.fa.fStates.map Ao),.sl 17 (c.fa.fEdges.map A9)],.fn 107 [.ptr 100000 0,.ptr 100001 0]] [] (z3i c e d) (Xf r) (T7 r):=by
 unfold z05 at b;refine aJ (E:=(E0p 2)) (caps:=[]) _ bI rfl rfl rfl rfl rfl ?_;repeat' first
  |refine aU b fun b=>?_
  |refine AW.frzO b 7027 rfl (fun b=>?_)
  |refine aP [8] ?_;conv=>whnf
  |refine bB b (fun b=>?_) fun b=>?_
  |refine cR ?_
  |refine cN ?_
  |refine GX.o (res:=Xf) (meF:=T7) b ?_;exact GX.mk (z3g _) (aA []) rfl _ rfl (by repeat' first|exact Sub.nil _|exact Sub.refl _|refine Sub.agg ?_|refine Sub.tup ?_|refine Sub.fn ?_|exact SubL.nil|refine SubL.cons ?_ ?_|refine Sub.sl _ ?_|exact SubE.nil|refine SubE.cons ?_ ?_) [100000,100001] ⟨aG ⟨1,0,_,_,_,_,_,aD rfl,rfl,rfl,rfl,rfl,rfl⟩,⟨aG ⟨1,1,_,_,_,_,_,aD rfl,rfl,rfl,rfl,rfl,rfl⟩,trivial⟩⟩ rfl
  |refine aR b fun x b=>?_
  |refine cA b fun a b=>?_
  |refine bV (Bg 22 b) [(100000,100000),(100001,100001)] [(100000,100000),(100001,100001)] _ _ Tv Xz [] (fun a h=>aF (z10 h)) (B0 bH rfl rfl) rfl rfl rfl ⟨⟨rfl,rfl⟩,⟨⟨rfl,rfl⟩,trivial⟩⟩ (fun a=>⟨rfl,rfl,rfl,rfl,rfl,rfl,rfl,rfl⟩) (fun a b=>?_)
  |refine cT (Bg 22 b) [(100000,100000),(100001,100001)] [(100000,100000),(100001,100001)] _ _ Tv Xz [] (fun a h=>aF (z10 h)) (B0 bH rfl rfl) rfl rfl rfl ⟨⟨rfl,rfl⟩,⟨⟨rfl,rfl⟩,trivial⟩⟩ (fun a=>⟨rfl,rfl,rfl,rfl,rfl,rfl,rfl,rfl⟩) (fun a b=>?_)
  |refine bJ b fun l b=>?_
  |exact ⟨_,b,aA [(7027,27)]⟩
  |exact ⟨_,b,aA []⟩
  |refine bS b ?_ fun m v b=>?_
  |exact aT (LeX.adopt 5 7027 149 17 rfl rfl) (aA [])
  |refine AndA ?_
  |refine bG ?_
def z8e (d:Int)(c:(List Ae))(b:(List (Int×Bool)))(a:Int):List (Nat×Ent):=[(100000,.box 24 [.sl 17 (c.map A9)]),(100001,.box 113 [.row 200001]),(200001,.mp (List.map (encM aI AV.bool) (b))),(100002,.box 3 [aI a]),(100003,.box 115 [.fn 109 [.ptr 100000 0,.ptr 100001 0,.ptr 100002 0,.ptr 100003 0]])]
def Gx (r:(List Int)×(List Ae)×(List (Int×Bool))×Int):List (Nat×Ent):=[(100000,.box 24 [.sl 17 (r.2.1.map A9)]),(100001,.box 113 [.row 250001]),(250001,.mp (List.map (encM aI AV.bool) (r.2.2.1))),(100002,.box 3 [aI r.2.2.2]),(100003,.box 115 [.fn 109 [.ptr 100000 0,.ptr 100001 0,.ptr 100002 0,.ptr 100003 0]])]
def Ie (r:(List Int)×(List Ae)×(List (Int×Bool))×Int):AV:=nlA 1 (r.1.map aI)
def z0c (r:(List Int)×(List Ae)×(List (Int×Bool))×Int):AS:=⟨[(6,nlA 1 (r.1.map aI)),(1,.ptr 100000 0),(2,.ptr 100001 0),(3,.ptr 100002 0),(4,.ptr 100003 0)],Gx r⟩
theorem z0z {n d i g f r}(c:Y4 n d i g f=some r):ConG E0.P none (CalF E0.P 109 0) [aI d,.ptr 100000 0,.ptr 100001 0,.ptr 100002 0,.ptr 100003 0] [] (z8e d i g f) (Ie r) (Gx r):=by
 induction n generalizing d i g f r
 case zero=>cases c
 case succ n j =>
 unfold Y4 at c;refine aJ (E:=(E0q 5)) (caps:=[]) _ aS rfl rfl rfl rfl rfl ?_;repeat' first
  |refine aU c fun c=>?_
  |refine aP [10] ?_;conv=>whnf
  |refine bB c (fun c=>?_) fun c=>?_
  |refine cR ?_
  |refine cN ?_
  |exact GX.A (res:=Ie) (meF:=Gx) c z0c (h1:=aA [(250001,200001)])
  |refine aR c fun x c=>?_
  |exact ⟨_,c,aA []⟩
  |refine LkX.o aI AV.bool c (by first|rfl|kernel_rfl) Dc (by repeat' first|exact Sub.nil _|exact Sub.refl _|refine Sub.agg ?_|refine Sub.tup ?_|refine Sub.fn ?_|exact SubL.nil|refine SubL.cons ?_ ?_|refine Sub.sl _ ?_|exact SubE.nil|refine SubE.cons ?_ ?_) (fun v b c=>?_)
  |refine OpX.bldR aI c rfl rfl rfl rfl rfl rfl rfl rfl rfl rfl rfl rfl rfl rfl rfl rfl (by first|exact SubR.refl _|(repeat' first|exact SubR.nil|refine SubR.cons ?_ ?_|exact SubL.nil|refine SubL.cons ?_ ?_|exact Sub.refl _|exact Sub.nil _)) rfl (fun l c=>?_)
  |refine OpX.bld aI c rfl rfl rfl rfl rfl rfl rfl rfl rfl rfl rfl rfl rfl rfl rfl rfl (fun l c=>?_)
  |refine GX.o (res:=Ie) (meF:=Gx) c ?_;exact GX.mk (z0c _) (aT (LeX.frzAll 32 3 1 _ rfl) (aA [(250001,200001)])) rfl _ rfl (by repeat' first|exact Sub.nil _|exact Sub.refl _|refine Sub.agg ?_|refine Sub.tup ?_|refine Sub.fn ?_|exact SubL.nil|refine SubL.cons ?_ ?_|refine Sub.sl _ ?_|exact SubE.nil|refine SubE.cons ?_ ?_) [] trivial rfl
  |refine y6e c (fun a t e c=>?_);subst e
  |refine UpX.o aI AV.bool c (by first|rfl|kernel_rfl) Dc (by repeat' first|exact Sub.nil _|exact Sub.refl _|refine Sub.agg ?_|refine Sub.tup ?_|refine Sub.fn ?_|exact SubL.nil|refine SubL.cons ?_ ?_|refine Sub.sl _ ?_|exact SubE.nil|refine SubE.cons ?_ ?_) (fun l c=>?_)
  |refine bV (Bg 39 c) [(100000,100000),(100001,100001),(100002,100002),(100003,100003),(200001,200001)] [(100000,100000),(100001,100001),(250001,40000002),(100002,100002),(100003,100003)] _ _ Gx Ie [200001] (fun a h=>aF (j h)) (B0 aS rfl rfl) rfl rfl rfl ⟨⟨rfl,rfl⟩,⟨⟨rfl,rfl⟩,⟨⟨rfl,rfl⟩,⟨⟨rfl,rfl⟩,⟨⟨rfl,rfl⟩,trivial⟩⟩⟩⟩⟩ (fun a=>⟨rfl,rfl,rfl,rfl,rfl,rfl,rfl,zjg _ _ _⟩) (fun a c=>?_);rcases a with ⟨_|⟨y,ys⟩,a⟩<;>(try simp only [bX,bQ,List.isEmpty_nil,List.isEmpty_cons,aO,aL,Am,Ar,X1] at c)
  |refine cT (Bg 39 c) [(100000,100000),(100001,100001),(100002,100002),(100003,100003),(200001,200001)] [(100000,100000),(100001,100001),(250001,40000002),(100002,100002),(100003,100003)] _ _ Gx Ie [200001] (fun a h=>aF (j h)) (B0 aS rfl rfl) rfl rfl rfl ⟨⟨rfl,rfl⟩,⟨⟨rfl,rfl⟩,⟨⟨rfl,rfl⟩,⟨⟨rfl,rfl⟩,⟨⟨rfl,rfl⟩,trivial⟩⟩⟩⟩⟩ (fun a=>⟨rfl,rfl,rfl,rfl,rfl,rfl,rfl,zjg _ _ _⟩) (fun a c=>?_);rcases a with ⟨_|⟨y,ys⟩,a⟩<;>(try simp only [bX,bQ,List.isEmpty_nil,List.isEmpty_cons,aO,aL,Am,Ar,X1] at c)
  |refine cF (sz:=1) (l:=[]) (by first|exact aX rfl|exact aG rfl) rfl rfl rfl rfl rfl rfl rfl rfl ?_
  |refine cF (sz:=1) (l:=_::_) (by first|exact aX rfl|exact aG rfl) rfl rfl rfl rfl rfl rfl rfl rfl ?_
  |refine bJ c fun l c=>?_
  |refine GX.o (res:=Ie) (meF:=Gx) c ?_;exact GX.mk (z0c _) (aT (LeX.frzAll 46 3 1 _ rfl) (aA [(250001,40000002)])) rfl _ rfl (by repeat' first|exact Sub.nil _|exact Sub.refl _|refine Sub.agg ?_|refine Sub.tup ?_|refine Sub.fn ?_|exact SubL.nil|refine SubL.cons ?_ ?_|refine Sub.sl _ ?_|exact SubE.nil|refine SubE.cons ?_ ?_) [] trivial rfl
  |exact ⟨_,c,aA [(200001,40000002)]⟩
  |refine bS c (aA []) fun m v c=>?_
  |refine AndA ?_
  |refine bG ?_
instance zlr {n c d}:CI E0 (Yr n c d) false 51 [.agg [.sl 2 (c.ftypes.map Bf),aI c.fa.fVars,aI c.fa.fScopes,.sl 1 (c.fa.fStates.map Ao),.sl 17 (c.fa.fEdges.map A9)],aI d] (fun r=>nlA 1 (r.map aI)):=⟨fun {r} b=>by
 unfold Yr at b;refine cw Tryz.func51 ?_;repeat' first
  |refine aK ?_;conv=>whnf
  |refine bB b (fun b=>?_) fun b=>?_
  |refine cR ?_
  |refine cN ?_
  |refine bV (Bg 10 b) [(100000,2),(100001,3)] [(100000,2),(100001,3)] _ _ T7 Xf [] (fun a h=>aF (z0i h)) (B0 bI rfl rfl) rfl rfl rfl ⟨⟨rfl,rfl⟩,⟨⟨rfl,rfl⟩,trivial⟩⟩ (fun a=>⟨rfl,rfl,rfl,rfl,rfl,rfl,rfl,rfl⟩) (fun a b=>?_)
  |refine cT (Bg 10 b) [(100000,2),(100001,3)] [(100000,2),(100001,3)] _ _ T7 Xf [] (fun a h=>aF (z0i h)) (B0 bI rfl rfl) rfl rfl rfl ⟨⟨rfl,rfl⟩,⟨⟨rfl,rfl⟩,trivial⟩⟩ (fun a=>⟨rfl,rfl,rfl,rfl,rfl,rfl,rfl,rfl⟩) (fun a b=>?_)
  |refine bV (Bg 14 b) [(100000,5),(100001,6),(100002,3),(100003,7),(200001,11)] [(100000,5),(100001,6),(250001,15000002),(100002,3),(100003,7)] _ _ Gx Ie [11] (fun a h=>aF (z0z h)) (B0 aS rfl rfl) rfl rfl rfl ⟨⟨rfl,rfl⟩,⟨⟨rfl,rfl⟩,⟨⟨rfl,rfl⟩,⟨⟨rfl,rfl⟩,⟨⟨rfl,rfl⟩,trivial⟩⟩⟩⟩⟩ (fun a=>⟨rfl,rfl,rfl,rfl,rfl,rfl,rfl,zjg _ _ _⟩) (fun a b=>?_);rcases a with ⟨_|⟨y,ys⟩,a⟩<;>(try simp only [bX,bQ,List.isEmpty_nil,List.isEmpty_cons,aO,aL,Am,Ar,X1] at b)
  |refine cT (Bg 14 b) [(100000,5),(100001,6),(100002,3),(100003,7),(200001,11)] [(100000,5),(100001,6),(250001,15000002),(100002,3),(100003,7)] _ _ Gx Ie [11] (fun a h=>aF (z0z h)) (B0 aS rfl rfl) rfl rfl rfl ⟨⟨rfl,rfl⟩,⟨⟨rfl,rfl⟩,⟨⟨rfl,rfl⟩,⟨⟨rfl,rfl⟩,⟨⟨rfl,rfl⟩,trivial⟩⟩⟩⟩⟩ (fun a=>⟨rfl,rfl,rfl,rfl,rfl,rfl,rfl,zjg _ _ _⟩) (fun a b=>?_);rcases a with ⟨_|⟨y,ys⟩,a⟩<;>(try simp only [bX,bQ,List.isEmpty_nil,List.isEmpty_cons,aO,aL,Am,Ar,X1] at b)
  |refine AndA ?_
  |refine bG ?_
  |exact aN b⟩
instance zio {n b c}:CI E0 (z0e n b c) false 52 [.agg [.sl 2 (b.ftypes.map Bf),aI b.fa.fVars,aI b.fa.fScopes,.sl 1 (b.fa.fStates.map Ao),.sl 17 (b.fa.fEdges.map A9)],.sl 1 (c.map aI)] (fun r=>.sl 5 (r.map A7)):=⟨fun {r} a=>by
 unfold z0e at a;refine cw Tryz.func52 ?_;repeat' first
  |refine aU a fun a=>?_
  |refine AW.frzO a 7039 rfl (fun a=>?_)
  |refine aP [11] ?_;conv=>whnf
  |refine bB a (fun a=>?_) fun a=>?_
  |refine cR ?_
  |refine cN ?_
  |refine aR a fun x a=>?_
  |refine bJ a fun l a=>?_
  |exact ⟨_,a,aA [(7045,45)]⟩
  |exact ⟨_,a,aA [(7039,39)]⟩
  |refine bS a ?_ fun m v a=>?_
  |exact aT (bY 8 4 7039 144 3 37 _ rfl rfl rfl) (aA [])
  |exact aT (LeX.adopt 5 7045 37 5 rfl rfl) (aA [])
  |refine AndA ?_
  |refine bG ?_
  |exact aN a⟩
instance zun {n f e d}:CI E0 (Rh n f e d) false 14 [.sl 2 (f.map Bf),Bi e,aI d] (fun r=>.tup [.agg [aI r.1.fVerdict,aI r.1.fBound,.sl 5 (r.1.fPrefix.map A7),aI r.1.fPeriod],aI r.2]):=⟨fun {r} c=>by
 unfold Rh at c;refine cw Tryz.func14 ?_;repeat' first
  |refine aU c fun c=>?_
  |refine aP [15] ?_;conv=>whnf
  |refine bB c (fun c=>?_) fun c=>?_
  |refine cR ?_
  |refine cN ?_
  |refine cA (o:=Yr _ _ _) c fun a c=>?_;rcases a with _|⟨y,ys⟩<;>(try simp only [bX,bQ,List.isEmpty_nil,List.isEmpty_cons,aO,aL,Am,Ar,X1] at c)
  |refine cA c fun a c=>?_
  |refine OpX.lkv aI AV.bool c Dc rfl rfl rfl rfl rfl rfl rfl rfl rfl rfl (by first|rfl|kernel_rfl) (by repeat' first|exact Sub.nil _|exact Sub.refl _|refine Sub.agg ?_|refine Sub.tup ?_|refine Sub.fn ?_|exact SubL.nil|refine SubL.cons ?_ ?_|refine Sub.sl _ ?_|exact SubE.nil|refine SubE.cons ?_ ?_) (fun v b c=>?_)
  |exact ⟨_,c,aA []⟩
  |refine cF (sz:=1) (l:=[]) (by first|exact aX rfl|exact aG rfl) rfl rfl rfl rfl rfl rfl rfl rfl ?_
  |refine cF (sz:=1) (l:=_::_) (by first|exact aX rfl|exact aG rfl) rfl rfl rfl rfl rfl rfl rfl rfl ?_
  |refine bS c (aA []) fun m v c=>?_
  |refine AndA ?_
  |refine bG ?_
  |exact aN c⟩
instance zuh {n a}:CI E0 (Vr n a) true 192 [A7 a] (fun r=>.bool (r)):=by unfold Vr;exact aZ [] Tryz.func192
instance y0k {n a}:CI E0 (We n a) true 242 [A7 a] Bn:=by unfold We;exact aZ [] Tryz.func242
instance zur {n b a}:CI E0 (Vt n b a) true 193 [A7 b,A7 a] aI:=by unfold Vt;exact aZ [] Tryz.func193
instance y0c {n a}:CI E0 (Mr n a) true 194 [A7 a] Lz:=by unfold Mr;exact aZ [] Tryz.func194
theorem zxe (a b:Iz):eqK (Lz a) (Lz b)=some (decide (a=b)):=by cases a;cases b;simp [Lz,eqK,eqL,eq1,aI,J9]
end
noncomputable section
abbrev zgc {n d a b}:=li (Rm n d a b) (fun c=>⟨[(8,.ptr 24 0),(25,.sl 5 (d.map A7)),(26,aI (((d.map A7).length:Int))),(27,aI c.1)],[(24,.box 204 [aI a.fVars,aI a.fScopes,.sl 1 (a.fStates.map Ao),.sl 17 (a.fEdges.map A9),.row 22]),(22,.mp (List.map (encM Bn A7) (c.2)))]⟩) fun _ _=>Rm.eq_2 ..
abbrev z9r {n d a e b}:=li (Qg n d a e b) (fun c=>⟨[(0,.ref [aI a.fa.fVars,aI a.fa.fScopes,.sl 1 (a.fa.fStates.map Ao),.sl 17 (a.fa.fEdges.map A9),.mapv (List.map (encM Bn A7) (a.fheld))]),(4,.ptr 4 0),(5,.ptr 5 0),(15,.sl 4 (d.map B6)),(16,aI (((d.map B6).length:Int))),(17,aI c.1)],[(4,.box 271 [.nils]),(5,.box 271 [.cont (e) 13]),(13,.nest 29 (List.map (enR A7 37 5) (c.2)))]⟩) fun _ _=>Qg.eq_2 ..
abbrev zc5 {n}:=jf (M2 n) (fun b=>⟨[(6,.bool (b))],[]⟩) fun _=>M2.eq_1 ..
abbrev z33 {n b c a d}:=li (O6 n b c a d) (fun e=>⟨[(0,.sl 11 (a.map B8)),(1,.fn 197 [.ref (Dp c),.ref (Bo b)]),(7,aI (((a.map B8).length:Int))),(8,aI e)],[]⟩) fun _ _=>O6.eq_2 ..
abbrev z34 {n}:=jf (Jw n) (fun b=>⟨[(5,.bool (b))],[]⟩) fun _=>Jw.eq_1 ..
abbrev z31 {n b c d a e}:=li (O4 n b c d a e) (fun f=>⟨[(0,.sl 11 (a.map B8)),(1,.fn 244 [.ref (Bp d),.ref (Dp c),.ref (Bo b)]),(7,aI (((a.map B8).length:Int))),(8,aI f)],[]⟩) fun _ _=>O4.eq_2 ..
abbrev z1s {n d a b}:=li (Jp n d a b) (fun c=>⟨[(0,.sl 2 (a.map Aj)),(1,aI d),(2,.fn 288 []),(8,aI (((a.map Aj).length:Int))),(9,aI c.1),(10,aI c.2)],[]⟩) fun _ _=>Jp.eq_2 ..
abbrev ze9 {n f a b c d}:=jt (M8 n f a b c d) (fun e=>⟨[(2,aI f),(7,.row 7033),(10,aI d.1),(14,.sl 1 (a.map aI)),(15,aI (((a.map aI).length:Int))),(16,aI b.1)],[(7033,.row 182 2 (e.map Aj))]⟩) fun _=>M8.eq_1 ..
attribute [instance] zgc z9r zc5 z33 z34 z31 z1s ze9
instance zuz {n d}:CI E0 (Rk n d) true 121 [.sl 5 (d.map A7)] aI:=⟨fun {r} c=>by
 unfold Rk at c;refine cw Tryz.func121 ?_;repeat' first
  |refine aK ?_;conv=>whnf
  |refine bB c (fun c=>?_) fun c=>?_
  |refine cN ?_
  |refine aR c fun x c=>?_
  |refine cA c fun a c=>?_
  |refine LkX.o Lz AV.bool c (by first|rfl|kernel_rfl) zxe (by repeat' first|exact Sub.nil _|exact Sub.refl _|refine Sub.agg ?_|refine Sub.tup ?_|refine Sub.fn ?_|exact SubL.nil|refine SubL.cons ?_ ?_|refine Sub.sl _ ?_|exact SubE.nil|refine SubE.cons ?_ ?_) (fun v b c=>?_)
  |refine UpX.o Lz AV.bool c (by first|rfl|kernel_rfl) zxe (by repeat' first|exact Sub.nil _|exact Sub.refl _|refine Sub.agg ?_|refine Sub.tup ?_|refine Sub.fn ?_|exact SubL.nil|refine SubL.cons ?_ ?_|refine Sub.sl _ ?_|exact SubE.nil|refine SubE.cons ?_ ?_) (fun l c=>?_)
  |exact ⟨_,c,aA []⟩
  |refine bS c (aA []) fun m v c=>?_
  |refine AndA ?_
  |exact aN c⟩
theorem zxd (a b:Bm):eqK (Bn a) (Bn b)=some (decide (a=b)):=by cases a;cases b;simp [Bn,eqK,eqL,eq1,aI,J9]
def Rr:Option Be->AV |none=>.nilp |some x=>.ref [aI (x.fa.fVars),aI (x.fa.fScopes),.sl 1 (x.fa.fStates.map Ao),.sl 17 (x.fa.fEdges.map A9),.mapv (List.map (encM Bn A7) (x.fheld))]
def Ru (r:(Option Be)×Int):AV:=.tup [Rr (r.1),aI (r.2)]
instance zbu {n d c}:CI E0 (J8 n d c) false 60 [Bi d,.sl 5 (c.map A7)] (fun r=>.tup [Rr (r.1),aI r.2]):=⟨fun {r} b=>by
 unfold J8 at b;refine cw Tryz.func60 ?_;repeat' first
  |refine aK ?_;conv=>whnf
  |refine bB b (fun b=>?_) fun b=>?_
  |refine cA b fun a b=>?_
  |refine aR b fun x b=>?_
  |refine OpX.nckP rfl rfl rfl rfl rfl ?_
  |refine UpX.o Bn A7 b (by first|rfl|kernel_rfl) zxd (by repeat' first|exact Sub.nil _|exact Sub.refl _|refine Sub.agg ?_|refine Sub.tup ?_|refine Sub.fn ?_|exact SubL.nil|refine SubL.cons ?_ ?_|refine Sub.sl _ ?_|exact SubE.nil|refine SubE.cons ?_ ?_) (fun l b=>?_)
  |exact ⟨_,b,aA []⟩
  |refine bS b (aA []) fun m v b=>?_
  |refine AndA ?_
  |exact aN b⟩
instance y0d {n}:CI E0 (Wb n) false 61 [] Ai:=by unfold Wb;exact aZ [] Tryz.func61
def z9k (c:Be)(b:A5)(a:A6):List (Nat×Ent):=[]
def Y6 (r:Be×A5×A6):List (Nat×Ent):=[(3,.box 128 [.ref [aI r.1.fa.fVars,aI r.1.fa.fScopes,.sl 1 (r.1.fa.fStates.map Ao),.sl 17 (r.1.fa.fEdges.map A9),.mapv (List.map (encM Bn A7) (r.1.fheld))]]),(4,.box 90 (C7 r.2.1)),(5,.box 37 (Bo r.2.2))]
def z0k (r:Be×A5×A6):AV:=.fn 195 [.ptr 3 0,.ptr 4 0,.ptr 5 0]
def z99 (r:Be×A5×A6):AS:=⟨[(6,.fn 195 [.ptr 3 0,.ptr 4 0,.ptr 5 0])],Y6 r⟩
theorem z6v {n a c b r}(d:Ye n a c b=some r):ConG E0.P none (CalF E0.P 123 0) [.ref [aI a.fa.fVars,aI a.fa.fScopes,.sl 1 (a.fa.fStates.map Ao),.sl 17 (a.fa.fEdges.map A9),.mapv (List.map (encM Bn A7) (a.fheld))],Ai c,A7 b] [] (z9k a c b) (z0k r) (Y6 r):=by
 unfold Ye at d;refine aJ (E:=(E0p 3)) (caps:=[]) _ cG rfl rfl rfl rfl rfl ?_;repeat' first
  |refine aK ?_;conv=>whnf
  |exact GX.A (res:=z0k) (meF:=Y6) d z99
def z5w (b:(List A5))(a:(List Aa)):List (Nat×Ent):=[(100000,.box 49 [.row 200000]),(200000,.row 90 3 (b.map Ai)),(100001,.box 50 [.row 200001]),(200001,.row 64 1 (a.map Az))]
def Ka (r:(List A5)×(List Aa)):List (Nat×Ent):=[(100000,.box 49 [.row 250000]),(250000,.row 90 3 (r.1.map Ai)),(100001,.box 50 [.row 250001]),(250001,.row 64 1 (r.2.map Az))]
def z11 (r:(List A5)×(List Aa)):AS:=⟨[(8,.ptr 100000 0),(9,.ptr 100001 0)],Ka r⟩
instance zr0 {n c d}:CI E0 (Vg n c d) false 196 [.ref [aI c.fa.fVars,aI c.fa.fScopes,.sl 1 (c.fa.fStates.map Ao),.sl 17 (c.fa.fEdges.map A9),.mapv (List.map (encM Bn A7) (c.fheld))],.sl 4 (d.map B6)] Dn:=⟨fun {r} a=>by
 unfold Vg at a;refine cw Tryz.func196 ?_;repeat' first
  |refine AW.nstO (er:=A7) 37 5 a 13 rfl (fun a=>?_)
  |refine AW.frrO (ety:=37) (sz:=5) A7 a 13 rfl (fun a=>?_)
  |refine aU a fun a=>?_
  |refine aP [7,2] ?_;conv=>whnf
  |refine bB a (fun a=>?_) fun a=>?_
  |refine cO rfl rfl rfl rfl ?_
  |refine MakX.on a (fun m a=>?_)
  |refine aR a fun x a=>?_
  |refine OpX.ixc a rfl rfl rfl rfl rfl rfl rfl rfl (fun a=>?_)
  |refine OpX.ntk A7 a rfl rfl rfl rfl rfl rfl rfl rfl rfl rfl (fun q a=>?_)
  |refine OpX.lkv Bn A7 a zxd rfl rfl rfl rfl rfl rfl rfl rfl rfl rfl (by first|rfl|kernel_rfl) (by repeat' first|exact Sub.nil _|exact Sub.refl _|refine Sub.agg ?_|refine Sub.tup ?_|refine Sub.fn ?_|exact SubL.nil|refine SubL.cons ?_ ?_|refine Sub.sl _ ?_|exact SubE.nil|refine SubE.cons ?_ ?_) (fun v b a=>?_)
  |refine bJ a fun l a=>?_
  |refine OpX.npt A7 a rfl rfl rfl rfl rfl rfl rfl rfl rfl rfl rfl (fun l a=>?_)
  |exact ⟨_,a,aA []⟩
  |refine bS a (aA []) fun m v a=>?_
  |refine AndA ?_
  |refine bG ?_
  |exact aN a⟩
instance zv3 {n c b a}:CI E0 (Rl n c b a) true 198 [B8 c,Dn b,A7 a] (fun r=>.bool (r)):=by unfold Rl;exact aZ [1] Tryz.func198
instance zfo {n c b a}:CI E0 (K6 n c b a) true 197 [B8 c,.ref (Dp b),.ref (Bo a)] (fun r=>.bool (r)):=by unfold K6;exact aZ [] Tryz.func197
instance zha {n a b c}:CI E0 (Tq n a b c) true 235 [.sl 11 (a.map B8),.fn 197 [.ref (Dp b),.ref (Bo c)]] aI:=by unfold Tq;exact aZ [] cH
instance ze1 {n a b c}:CI E0 (Ta n a b c) true 175 [.sl 11 (a.map B8),.fn 197 [.ref (Dp b),.ref (Bo c)]] (fun r=>.bool (r)):=by unfold Ta;exact aZ [] bF
instance zhd {n d c b a}:CI E0 (Ib n d c b a) true 244 [B8 d,.ref (Bp c),.ref (Dp b),.ref (Bo a)] (fun r=>.bool (r)):=by unfold Ib;exact aZ [1] Tryz.func244
instance zh8 {n a b c d}:CI E0 (Tn n a b c d) true 235 [.sl 11 (a.map B8),.fn 244 [.ref (Bp b),.ref (Dp c),.ref (Bo d)]] aI:=by unfold Tn;exact aZ [] cH
instance ze0 {n a b c d}:CI E0 (T9 n a b c d) true 175 [.sl 11 (a.map B8),.fn 244 [.ref (Bp b),.ref (Dp c),.ref (Bo d)]] (fun r=>.bool (r)):=by unfold T9;exact aZ [] bF
set_option maxHeartbeats 400000 in
theorem zos (l:List (Cel 2))(S:Nat->Prop)(v:Value)(w:World)(h:Sl w S 2 encC v l)(d:l.length<=1000000000) :
  Calls aB 144 #[v] w (Nj 182 2 encC l w):=by
 have eok:EOk aB 88 182 2 16 (encC (n:=2)):=eokC (sz:=2) (E1 88 _ rfl) rfl (E1 182 _ rfl) (by omega) rfl;obtain ⟨A,c,rfl,f,_⟩:=h.form;have a:=fun (W:World)=>Lib.run_eql_slice_nil W 88 182 A l.length c 0 0 aC
 have H:=hide h;cases A with
 |none =>
  have g:l=[]:=h.none_nil;subst g;clear h H d f;simp only [bE,aH] at a ⊢
  go_enter bK,cB
  go_wp2
  go_ret
  exact ⟨none,0,rfl,bZ,by go_grown⟩
 |some ad =>
  clear h
  go_enter bK,cB
  go_wp2_with (at_builtin;refine M5 rfl _ _ rfl eok rfl aM rfl (H.out.alloc _) (by simp;omega) (by omega) (by simp) ?_;intro A' i w1 b e _)
  go_ret
  exact ⟨A',i,rfl,b,(aM (sz:=2) (enc:=encC (n:=2))).grown ((Below.refl _ _).alloc (aE _) _) (aE _) (by simp) e⟩
theorem zky {n a r}(b:Cm n a=some r):ConT E0 144 [.sl 2 (List.map Aj a)] 182 2 (List.map Aj r) (.row 0):=S1 rfl (B0 bK rfl rfl) zos b
instance zv4 {n b a}:CI E0 (Me n b a) true 288 [Aj b,aI a] aI:=by unfold Me;exact aZ [] Tryz.func288
instance zfn {n d c}:CI E0 (Ok n d c) true 287 [.sl 2 (d.map Aj),aI c,.fn 288 []] (fun r=>.tup [aI r.1,.bool (r.2)]):=⟨fun {r} b=>by
 unfold Ok at b;refine cw Tryz.func287 ?_;repeat' first
  |refine aK ?_;conv=>whnf
  |refine bB b (fun b=>?_) fun b=>?_
  |refine aR b fun x b=>?_
  |refine cA b fun a b=>?_
  |exact ⟨_,b,aA []⟩
  |refine ShX.o b (fun b=>?_)
  |refine bS b (aA []) fun m v b=>?_
  |exact aN b⟩
set_option maxRecDepth 100000 in
set_option maxHeartbeats 1600000 in
theorem zjs (l:List (Cel 2))(x:Cel 2)(i:Nat)(base:Nat)(A:Option Addr)(c g off c1:Nat)(w:World)(ho:Own w base 182 2 encC (.slice A l.length c) l)
  (N:Xk w g off (encC x)) (bo:1<=c1) (J:(Value.slice A l.length c).ownBlock≠some g) (hi:i<=l.length) (hl:l.length<=1000000000) (C:base<=w.heap.size) :
  Calls aB 289 #[.slice A l.length c,.int .i64 i,.slice (some ⟨g,off,none⟩) 1 c1] w (zy6 182 2 encC base (.slice A l.length c) (l.take i++x::l.drop i) w):=by
 have k:(l.take i++x::l.drop i).length=l.length+1:=by simp;omega
 have d:(encC x).length=2:=x.2.1;have eok:EOk aB 88 182 2 16 (encC (n:=2)):=eokC (sz:=2) (E1 88 _ rfl) rfl (E1 182 _ rfl) (by omega) rfl;by_cases bh:i=l.length
 ·subst bh;have bd:Hid (Sl w (fun _=>True) 2 encC (.slice (some ⟨g,off,none⟩) 1 c1) [x]):=Sl.one_x bo N;have H:=hide ho;have bg:Hid (l.take l.length++x::l.drop l.length=l++[x]):=by simp [Hid]
  have hc:l.length<=c:=by obtain ⟨_,_,he,h1,_⟩:=ho.val;injection he with _ _ hc;omega
  rw [bg.out];clear ho N J k
  go_enter aY,bD
  go_wp2_with (at_builtin;refine M5 (v:=.slice A l.length c) rfl _ _ rfl eok rfl H.out rfl bd.out (by simp;omega) (by omega) C ?_;intro A2 c2 w2 bf o aa)
  all_goals (go_ret;exact ⟨A2,c2,by simp,bf,by cases A<;>exact o,by cases A<;>exact aa⟩)
 ·rcases ho.2 with ⟨hv,h0⟩|⟨h,cn,r,hv,ar,hh,bx,aq,B,m⟩
  ·omega
  injection hv with hA _ bn
  subst hA;subst bn;have bk:h≠g:=fun e=>J (by simp [Value.ownBlock,e])
  have bz:i<l.length:=by omega
  have ad:((l.take i).flatMap encC).length=i*2:=by rw [zam (sz:=2) (fun y=>y.2.1)];simp;omega
  have L:((l.drop i).flatMap encC).length=(l.length-i)*2:=by rw [zam (sz:=2) (fun y=>y.2.1)];simp
  have E:(l.take i).flatMap encC++(l.drop i).flatMap encC=l.flatMap encC:=by rw [<-flatMap_append,bU]
  have p:(l.take i++x::l.drop i).flatMap encC=(l.take i).flatMap encC++encC x++(l.drop i).flatMap encC:=by simp [flatMap_append,flatMap_cons]
  have h2:=zqq eok.one (l.drop i);have K:=eok.one x;have P:r.toList=(l.take i).flatMap encC++(l.drop i).flatMap encC++r.toList.drop (l.length*2):=by rw [E,<-m,bU]
  generalize ch:(l.take i).flatMap encC=F1 at *;generalize cg:(l.drop i).flatMap encC=F2 at *;generalize hX:encC x=X at *;have av:(r.toList.drop (l.length*2)).length=c*2-l.length*2:=by simp [B]
  generalize r.toList.drop (l.length*2)=R at *;obtain ⟨r⟩:=r;simp only at P;subst P;generalize hn:l.length=n at *;by_cases V:n+1<=c
  ·have bj:(i:Int)<(n:Int):=by omega
   have f:Blk w h 182 (F1++F2++R).toArray:=hh;have bw:∀ lb cb,(callFunc 316 #[.slice (some ⟨g,off,none⟩) 1 c1,.slice (some ⟨h,(i+1)*2,none⟩) lb cb]).run aB w=.ok (.value (.bool false)) w:=fun lb cb=>by
    rw [run_callFunc_extern Tryz.func316 (by kernel_rfl) (by kernel_rfl) (by kernel_rfl) (e:=Extern.SlicesOverlaps.overlaps #[88,88] #[4]) (by kernel_rfl),
     zga w 88 4 182 aC 2 (fun _=>by kernel_rfl) ⟨g,off,none⟩ ⟨h,(i+1)*2,none⟩ 1 c1 lb cb (fun e=>bk e.symm) N.shape 182 (F1++F2++R).toArray.size (f.shape) (by rw [size_toArray,length_append,length_append];omega) (f.frozen _) (f.frozen _)]
    rfl
   have bt:=hide f;have bb:=hide N;have bm:Hid (F2.length=bL (n+1-i) (n-i)*2):=by unfold Hid;rw [show bL (n+1-i) (n-i)=n-i from Nat.min_eq_right (by omega)];exact L
   have s:Hid (∀ (W:World),W.heap=w.heap->∀ j u,F2[j]? = some u->W.cell? ((⟨h,i*2,none⟩:Addr).add j)=some u):=fun W hW j u I=>by
    have e:Blk W h 182 (F1++F2++R).toArray:=by unfold Blk;rw [hW];exact f
    rw [Addr.add_lit,e.cell];have hj:=(List.getElem?_eq_some_iff.1 I).1;simp only [aW];rw [bR,bA (by omega),aQ (by omega),show i*2+j-F1.length=j by omega];exact I
   have bq:=hide h2;have HL:=hide (aV k (aV p (aV ar B)));have d:=hide d;clear N f hh m J E B ho h2 k p
   go_enter aY,bD
   go_wp2_with fail
   have T:IntKind.i64.wrap ((i:Int)+1)=(i:Int)+1:=by rw [IntKind.wrap_i64];omega
   have ab:(0:Int)<=(i:Int)+1:=by omega
   have bi:i<=n:=by omega
   have U:((i:Int)+1).toNat=i+1:=by omega
   have aa:¬(c=i+1):=by omega
   have au:(i:Int)<=(n:Int)+1:=by omega
   have cj:¬(c=i):=by omega
   go_region_law (refine zb1 rfl _ _ 88 88 rfl 182 2 aC (by kernel_rfl) h ((i+1)*2) (n-i) (c-(i+1)) (n+1-i) (c-i) ⟨h,i*2,none⟩ (by simp [Act.eval,Act.put]) (by simp [Act.eval,Act.put]) 182 (F1++F2++R) bt.out F2 bm.out (s.out _ rfl) (by simp;omega) bq.out ?_;intro w1 F Y)
   clear T ab U aa;have az:Hid (Blk w1 h 182 ((F1++F2++R).take (i*2+2)++F2++(F1++F2++R).drop (i*2+2+F2.length)).toArray):=by
    have e:(i+1)*2=i*2+2:=by omega
    rw [e] at F;exact F
   have ac:Hid (∀ j u,X[j]? = some u->w1.cell? ((⟨g,off,none⟩:Addr).add j)=some u):=fun j u I=>by
    have e:Xk w1 g off X:=Xk.grown (w:=w.drew) bb.out Y (by simp;omega);rw [Addr.add_lit];exact e.cell I
   have ap:=hide (z1e Y);have D:=hide K;clear F Y K
   go_wp2_with (refine z8g rfl (.tmp 80) (.tmp 81) 88 88 rfl 182 2 aC (by kernel_rfl) h (i*2) (n+1-i) (c-i) 1 c1 ⟨g,off,none⟩ rfl rfl 182 _ az.out X (by rw [show bL 1 (n+1-i)=1 from bW (by omega)];exact d.out) ac.out (by have:=d.out;have:=av;simp;omega) D.out ?_;intro w2 M o)
   go_ret
   have a:=HL.out;refine ⟨some ⟨h,0,none⟩,c,by show Ending.returned (.slice (some ⟨h,0,none⟩) (n+1) c)=_;rw [a.1],Own.of_blk M a.2.2.1 (by rw [a.1];exact V) aq (by have:=d.out;have:=av;simp;omega) ?_ (fun y=>y.2.1),zbj ap.out o,aX rfl⟩;rw [a.1,a.2.1,<-zf8 F1 F2 R X (i*2) 2 ((n-i)*2) ad L d.out (by omega)];congr 1;omega
  ·have f:Blk w h 182 (F1++F2++R).toArray:=hh;obtain ⟨i0,z,al,ah,af,S,ag⟩:=eok.inf;have ak:i+(n+1-i)=n+1:=by omega
   have aj:(n:Int)+1-(i:Int)=((n+1-i:Nat):Int):=by omega
   have ce:h < w.heap.size:=f.lt;have cd:g<w.heap.size:=N.lt;have O:(Builtin.firstCells i0.size i (.slice (some ⟨h,0,none⟩) i c)).run aB w.drew=.ok F1.toArray w.drew:=by
    rw [af];refine run_firstCells_some w.drew 2 i ⟨h,0,none⟩ i c F1 ad (fun j v hj=>?_);have ca:=(List.getElem?_eq_some_iff.1 hj).1;rw [Addr.add_lit];refine (f.cell _).trans ?_;simp only [aW,Nat.zero_add];rw [bR,aQ (by omega)];exact hj
   have t:=fun ty=>Lib.run_append_grow_zeros w 88 3 ty 182 i0 z .i64 .i64 eok.und Tryz.underlying3 al ah (some ⟨h,0,none⟩) i c F1 O (n+1-i) (by omega) (by omega) (by omega) (by omega) (by rw [S];omega) (by rw [S,ak];exact growslice_fits (by omega) (by omega))
   rw [ak] at t;obtain ⟨G,hG⟩:∃ G,G=grownCap w (n+1) c 182:=⟨_,rfl⟩;rw [<-hG] at t;have br:n+1<=G:=by rw [hG];exact grownCap_ge w _ _ _
   have Q:G<=maxLen:=by rw [hG];exact grownCap_le_maxLen w (n+1) c 182 (by unfold maxLen;omega)
   obtain ⟨Z,hZ,ck⟩:∃ Z:List Value,F1.toArray++Builtin.zeroCells z.cells (n+1-i)++Builtin.zeroCells z.cells (G-(n+1))=(F1++Z).toArray/\Z.length=(G-i)*2 :=
    ⟨(Builtin.zeroCells z.cells (n+1-i)).toList++(Builtin.zeroCells z.cells (G-(n+1))).toList,by simp [Array.append_assoc],by simp [size_zeroCells,ag];omega⟩
   rw [hZ] at t;obtain ⟨W1,q⟩:∃ W1,W1=w.drew.alloc (.cells (F1++Z).toArray 182):=⟨_,rfl⟩;have bs:Hid (Blk W1 w.heap.size 182 (F1++Z).toArray):=by rw [q];exact Blk.new w.drew _ _
   have ba:Hid (Xk W1 g off X):=by rw [q];exact Xk.alloc (w:=w.drew) N _
   have F:Hid (Blk W1 h 182 (F1++F2++R).toArray):=by rw [q];exact Blk.alloc (w:=w.drew) f _
   have bl:Hid (∀ b,W1.grownBy b (some w.heap.size)->∀ row,w.grownBy b row):=fun b hb row=>by
    rw [q] at hb;exact z1e (zbk hb row)
   have ai:Hid (∀ ty,(Builtin.append_ #[88,3] ty #[.slice (some ⟨h,0,none⟩) i c,.int .i64 ((n:Int)+1-(i:Int))]).run aB w=.ok (.slice (some ⟨w.heap.size,0,none⟩) (n+1) G) W1):=fun ty=>by
    rw [aj,q];exact t ty
   have ac:Hid (∀ j u,X[j]? = some u->W1.cell? ((⟨g,off,none⟩:Addr).add j)=some u):=fun j u I=>by
    rw [Addr.add_lit];exact ba.out.cell I
   have HL:=hide (aV k (aV p (aV ar B)));have d:=hide d;have D:=hide K;have bu:=hide h2;have aw:Hid (F2.length=bL (n-i) (n-i)*2):=by unfold Hid;rw [show bL (n-i) (n-i)=n-i from Nat.min_self _];exact L
   have bj:(i:Int)<(n:Int):=by omega
   have cc:(c:Int)<(n:Int)+1:=by omega
   have bi:i<=n:=by omega
   have ci:¬(c=i):=by omega
   have cm:¬(G=i):=by omega
   have bv:¬(G=i+1):=by omega
   have cl:G<=9223372036854775807:=by unfold maxLen at Q;omega
   clear N f hh m J E B ho h2 k p K t O q hZ hG aj af S ag ah al aq
   go_enter aY,bD
   go_wp2_with (first|(at_builtin;refine Lib.wpList_append_run _ rfl _ _ _ _ rfl _ _ rfl rfl _ _ (ai.out _) ?_)|(refine z8g rfl (.tmp 43) (.tmp 44) 88 88 rfl 182 2 aC (by kernel_rfl) w.heap.size (i*2) (n+1-i) (G-i) 1 c1 ⟨g,off,none⟩ rfl rfl 182 _ bs.out X (by rw [show bL 1 (n+1-i)=1 from bW (by omega)];exact d.out) ac.out (by have:=d.out;simp;omega) D.out ?_;intro w2 M o))
   have cf:h≠w.heap.size:=by omega
   have s:Hid (∀ j u,F2[j]? = some u->w2.cell? ((⟨h,i*2,none⟩:Addr).add j)=some u):=fun j u I=>by
    have e:Blk w2 h 182 (F1++F2++R).toArray:=F.out.grown o (by simp;omega);rw [Addr.add_lit,e.cell];have hj:=(List.getElem?_eq_some_iff.1 I).1;simp only [aW];rw [bR,bA (by omega),aQ (by omega),show i*2+j-F1.length=j by omega];exact I
   have ao:=hide o;have ay:=hide M;have T:IntKind.i64.wrap ((i:Int)+1)=(i:Int)+1:=by rw [IntKind.wrap_i64];omega
   have ab:(0:Int)<=(i:Int)+1:=by omega
   have U:((i:Int)+1).toNat=i+1:=by omega
   have au:(i:Int)<=(n:Int):=by omega
   have bp:(i:Int)+1<=(n:Int)+1:=by omega
   clear o M
   go_region_law (refine zb1 rfl _ _ 88 88 rfl 182 2 aC (by kernel_rfl) w.heap.size ((i+1)*2) (n-i) (G-(i+1)) (n-i) (c-i) ⟨h,i*2,none⟩ (by simp [Act.eval,Act.put]) (by simp [Act.eval,Act.put]) 182 _ ay.out F2 aw.out s.out (by have:=d.out;simp;omega) bu.out ?_;intro w3 ae an)
   clear T ab U au bp;have ax:Hid (Blk w3 w.heap.size 182 (((F1++Z).take (i*2)++X++(F1++Z).drop (i*2+X.length)).take (i*2+2)++F2++((F1++Z).take (i*2)++X++(F1++Z).drop (i*2+X.length)).drop (i*2+2+F2.length)).toArray):=by
    have e:(i+1)*2=i*2+2:=by omega
    rw [e] at ae;exact ae
   have am:=hide (z1e an);clear ae an
   go_wp2
   go_ret
   have a:=HL.out;have bc:=d.out;refine ⟨some ⟨w.heap.size,0,none⟩,G,by show Ending.returned (.slice (some ⟨w.heap.size,0,none⟩) (n+1) G)=_;rw [a.1],Own.of_blk ax.out C (by rw [a.1];exact br) Q (by simp;omega) ?_ (fun y=>y.2.1),bl.out _ (zbj ao.out am.out) _,aG rfl⟩;rw [a.1,a.2.1,<-znh F1 F2 Z X (i*2) 2 ((n-i)*2) ad L bc (by omega)];congr 1;omega
theorem zhk {n a v r i}(b:S8 n a i v=some r):ConC false E0 289 [.row 0,aI i,.sl 2 (List.map Aj v)] 182 2 (List.map Aj a) 182 2 (List.map Aj r) (.row 0):=zuf rfl (B0 aY rfl rfl) (by omega) zjs b
end
noncomputable section
abbrev ze8 {n d a b}:=li (J3 n d a b) (fun c=>⟨[(2,aI d),(7,.row 7013),(14,.sl 1 (a.map aI)),(15,aI (((a.map aI).length:Int))),(16,aI c.1)],[(7013,.row 182 2 (c.2.map Aj))]⟩) fun _ _=>J3.eq_2 ..
abbrev z30 {n b a c}:=li (O3 n b a c) (fun d=>⟨[(0,.sl 2 (a.map Aj)),(1,.fn 291 [.ref (Zm b)]),(7,aI (((a.map Aj).length:Int))),(8,aI d)],[]⟩) fun _ _=>O3.eq_2 ..
abbrev zeb {n e a f b c}:=jf (M9 n e a f b c) (fun d=>⟨[(0,.sl 2 (f.map Aj)),(2,aI e),(10,.sl 2 (a.map Bu)),(11,aI (((a.map Bu).length:Int))),(12,aI b),(32,.bool (d))],[]⟩) fun _=>M9.eq_1 ..
abbrev zea {n d a e b}:=li (J4 n d a e b) (fun c=>⟨[(0,.sl 2 (e.map Aj)),(2,aI d),(10,.sl 2 (a.map Bu)),(11,aI (((a.map Bu).length:Int))),(12,aI c)],[]⟩) fun _ _=>J4.eq_2 ..
abbrev z2z {n b a c}:=li (O2 n b a c) (fun d=>⟨[(0,.sl 2 (a.map Aj)),(1,.fn 250 [.ref (Bp b)]),(7,aI (((a.map Aj).length:Int))),(8,aI d)],[]⟩) fun _ _=>O2.eq_2 ..
abbrev z80 {n c}:=li (Lc n c) (fun b=>⟨[(0,.row 200001),(1,.fn 250 [.ptr 100000 0]),(5,aI b.1),(6,aI b.2.1)],[(100000,.box 149 [aI b.2.2.1,aI b.2.2.2.1,aI b.2.2.2.2.1,aI b.2.2.2.2.2.1,aI b.2.2.2.2.2.2.1,.sl 8 (b.2.2.2.2.2.2.2.1.map idA),aI b.2.2.2.2.2.2.2.2.1,aI b.2.2.2.2.2.2.2.2.2.1,aI b.2.2.2.2.2.2.2.2.2.2.1,aI b.2.2.2.2.2.2.2.2.2.2.2.1,aI b.2.2.2.2.2.2.2.2.2.2.2.2.1,.str (b.2.2.2.2.2.2.2.2.2.2.2.2.2.1),.sl 1 (b.2.2.2.2.2.2.2.2.2.2.2.2.2.2.1.map aI),.sl 1 (b.2.2.2.2.2.2.2.2.2.2.2.2.2.2.2.1.map aI),.sl 8 (b.2.2.2.2.2.2.2.2.2.2.2.2.2.2.2.2.1.map idA),.sl 2 (b.2.2.2.2.2.2.2.2.2.2.2.2.2.2.2.2.2.1.map Bu),.sl 1 (b.2.2.2.2.2.2.2.2.2.2.2.2.2.2.2.2.2.2.1.map aI)]),(200001,.row 182 2 (b.2.2.2.2.2.2.2.2.2.2.2.2.2.2.2.2.2.2.2.map Aj))]⟩) fun _ _=>Lc.eq_2 ..
abbrev z5j {n f a g e c b}:=li (P3 n f a g e c b) (fun d=>⟨[(6,.ptr 6 0),(7,.ptr 7 0),(9,.ptr 9 0),(10,.ptr 10 0),(12,.row 52),(13,.ptr 13 0),(81,.sl 8 (a.fChecks.map idA)),(82,aI (((a.fChecks.map idA).length:Int))),(83,aI d)],[(6,.box 90 (C7 g)),(7,.box 149 (Bp a)),(9,.box 37 (Bo f)),(10,.box 90 [aI 0,.nils,.nils]),(13,.box 271 [.row 63]),(52,.row 182 2 (e.map Aj)),(63,.row 29 1 (List.map (fun q=>AV.sl 5 (List.map A7 q)) (c)))]⟩) fun _ _=>P3.eq_2 ..
abbrev z5k {n a c d e}:=jf (Fz n a c d e) (fun b=>⟨[(6,.ptr 6 0),(7,.ptr 7 0),(8,.ptr 8 0),(9,.ptr 9 0),(10,.ptr 10 0),(44,.bool (b))],[(6,.box 90 (C7 e)),(7,.box 149 (Bp d)),(8,.box 271 (Dp c)),(9,.box 37 (Bo a)),(10,.box 90 [aI 0,.nils,.nils])]⟩) fun _=>Fz.eq_1 ..
attribute [instance] ze8 z30 zeb zea z2z z80 z5j z5k
def z9f (r:(List Ap)):AV:=.row 0
theorem zft {n e d c r}(b:W4 n e d c=some r):ConT E0 245 [.sl 2 (e.map Aj),.sl 1 (d.map aI),aI c] 182 2 (r.map Aj) (z9f r):=by
 unfold W4 at b;refine ConT.walk _ cI rfl (B0 cI rfl rfl) rfl rfl ?_;repeat' first
  |refine AW.jI2 b (fun v b=>?_) fun b=>?_
  |refine aU b fun b=>?_
  |refine aP [6] ?_;conv=>whnf
  |refine bB b (fun b=>?_) fun b=>?_
  |refine cU b (fun r=>r) Aj (fun _=>AV.row 0) rfl (fun a h=>zky h) (fun a b=>?_)
  |refine aR b fun x b=>?_
  |refine B7.I b (fun a b=>?_) rfl rfl fun _=>aG rfl
  |refine NatX.o b (fun m b=>?_)
  |refine LtX.o b (fun b=>?_)
  |refine SetX.o Aj b (fun x=>rfl) (fun x=>(by first|exact bC _|(repeat' first|exact SubL.nil|refine SubL.cons ?_ ?_|exact Sub.refl _|exact Sub.nil _|refine Sub.agg ?_))) (fun l b=>?_)
  |exact ⟨_,b,aA [(7013,7033)]⟩
  |refine B7.oC b 7013 (fun r=>r) Aj (fun _=>AV.row 0) rfl (fun a h=>zhk h) rfl rfl rfl rfl rfl rfl (fun a b=>?_)
  |exact ⟨_,b,aA [(7033,33)]⟩
  |exact ⟨_,b,aA [(7033,7013)]⟩
  |refine bS b ?_ fun m v b=>?_
  |exact aA [(7013,13)]
  |refine TX.o (rl:=fun r=>r.map Aj) (res:=z9f) b ?_;exact TX.mk _ 7013 (LeX.refl _ _ _) _ rfl rfl (by repeat' first|exact Sub.nil _|exact Sub.refl _|refine Sub.agg ?_|refine Sub.tup ?_|refine Sub.fn ?_|exact SubL.nil|refine SubL.cons ?_ ?_|refine Sub.sl _ ?_|exact SubE.nil|refine SubE.cons ?_ ?_)
instance zv5 {n b a}:CI E0 (Vv n b a) true 291 [Aj b,.ref (Zm a)] (fun r=>.bool (r)):=by unfold Vv;exact aZ [] Tryz.func291
instance zh7 {n a b}:CI E0 (Tm n a b) true 290 [.sl 2 (a.map Aj),.fn 291 [.ref (Zm b)]] aI:=by unfold Tm;exact aZ [] cJ
instance zyd {n e d c}:CI E0 (W5 n e d c) true 246 [.sl 2 (e.map Aj),.sl 2 (d.map Bu),aI c] (fun r=>.bool (r)):=⟨fun {r} b=>by
 unfold W5 at b;refine cw Tryz.func246 ?_;repeat' first
  |refine AW.jI b (fun v b=>?_) fun b=>?_
  |refine aU b fun b=>?_
  |refine aP [5] ?_;conv=>whnf
  |refine bB b (fun b=>?_) fun b=>?_
  |refine aR b fun x b=>?_
  |refine B7.I b (fun a b=>?_) rfl rfl fun _=>aG rfl
  |exact ⟨_,b,aA []⟩
  |refine bS b (aA []) fun m v b=>?_
  |refine AndA ?_
  |exact aN b⟩
set_option maxHeartbeats 400000 in
theorem zop (l:List (Cel 1))(S:Nat->Prop)(v:Value)(w:World)(h:Sl w S 1 encC v l)(d:l.length<=1000000000) :
  Calls aB 247 #[v] w (Nj 29 1 encC l w):=by
 have eok:EOk aB 269 29 1 24 (encC (n:=1)):=eokC (sz:=1) (E1 269 _ rfl) rfl (E1 29 _ rfl) (by omega) rfl;obtain ⟨A,c,rfl,f,_⟩:=h.form;have a:=fun (W:World)=>Lib.run_eql_slice_nil W 269 29 A l.length c 0 0 Tryz.underlying269
 have H:=hide h;cases A with
 |none =>
  have g:l=[]:=h.none_nil;subst g;clear h H d f;simp only [bE,aH] at a ⊢
  go_enter bM,cC
  go_wp2
  go_ret
  exact ⟨none,0,rfl,bZ,by go_grown⟩
 |some ad =>
  clear h
  go_enter bM,cC
  go_wp2_with (at_builtin;refine M5 rfl _ _ rfl eok rfl aM rfl (H.out.alloc _) (by simp;omega) (by omega) (by simp) ?_;intro A' i w1 b e _)
  go_ret
  exact ⟨A',i,rfl,b,(aM (sz:=1) (enc:=encC (n:=1))).grown ((Below.refl _ _).alloc (aE _) _) (aE _) (by simp) e⟩
theorem zkv {n a r}(b:Cm n a=some r):ConT E0 247 [.sl 1 (List.map (fun q=>AV.sl 5 (List.map A7 q)) a)] 29 1 (List.map (fun q=>AV.sl 5 (List.map A7 q)) r) (.row 0):=S1 rfl (B0 bM rfl rfl) zop b
set_option maxHeartbeats 400000 in
theorem zoo (l:List (Cel 5))(S:Nat->Prop)(v:Value)(w:World)(h:Sl w S 5 encC v l)(d:l.length<=1000000000) :
  Calls aB 248 #[v] w (Nj 37 5 encC l w):=by
 have eok:EOk aB 29 37 5 56 (encC (n:=5)):=eokC (sz:=5) (E1 29 _ rfl) rfl (E1 37 _ rfl) (by omega) rfl;obtain ⟨A,c,rfl,f,_⟩:=h.form;have a:=fun (W:World)=>Lib.run_eql_slice_nil W 29 37 A l.length c 0 0 Tryz.underlying29
 have H:=hide h;cases A with
 |none =>
  have g:l=[]:=h.none_nil;subst g;clear h H d f;simp only [bE,aH] at a ⊢
  go_enter bN,cD
  go_wp2
  go_ret
  exact ⟨none,0,rfl,bZ,by go_grown⟩
 |some ad =>
  clear h
  go_enter bN,cD
  go_wp2_with (at_builtin;refine M5 rfl _ _ rfl eok rfl aM rfl (H.out.alloc _) (by simp;omega) (by omega) (by simp) ?_;intro A' i w1 b e _)
  go_ret
  exact ⟨A',i,rfl,b,(aM (sz:=5) (enc:=encC (n:=5))).grown ((Below.refl _ _).alloc (aE _) _) (aE _) (by simp) e⟩
theorem zku {n a r}(b:Cm n a=some r):ConT E0 248 [.sl 5 (List.map A7 a)] 37 5 (List.map A7 r) (.row 0):=S1 rfl (B0 bN rfl rfl) zoo b
instance zhc {n b a}:CI E0 (Ky n b a) true 250 [Aj b,.ref (Bp a)] (fun r=>.bool (r)):=by unfold Ky;exact aZ [] bO
instance zh6 {n a b}:CI E0 (Tl n a b) true 290 [.sl 2 (a.map Aj),.fn 250 [.ref (Bp b)]] aI:=by unfold Tl;exact aZ [] cJ
def z1u (b:Ap)(a:Ae):List (Nat×Ent):=[(100000,.box 149 (Bp a))]
def Xa (r:Bool×Ae):List (Nat×Ent):=[(100000,.box 149 (Bp r.2))]
def z00 (r:Bool×Ae):AV:=.bool (r.1)
def z1t (r:Bool×Ae):AS:=⟨[(3,.bool (r.1)),(1,.ptr 100000 0)],Xa r⟩
theorem z1i {n c d r}(b:Nt n c d=some r):ConG E0.P none (CalF E0.P 250 0) [Aj c,.ptr 100000 0] [] (z1u c d) (z00 r) (Xa r):=by
 unfold Nt at b;refine aJ (E:=(E0p 2)) (caps:=[]) _ bO rfl rfl rfl rfl rfl ?_;repeat' first
  |refine aK ?_;conv=>whnf
  |refine cA b fun a b=>?_
  |exact GX.A (res:=z00) (meF:=Xa) b z1t
def zay (b:Ae)(a:(List Ap)):List (Nat×Ent):=[(100000,.box 149 (Bp b)),(200001,.row 182 2 (a.map Aj))]
def Uj (r:(List Ap)×Ae):List (Nat×Ent):=[(260000,.row 182 2 (r.1.map Aj)),(100000,.box 149 (Bp r.2))]
def Yu (r:(List Ap)×Ae):AV:=.row 260000
def z2d (r:(List Ap)×Ae):AS:=⟨[(4,.row 260000),(1,.fn 250 [.ptr 100000 0])],Uj r⟩
theorem z8w {n d c r}(b:Ur n d c=some r):ConG E0.P none (CalF E0.P 249 0) [.row 200001,.fn 250 [.ptr 100000 0]] [] (zay d c) (Yu r) (Uj r):=by
 unfold Ur at b;refine aJ (E:=(E0p 2)) (caps:=[]) _ cK rfl rfl rfl rfl rfl ?_;repeat' first
  |refine aK ?_;conv=>whnf
  |refine bB b (fun b=>?_) fun b=>?_
  |refine B7.I b (fun a b=>?_) rfl rfl fun _=>aG rfl
  |refine GX.o (res:=Yu) (meF:=Uj) b ?_;exact GX.mk (z2d _) (aA [(260000,200001)]) rfl _ rfl (by repeat' first|exact Sub.nil _|exact Sub.refl _|refine Sub.agg ?_|refine Sub.tup ?_|refine Sub.fn ?_|exact SubL.nil|refine SubL.cons ?_ ?_|refine Sub.sl _ ?_|exact SubE.nil|refine SubE.cons ?_ ?_) [100000] ⟨aG ⟨1,0,_,_,_,_,_,aD rfl,rfl,rfl,rfl,rfl,rfl⟩,trivial⟩ rfl
  |refine OpX.sub b rfl rfl rfl rfl rfl rfl rfl rfl rfl rfl (fun m b=>?_)
  |refine OpX.clr Aj b rfl rfl rfl rfl rfl rfl rfl rfl rfl rfl rfl (by first|exact bC _|(repeat' first|exact SubL.nil|refine SubL.cons ?_ ?_|exact Sub.refl _|exact Sub.nil _|refine Sub.agg ?_)) (fun l b=>?_)
  |refine SlsX.o Aj b (fun l b=>?_)
  |refine GX.o (res:=Yu) (meF:=Uj) b ?_;exact GX.mk (z2d _) (aA [(260000,41)]) rfl _ rfl (by repeat' first|exact Sub.nil _|exact Sub.refl _|refine Sub.agg ?_|refine Sub.tup ?_|refine Sub.fn ?_|exact SubL.nil|refine SubL.cons ?_ ?_|refine Sub.sl _ ?_|exact SubE.nil|refine SubE.cons ?_ ?_) [100000] ⟨aG ⟨1,0,_,_,_,_,_,aD rfl,rfl,rfl,rfl,rfl,rfl⟩,trivial⟩ rfl
  |refine NatX.o b (fun m b=>?_)
  |refine EltX.o Aj b (fun x b=>?_)
  |refine bV (Bg 28 b) [(100000,100000)] [(100000,100000)] _ _ Xa z00 [] (fun a h=>aF (z1i h)) (B0 bO rfl rfl) rfl rfl rfl ⟨⟨rfl,rfl⟩,trivial⟩ (fun a=>⟨rfl,rfl,rfl,rfl,rfl,rfl,rfl,rfl⟩) (fun a b=>?_)
  |refine SetX.o Aj b (fun x=>rfl) (fun x=>(by first|exact bC _|(repeat' first|exact SubL.nil|refine SubL.cons ?_ ?_|exact Sub.refl _|exact Sub.nil _|refine Sub.agg ?_))) (fun l b=>?_)
  |exact ⟨_,b,aA []⟩
  |refine bS b (aA []) fun m v b=>?_
  |refine bG ?_
set_option maxHeartbeats 400000 in
theorem zot (l:List (Cel 4))(S:Nat->Prop)(v:Value)(w:World)(h:Sl w S 4 encC v l)(d:l.length<=1000000000) :
  Calls aB 143 #[v] w (Nj 93 4 encC l w):=by
 have eok:EOk aB 62 93 4 32 (encC (n:=4)):=eokC (sz:=4) (E1 62 _ rfl) rfl (E1 93 _ rfl) (by omega) rfl;obtain ⟨A,c,rfl,f,_⟩:=h.form;have a:=fun (W:World)=>Lib.run_eql_slice_nil W 62 93 A l.length c 0 0 Tryz.underlying62
 have H:=hide h;cases A with
 |none =>
  have g:l=[]:=h.none_nil;subst g;clear h H d f;simp only [bE,aH] at a ⊢
  go_enter bP,cE
  go_wp2
  go_ret
  exact ⟨none,0,rfl,bZ,by go_grown⟩
 |some ad =>
  clear h
  go_enter bP,cE
  go_wp2_with (at_builtin;refine M5 rfl _ _ rfl eok rfl aM rfl (H.out.alloc _) (by simp;omega) (by omega) (by simp) ?_;intro A' i w1 b e _)
  go_ret
  exact ⟨A',i,rfl,b,(aM (sz:=4) (enc:=encC (n:=4))).grown ((Below.refl _ _).alloc (aE _) _) (aE _) (by simp) e⟩
theorem zkz {n a r}(b:Cm n a=some r):ConT E0 143 [.sl 4 (List.map B6 a)] 93 4 (List.map B6 r) (.row 0):=S1 rfl (B0 bP rfl rfl) zot b
end
noncomputable section
abbrev z1q {n d c}:=li (Jo n d c) (fun b=>⟨[(0,.row 200000),(1,.fn 128 [.ref [.fn 64 []]]),(5,aI b.1),(6,.der (.sub 1 (d)) 200000),(7,aI b.2.1)],[(200000,.row 64 1 (b.2.2.map Az))]⟩) fun _ _=>Jo.eq_2 ..
abbrev z1r {n a b}:=li (Ns n a b) (fun c=>⟨[(0,.row 200000),(1,.fn 128 [.ref [.fn 64 []]]),(5,aI c)],[(200000,.row 64 1 (a.map Az))]⟩) fun _ _=>Ns.eq_2 ..
abbrev z5l {n e d a c}:=li (P4 n e d a c) (fun b=>⟨[(0,.ref [aI a.fa.fVars,aI a.fa.fScopes,.sl 1 (a.fa.fStates.map Ao),.sl 17 (a.fa.fEdges.map A9),.mapv (List.map (encM Bn A7) (a.fheld))]),(5,.ptr 5 0),(8,.ptr 8 0),(9,.ptr 9 0),(13,.sl 3 (d.map Ai)),(14,aI (((d.map Ai).length:Int))),(15,aI b.1)],[(5,.box 37 (Bo e)),(8,.box 49 [.row 811000001]),(9,.box 50 [.row 811000003]),(811000001,.row 90 3 (b.2.1.map Ai)),(811000003,.row 64 1 (b.2.2.map Az))]⟩) fun _ _=>P4.eq_2 ..
attribute [instance] z1q z1r z5l
instance zkn {n c g f e d}:CI E0 (Q9 n c g f e d) false 199 [.ref [aI c.fa.fVars,aI c.fa.fScopes,.sl 1 (c.fa.fStates.map Ao),.sl 17 (c.fa.fEdges.map A9),.mapv (List.map (encM Bn A7) (c.fheld))],Ai g,A9 f,Dn e,A7 d] (fun r=>.tup [Ai r.1,.bool (r.2)]):=⟨fun {r} b=>by
 unfold Q9 at b;refine cw Tryz.func199 ?_;repeat' first
  |refine AW.jI b (fun v b=>?_) fun b=>?_
  |refine aU b fun b=>?_
  |refine aP [1] ?_;conv=>whnf
  |refine bB b (fun b=>?_) fun b=>?_
  |refine cR ?_
  |refine cU b (fun r=>r) Aj z9f rfl (fun a h=>zft h) (fun a b=>?_)
  |refine B7.I b (fun a b=>?_) rfl rfl fun _=>aG rfl
  |refine cU b (fun r=>r) (fun q=>AV.sl 5 (List.map A7 q)) (fun _=>AV.row 0) rfl (fun a h=>zkv h) (fun a b=>?_)
  |refine IdxX.o (fun q=>AV.sl 5 (List.map A7 q)) b fun x b=>?_
  |refine cU b (fun r=>r) A7 (fun _=>AV.row 0) rfl (fun a h=>zku h) (fun a b=>?_)
  |refine bJ b fun l b=>?_
  |refine NatX.o b (fun m b=>?_)
  |refine OpX.str A7 b rfl rfl rfl rfl rfl rfl rfl rfl rfl rfl rfl (fun l b=>?_)
  |refine bV (Bg 96 b) [(100000,7),(200001,52)] [(260000,97000000),(100000,7)] _ _ Uj Yu [52] (fun a h=>aF (z8w h)) (B0 cK rfl rfl) rfl rfl rfl ⟨⟨rfl,rfl⟩,⟨⟨rfl,rfl⟩,trivial⟩⟩ (fun a=>⟨rfl,rfl,rfl,rfl,rfl,rfl,rfl,rfl⟩) (fun a b=>?_)
  |refine cU b (fun r=>r) B6 (fun _=>AV.row 0) rfl (fun a h=>zkz h) (fun a b=>?_)
  |refine cA b fun a b=>?_
  |refine IdxX.oD b Dg (fun x b=>?_)
  |refine B7.o b zp1 (fun a h=>Con.sub (by repeat' first|exact Sub.nil _|exact Sub.refl _|refine Sub.agg ?_|refine Sub.tup ?_|refine Sub.fn ?_|exact SubL.nil|refine SubL.cons ?_ ?_|refine Sub.sl _ ?_|exact SubE.nil|refine SubE.cons ?_ ?_) (zhh.h h)) (fun _=>aG rfl) (fun a b=>?_)
  |exact ⟨_,b,aA []⟩
  |refine bS b (aA []) fun m v b=>?_
  |refine cO rfl rfl rfl rfl ?_
  |refine aR b fun x b=>?_
  |refine AndA ?_
  |exact aN b⟩
def z1h (yl_l:Nat)(yl_T:Array Value)(c:A6)(d:A5)(a:Be)(e:Aq)(b:Int×(List A5)×(List Aa)):AS:=⟨[(0,.yld yl_l yl_T [.any,.any,.any,.any,.any,.any,.any,.any,.ptr 100000 0,.ptr 100001 0]),(1,.ptr 100002 0),(2,.ptr 100003 0),(3,.ptr 100004 0),(5,.ptr 5 0),(39,.sl 17 (a.fa.fEdges.map A9)),(40,aI (((a.fa.fEdges.map A9).length:Int))),(41,aI (b.1))],[(100000,.box 49 [.row 33000001]),(100001,.box 50 [.row 33000003]),(100002,.box 128 [.ref [aI (a.fa.fVars),aI (a.fa.fScopes),.sl 1 (a.fa.fStates.map Ao),.sl 17 (a.fa.fEdges.map A9),.mapv (List.map (encM Bn A7) (a.fheld))]]),(100003,.box 90 [aI (d.fState),.sl 4 (d.fBindings.map B6),.sl 2 (d.fStarts.map Aj)]),(100004,.box 37 [aI (c.fSource),aI (c.fSeq),aI (c.fType),aI (c.fTime),.sl 3 (c.fValues.map Ac)]),(5,.box 271 [.sl 1 (List.map (fun q=>AV.sl 5 (List.map A7 q)) (e.fVars))]),(33000001,.row 90 3 (b.2.1.map Ai)),(33000003,.row 64 1 (b.2.2.map Az))]⟩
theorem z1d {n yl_l yl_R yl_T c d e a b}:y3x (E0y yl_l yl_R 4) 67 (Hw n c d e a b) (z1h yl_l yl_T c d e a):=LoopA.oT fun _=>rfl
def z1g (yl_l:Nat)(yl_T:Array Value)(c:A6)(d:A5)(a:Be)(e:Aq)(b:Int×(List A5)×(List Aa)):AS:=⟨[(0,.yld yl_l yl_T [.any,.any,.any,.any,.any,.any,.any,.any,.ptr 100000 0,.ptr 100001 0]),(1,.ptr 100002 0),(2,.ptr 100003 0),(3,.ptr 100004 0),(5,.ptr 5 0),(39,.sl 17 (a.fa.fEdges.map A9)),(40,aI (((a.fa.fEdges.map A9).length:Int))),(41,aI (b.1))],[(100000,.box 49 [.row 200000]),(100001,.box 50 [.row 200001]),(100002,.box 128 [.ref [aI (a.fa.fVars),aI (a.fa.fScopes),.sl 1 (a.fa.fStates.map Ao),.sl 17 (a.fa.fEdges.map A9),.mapv (List.map (encM Bn A7) (a.fheld))]]),(100003,.box 90 [aI (d.fState),.sl 4 (d.fBindings.map B6),.sl 2 (d.fStarts.map Aj)]),(100004,.box 37 [aI (c.fSource),aI (c.fSeq),aI (c.fType),aI (c.fTime),.sl 3 (c.fValues.map Ac)]),(5,.box 271 [.sl 1 (List.map (fun q=>AV.sl 5 (List.map A7 q)) (e.fVars))]),(200000,.row 90 3 (b.2.1.map Ai)),(200001,.row 64 1 (b.2.2.map Az))]⟩
theorem z1c {n yl_l yl_R yl_T c d e a b}:y3x (E0y yl_l yl_R 4) 67 (Hv n c d e a b) (z1g yl_l yl_T c d e a):=LoopA.oT fun _=>rfl
def z1v (e:(List A5))(d:(List Aa))(a:Be)(c:A5)(b:A6):List (Nat×Ent):=[(100000,.box 49 [.row 200000]),(200000,.row 90 3 (e.map Ai)),(100001,.box 50 [.row 200001]),(200001,.row 64 1 (d.map Az)),(100002,.box 128 [.ref [aI a.fa.fVars,aI a.fa.fScopes,.sl 1 (a.fa.fStates.map Ao),.sl 17 (a.fa.fEdges.map A9),.mapv (List.map (encM Bn A7) (a.fheld))]]),(100003,.box 90 (C7 c)),(100004,.box 37 (Bo b))]
def T4 (r:(List A5)×(List Aa)×Be×A5×A6):List (Nat×Ent):=[(100000,.box 49 [.row 250000]),(250000,.row 90 3 (r.1.map Ai)),(100001,.box 50 [.row 250001]),(250001,.row 64 1 (r.2.1.map Az)),(100002,.box 128 [.ref [aI r.2.2.1.fa.fVars,aI r.2.2.1.fa.fScopes,.sl 1 (r.2.2.1.fa.fStates.map Ao),.sl 17 (r.2.2.1.fa.fEdges.map A9),.mapv (List.map (encM Bn A7) (r.2.2.1.fheld))]]),(100003,.box 90 (C7 r.2.2.2.1)),(100004,.box 37 (Bo r.2.2.2.2))]
def z01 (r:(List A5)×(List Aa)×Be×A5×A6):AV:=.tup []
def z0j (yl_l:Nat)(yl_T:Array Value)(r:(List A5)×(List Aa)×Be×A5×A6):AS:=⟨[(0,.yld yl_l yl_T [.any,.any,.any,.any,.any,.any,.any,.any,.ptr 100000 0,.ptr 100001 0]),(1,.ptr 100002 0),(2,.ptr 100003 0),(3,.ptr 100004 0)],T4 r⟩
theorem z1j {n d c i g f r}(b:T5 n d c i g f=some r)(yl_l:Nat)(yl_R:Obj)(yl_T:Array Value)(e:∀ {n:Nat} {j:A5} {d:(List A5)} {c:(List Aa)} {r:(List A5)×(List Aa)},P5 n j d c=some r->ConG E0.P (some (yl_l,yl_R)) (fun vs cs w R=>cs=yl_T->CalY E0.P yl_l vs cs w R) [Ai j] [.any,.any,.any,.any,.any,.any,.any,.any,.ptr 100000 0,.ptr 100001 0] (z5w d c) (.bool true) (Ka r)):ConG E0.P (some (yl_l,yl_R)) (CalF E0.P 195 0) [.yld yl_l yl_T [.any,.any,.any,.any,.any,.any,.any,.any,.ptr 100000 0,.ptr 100001 0],.ptr 100002 0,.ptr 100003 0,.ptr 100004 0] [] (z1v d c i g f) (z01 r) (T4 r):=by
 unfold T5 at b;refine aJ (E:=(E0y yl_l yl_R 4)) (caps:=[]) _ cL rfl rfl rfl rfl rfl ?_;repeat' first
  |refine aK ?_;conv=>whnf
  |refine bB b (fun b=>?_) fun b=>?_
  |refine cN ?_
  |refine cA b fun a b=>?_
  |refine cO rfl rfl rfl rfl ?_
  |refine aR b fun x b=>?_
  |refine B7.I b (fun a b=>?_) rfl rfl fun _=>aG rfl
  |refine YldX.oM (Bg 32 b) [(100000,100000),(200000,200000),(100001,100001),(200001,200001)] [(100000,100000),(250000,33000001),(100001,100001),(250001,33000003)] _ _ _ Ka (fun _=>AV.bool true) [200000,200001] (fun a h=>e h) rfl rfl rfl rfl rfl ⟨⟨rfl,rfl⟩,⟨⟨rfl,rfl⟩,⟨⟨rfl,rfl⟩,⟨⟨rfl,rfl⟩,trivial⟩⟩⟩⟩ (fun a=>⟨rfl,rfl,rfl,rfl,rfl,rfl,rfl,rfl⟩) (fun a b=>?_)
  |refine GX.o (res:=z01) (meF:=T4) b ?_;exact GX.mk (z0j yl_l yl_T _) (aA [(250000,33000001),(250001,33000003)]) rfl _ rfl (by repeat' first|exact Sub.nil _|exact Sub.refl _|refine Sub.agg ?_|refine Sub.tup ?_|refine Sub.fn ?_|exact SubL.nil|refine SubL.cons ?_ ?_|refine Sub.sl _ ?_|exact SubE.nil|refine SubE.cons ?_ ?_) [100000,100001] ⟨aX ⟨0,0,8,_,_,_,_,_,_,rfl,rfl,rfl,rfl,rfl⟩,⟨aX ⟨0,0,9,_,_,_,_,_,_,rfl,rfl,rfl,rfl,rfl⟩,trivial⟩⟩ rfl
  |exact ⟨_,b,aA []⟩
  |refine YldX.oM (Bg 63 b) [(100000,100000),(200000,33000001),(100001,100001),(200001,33000003)] [(100000,100000),(250000,64000001),(100001,100001),(250001,64000003)] _ _ _ Ka (fun _=>AV.bool true) [33000001,33000003] (fun a h=>e h) rfl rfl rfl rfl rfl ⟨⟨rfl,rfl⟩,⟨⟨rfl,rfl⟩,⟨⟨rfl,rfl⟩,⟨⟨rfl,rfl⟩,trivial⟩⟩⟩⟩ (fun a=>⟨rfl,rfl,rfl,rfl,rfl,rfl,rfl,rfl⟩) (fun a b=>?_)
  |exact ⟨_,b,aA [(33000001,64000001),(33000003,64000003)]⟩
  |refine z1d b (aA []) (fun m v b=>?_);unfold Hw at b
  |refine GX.o (res:=z01) (meF:=T4) b ?_;exact GX.mk (z0j yl_l yl_T _) (aA [(250000,200000),(250001,200001)]) rfl _ rfl (by repeat' first|exact Sub.nil _|exact Sub.refl _|refine Sub.agg ?_|refine Sub.tup ?_|refine Sub.fn ?_|exact SubL.nil|refine SubL.cons ?_ ?_|refine Sub.sl _ ?_|exact SubE.nil|refine SubE.cons ?_ ?_) [100000,100001] ⟨aX ⟨0,0,8,_,_,_,_,_,_,rfl,rfl,rfl,rfl,rfl⟩,⟨aX ⟨0,0,9,_,_,_,_,_,_,rfl,rfl,rfl,rfl,rfl⟩,trivial⟩⟩ rfl
  |refine YldX.oM (Bg 63 b) [(100000,100000),(200000,200000),(100001,100001),(200001,200001)] [(100000,100000),(250000,64000001),(100001,100001),(250001,64000003)] _ _ _ Ka (fun _=>AV.bool true) [200000,200001] (fun a h=>e h) rfl rfl rfl rfl rfl ⟨⟨rfl,rfl⟩,⟨⟨rfl,rfl⟩,⟨⟨rfl,rfl⟩,⟨⟨rfl,rfl⟩,trivial⟩⟩⟩⟩ (fun a=>⟨rfl,rfl,rfl,rfl,rfl,rfl,rfl,rfl⟩) (fun a b=>?_)
  |exact ⟨_,b,aA [(200000,64000001),(200001,64000003)]⟩
  |refine z1c b (aA []) (fun m v b=>?_);unfold Hv at b
  |refine AndA ?_
instance zqy {n b a}:CI E0 (R1 n b a) true 128 [Az b,Az a,.ref [.fn 64 []]] (fun r=>.bool (r)):=by unfold R1;exact aZ [] Tryz.func128
def z4k (a:(List Aa)):List (Nat×Ent):=[(200000,.row 64 1 (a.map Az))]
def Tb (r:(List Aa)):List (Nat×Ent):=[(260000,.row 64 1 (r.map Az))]
def Xj (r:(List Aa)):AV:=.row 260000
def z0v (r:(List Aa)):AS:=⟨[(4,.row 260000)],Tb r⟩
theorem z28 {n c r}(b:Tf n c=some r):ConG E0.P none (CalF E0.P 127 0) [.row 200000,.fn 128 [.ref [.fn 64 []]]] [] (z4k c) (Xj r) (Tb r):=by
 unfold Tf at b;refine aJ (E:=(E0p 2)) (caps:=[]) _ cM rfl rfl rfl rfl rfl ?_;repeat' first
  |refine aK ?_;conv=>whnf
  |refine bB b (fun b=>?_) fun b=>?_
  |exact GX.A (res:=Xj) (meF:=Tb) b z0v (h1:=aA [(260000,200000)])
  |refine NatX.o b (fun m b=>?_)
  |refine EltX.o Az b (fun x b=>?_)
  |refine cA b fun a b=>?_
  |refine OpX.sub b rfl rfl rfl rfl rfl rfl rfl rfl rfl rfl (fun m b=>?_)
  |refine OpX.clr Az b rfl rfl rfl rfl rfl rfl rfl rfl rfl rfl rfl (by first|exact bC _|(repeat' first|exact SubL.nil|refine SubL.cons ?_ ?_|exact Sub.refl _|exact Sub.nil _|refine Sub.agg ?_)) (fun l b=>?_)
  |refine SlsX.o Az b (fun l b=>?_)
  |exact GX.A (res:=Xj) (meF:=Tb) b z0v (h1:=aA [(260000,64)])
  |refine OpX.lns b rfl rfl rfl rfl rfl rfl rfl (fun b=>?_)
  |refine OpX.ixs b rfl rfl rfl rfl rfl rfl rfl rfl rfl rfl (fun m b=>?_)
  |refine SetX.o Az b (fun x=>rfl) (fun x=>(by first|exact bC _|(repeat' first|exact SubL.nil|refine SubL.cons ?_ ?_|exact Sub.refl _|exact Sub.nil _|refine Sub.agg ?_))) (fun l b=>?_)
  |exact ⟨_,b,aA []⟩
  |refine bS b (aA []) fun m v b=>?_
  |refine AndA ?_
  |refine bG ?_
def zcn (a:(List Aa)):List (Nat×Ent):=[(200000,.row 64 1 (a.map Az))]
def Vf (r:(List Aa)):List (Nat×Ent):=[(260000,.row 64 1 (r.map Az))]
def Z1 (r:(List Aa)):AV:=.row 260000
def zcl (r:(List Aa)):AS:=⟨[(4,.row 260000)],Vf r⟩
theorem z29 {n c r}(b:M3 n c=some r):ConG E0.P none (CalF E0.P 63 0) [.row 200000,.fn 64 []] [] (zcn c) (Z1 r) (Vf r):=by
 unfold M3 at b;refine aJ (E:=(E0p 2)) (caps:=[]) _ cP rfl rfl rfl rfl rfl ?_;repeat' first
  |refine AW.frbO b 3 rfl rfl (fun b=>?_)
  |refine aU b fun b=>?_
  |refine aP [2] ?_;conv=>whnf
  |refine B7.oI b 200000 (fun r=>r) Az (fun _=>AV.tup []) rfl (fun a h=>(ConC.env rfl (zts h))) rfl rfl rfl (fun a b=>?_)
  |refine bV (Bg 10 b) [(200000,200000)] [(260000,11000000)] _ _ Tb Xj [200000] (fun a h=>aF (z28 h)) (B0 cM rfl rfl) rfl rfl rfl ⟨⟨rfl,rfl⟩,trivial⟩ (fun a=>⟨rfl,rfl,rfl,rfl,rfl,rfl,rfl,rfl⟩) (fun a b=>?_)
  |exact GX.A (res:=Z1) (meF:=Vf) b zcl (h1:=aA [(260000,11000000)])
instance zko {n c e d}:CI E0 (Qa n c e d) false 62 [.ref [aI c.fa.fVars,aI c.fa.fScopes,.sl 1 (c.fa.fStates.map Ao),.sl 17 (c.fa.fEdges.map A9),.mapv (List.map (encM Bn A7) (c.fheld))],.sl 3 (e.map Ai),A7 d] (fun r=>.tup [.sl 3 (r.1.map Ai),.sl 1 (r.2.map Az)]):=⟨fun {r} b=>by
 unfold Qa at b;refine Con.walkM (E:=E0r) _ cQ rfl (B0 cQ rfl rfl) rfl (aX rfl) ?_ rfl rfl rfl;repeat' first
  |refine aK ?_;conv=>whnf
  |refine bB b (fun b=>?_) fun b=>?_
  |refine bV (Bg 39 b) [(200000,811000001)] [(260000,40000000)] _ _ Zi z9j [811000001] (fun a h=>aF (zhb h)) (B0 Tryz.func124 rfl rfl) rfl rfl rfl ⟨⟨rfl,rfl⟩,trivial⟩ (fun a=>⟨rfl,rfl,rfl,rfl,rfl,rfl,rfl,rfl⟩) (fun a b=>?_)
  |refine bV (Bg 41 b) [(200000,811000003)] [(260000,42000000)] _ _ Vf Z1 [811000003] (fun a h=>aF (z29 h)) (B0 cP rfl rfl) rfl rfl rfl ⟨⟨rfl,rfl⟩,trivial⟩ (fun a=>⟨rfl,rfl,rfl,rfl,rfl,rfl,rfl,rfl⟩) (fun a b=>?_)
  |refine aR b fun x b=>?_
  |refine cT (Bg 22 b) [] [(3,23000000),(4,23000001),(5,23000002)] _ _ Y6 z0k [] (fun a h=>aF (z6v h)) (B0 cG rfl rfl) rfl rfl rfl trivial (fun a=>⟨rfl,rfl,rfl,rfl,rfl,rfl,rfl,rfl⟩) (fun a b=>?_)
  |refine bJ b fun l b=>?_
  |refine BX.o (meF:=Ka) b ?_;exact BX.mk (z11 _) (aA [(250000,200000),(250001,32)]) rfl rfl
  |refine BX.o (meF:=Ka) b ?_;exact BX.mk (z11 _) (aA [(250000,36),(250001,200001)]) rfl rfl
  |refine RngX.oM (Bg 810 b) [(100000,8),(100001,9),(100002,23000000),(100003,23000001),(100004,23000002),(200000,811000001),(200001,811000003)] [(100000,8),(250000,811500001),(100001,9),(250001,811500003),(100002,23000000),(100003,23000001),(100004,23000002)] _ _ _ T4 [811000001,811000003] (fun x h l D fn T f=>z1j h l _ T (fun b=>ConG.round (E:=E0p 10) rfl rfl rfl rfl rfl rfl ?_ l D fn T f)) (B0 cL rfl rfl) rfl rfl rfl rfl rfl ⟨⟨rfl,rfl⟩,⟨⟨rfl,rfl⟩,trivial⟩⟩ ⟨⟨rfl,rfl⟩,⟨⟨rfl,rfl⟩,⟨⟨rfl,rfl⟩,⟨⟨rfl,rfl⟩,⟨⟨rfl,rfl⟩,⟨⟨rfl,rfl⟩,⟨⟨rfl,rfl⟩,trivial⟩⟩⟩⟩⟩⟩⟩ (fun a=>⟨rfl,rfl,rfl,rfl,rfl,rfl,rfl,rfl⟩) (fun a b=>?_)
  |exact ⟨_,b,aA [(811000001,811500001),(811000003,811500003)]⟩
  |refine bS b ?_ fun m v b=>?_
  |exact aT (bY 8 0 811000001 90 3 49 _ rfl rfl rfl) (aT (bY 9 0 811000003 64 1 50 _ rfl rfl rfl) (aA []))
  |refine AndA ?_
  |exact aN b⟩
end
end Go.Proofs.YthbogefcfhmpgaaGreat
