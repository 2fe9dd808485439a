/- What some functions compute, over plain values. -/
import Derived.Test.YtidhlpjgifoneaaGreatK26
set_option linter.unusedVariables false
set_option linter.unusedSimpArgs false
set_option maxRecDepth 100000
set_option maxHeartbeats 8000000
namespace Go.Proofs.YtidhlpjgifoneaaGreat
open Go.RowKit List
open LeX renaming a->aA,trans->aJ,adopt->bA
open ConG renaming up->aB,walk->aC
open Tryz renaming func111->aD,func151->aF,func114->aG,func152->aS,func113->aT,func91->aU,ntmps113->aZ,func156->bC,func129->bD,func85->bG,func37->bH
open AW renaming step->aE,stepU->aL,regO->aR
open IdxX renaming A->aH,oD->bL
open RetX renaming oB->aK
open B9 renaming oM->aM
open Or renaming inl->aN,inr->bI
open AppX renaming oA->aO
open EqX renaming A->aP
open Aa renaming o->aQ,t->aW,f->aY
open Ax renaming I->aV
open Af renaming oM->aX,I->bB,oR->bF
open OpX renaming ixc->bE,aob->bN,aup->bO
noncomputable section
abbrev z14 {n d c}:=li (K7 n d c) (fun b=>⟨[(0,.row 200000),(1,.fn 130 [.ref [.fn 92 []]]),(5,aI b.1),(6,.der (.sub 1 (d)) 200000),(7,aI b.2.1)],[(200000,.row 44 1 (b.2.2.map Au))]⟩) fun _ _=>K7.eq_2 ..
abbrev z15 {n a b}:=li (Ou n a b) (fun c=>⟨[(0,.row 200000),(1,.fn 130 [.ref [.fn 92 []]]),(5,aI c)],[(200000,.row 44 1 (a.map Au))]⟩) fun _ _=>Ou.eq_2 ..
abbrev z59 {n e d a c}:=li (Qb n e d a c) (fun b=>⟨[(0,.ref [aI a.fa.fVars,aI a.fa.fScopes,.sl 1 (a.fa.fStates.map Bb),.sl 17 (a.fa.fEdges.map B7),.mapv (List.map (encM Bf A6) (a.fheld))]),(5,.ptr 5 0),(8,.ptr 8 0),(9,.ptr 9 0),(13,.sl 3 (d.map A4)),(14,aI (((d.map A4).length:Int))),(15,aI b.1)],[(5,.box 71 (Bx e)),(8,.box 57 [.row 811000001]),(9,.box 50 [.row 811000003]),(811000001,.row 60 3 (b.2.1.map A4)),(811000003,.row 44 1 (b.2.2.map Au))]⟩) fun _ _=>Qb.eq_2 ..
abbrev zcj {n b}:=jf (Sk n b) (fun c=>⟨[(17,.sl 3 (b.1.map A4)),(18,.sl 1 (b.2.map Au)),(64,.bool (c))],[]⟩) fun _=>Sk.eq_1 ..
attribute [instance] z14 z15 z59 zcj
instance zk5 {n c g f e d}:CI E0 (Ro n c g f e d) false 160 [.ref [aI c.fa.fVars,aI c.fa.fScopes,.sl 1 (c.fa.fStates.map Bb),.sl 17 (c.fa.fEdges.map B7),.mapv (List.map (encM Bf A6) (c.fheld))],A4 g,B7 f,Dk e,A6 d] (fun r=>.tup [A4 r.1,.bool (r.2)]):=⟨fun {r} b=>by
 unfold Ro at b;refine cw Tryz.func160 ?_;repeat' first
  |refine AW.jI b (fun v b=>?_) fun b=>?_
  |refine aR b fun b=>?_
  |refine aL [1] ?_;conv=>whnf
  |refine aQ b (fun b=>?_) fun b=>?_
  |refine aW ?_
  |refine bF b (fun r=>r) Ae z9c rfl (fun a h=>zf1 h) (fun a b=>?_)
  |refine B9.I b (fun a b=>?_) rfl rfl fun _=>bI rfl
  |refine bF b (fun r=>r) (fun q=>AV.sl 5 (List.map A6 q)) (fun _=>AV.row 0) rfl (fun a h=>zke h) (fun a b=>?_)
  |refine IdxX.o (fun q=>AV.sl 5 (List.map A6 q)) b fun x b=>?_
  |refine bF b (fun r=>r) A6 (fun _=>AV.row 0) rfl (fun a h=>zkd h) (fun a b=>?_)
  |refine aO b fun l b=>?_
  |refine NatX.o b (fun m b=>?_)
  |refine OpX.str A6 b rfl rfl rfl rfl rfl rfl rfl rfl rfl rfl rfl (fun l b=>?_)
  |refine aM (Bm 96 b) [(100000,7),(200001,52)] [(260000,97000000),(100000,7)] _ _ V3 Yu [52] (fun a h=>aB (z8t h)) (B0 Tryz.func193 rfl rfl) rfl rfl rfl ⟨⟨rfl,rfl⟩,⟨⟨rfl,rfl⟩,trivial⟩⟩ (fun a=>⟨rfl,rfl,rfl,rfl,rfl,rfl,rfl,rfl⟩) (fun a b=>?_)
  |refine bF b (fun r=>r) Ar (fun _=>AV.row 0) rfl (fun a h=>zce h) (fun a b=>?_)
  |refine bB b fun a b=>?_
  |refine bL b D4 (fun x b=>?_)
  |refine B9.o b zov (fun a h=>Con.sub (by repeat' first|exact Sub.nil _|exact Sub.refl _|refine Sub.agg ?_|refine Sub.tup ?_|refine Sub.fn ?_|exact SubL.nil|refine SubL.cons ?_ ?_|refine Sub.sl _ ?_|exact SubE.nil|refine SubE.cons ?_ ?_) (zgk.h h)) (fun _=>bI rfl) (fun a b=>?_)
  |exact ⟨_,b,aA []⟩
  |refine aV b (aA []) fun m v b=>?_
  |refine OpX.nckR rfl rfl rfl rfl ?_
  |refine aH b fun x b=>?_
  |refine AndA ?_
  |exact aK b⟩
def z0v (yl_l:Nat)(yl_T:Array Value)(c:A8)(d:A0)(a:Ba)(e:Aq)(b:Int×(List A0)×(List Ac)):AS:=⟨[(0,.yld yl_l yl_T [.any,.any,.any,.any,.any,.any,.any,.any,.ptr 100000 0,.ptr 100001 0]),(1,.ptr 100002 0),(2,.ptr 100003 0),(3,.ptr 100004 0),(5,.ptr 5 0),(39,.sl 17 (a.fa.fEdges.map B7)),(40,aI (((a.fa.fEdges.map B7).length:Int))),(41,aI (b.1))],[(100000,.box 57 [.row 33000001]),(100001,.box 50 [.row 33000003]),(100002,.box 137 [.ref [aI (a.fa.fVars),aI (a.fa.fScopes),.sl 1 (a.fa.fStates.map Bb),.sl 17 (a.fa.fEdges.map B7),.mapv (List.map (encM Bf A6) (a.fheld))]]),(100003,.box 60 [aI (d.fState),.sl 4 (d.fBindings.map Ar),.sl 2 (d.fStarts.map Ae)]),(100004,.box 71 [aI (c.fSource),aI (c.fSeq),aI (c.fType),aI (c.fTime),.sl 3 (c.fValues.map Ag)]),(5,.box 220 [.sl 1 (List.map (fun q=>AV.sl 5 (List.map A6 q)) (e.fVars))]),(33000001,.row 60 3 (b.2.1.map A4)),(33000003,.row 44 1 (b.2.2.map Au))]⟩
theorem z0q {n yl_l yl_R yl_T c d e a b}:y5s (E0y yl_l yl_R 4) 67 (Hy n c d e a b) (z0v yl_l yl_T c d e a):=LoopA.oT fun _=>rfl
def z0u (yl_l:Nat)(yl_T:Array Value)(c:A8)(d:A0)(a:Ba)(e:Aq)(b:Int×(List A0)×(List Ac)):AS:=⟨[(0,.yld yl_l yl_T [.any,.any,.any,.any,.any,.any,.any,.any,.ptr 100000 0,.ptr 100001 0]),(1,.ptr 100002 0),(2,.ptr 100003 0),(3,.ptr 100004 0),(5,.ptr 5 0),(39,.sl 17 (a.fa.fEdges.map B7)),(40,aI (((a.fa.fEdges.map B7).length:Int))),(41,aI (b.1))],[(100000,.box 57 [.row 200000]),(100001,.box 50 [.row 200001]),(100002,.box 137 [.ref [aI (a.fa.fVars),aI (a.fa.fScopes),.sl 1 (a.fa.fStates.map Bb),.sl 17 (a.fa.fEdges.map B7),.mapv (List.map (encM Bf A6) (a.fheld))]]),(100003,.box 60 [aI (d.fState),.sl 4 (d.fBindings.map Ar),.sl 2 (d.fStarts.map Ae)]),(100004,.box 71 [aI (c.fSource),aI (c.fSeq),aI (c.fType),aI (c.fTime),.sl 3 (c.fValues.map Ag)]),(5,.box 220 [.sl 1 (List.map (fun q=>AV.sl 5 (List.map A6 q)) (e.fVars))]),(200000,.row 60 3 (b.2.1.map A4)),(200001,.row 44 1 (b.2.2.map Au))]⟩
theorem z0p {n yl_l yl_R yl_T c d e a b}:y5s (E0y yl_l yl_R 4) 67 (Hx n c d e a b) (z0u yl_l yl_T c d e a):=LoopA.oT fun _=>rfl
def z1b (e:(List A0))(d:(List Ac))(a:Ba)(c:A0)(b:A8):List (Nat×Ent):=[(100000,.box 57 [.row 200000]),(200000,.row 60 3 (e.map A4)),(100001,.box 50 [.row 200001]),(200001,.row 44 1 (d.map Au)),(100002,.box 137 [.ref [aI a.fa.fVars,aI a.fa.fScopes,.sl 1 (a.fa.fStates.map Bb),.sl 17 (a.fa.fEdges.map B7),.mapv (List.map (encM Bf A6) (a.fheld))]]),(100003,.box 60 (Bl c)),(100004,.box 71 (Bx b))]
def Tt (r:(List A0)×(List Ac)×Ba×A0×A8):List (Nat×Ent):=[(100000,.box 57 [.row 250000]),(250000,.row 60 3 (r.1.map A4)),(100001,.box 50 [.row 250001]),(250001,.row 44 1 (r.2.1.map Au)),(100002,.box 137 [.ref [aI r.2.2.1.fa.fVars,aI r.2.2.1.fa.fScopes,.sl 1 (r.2.2.1.fa.fStates.map Bb),.sl 17 (r.2.2.1.fa.fEdges.map B7),.mapv (List.map (encM Bf A6) (r.2.2.1.fheld))]]),(100003,.box 60 (Bl r.2.2.2.1)),(100004,.box 71 (Bx r.2.2.2.2))]
def z01 (r:(List A0)×(List Ac)×Ba×A0×A8):AV:=.tup []
def z05 (yl_l:Nat)(yl_T:Array Value)(r:(List A0)×(List Ac)×Ba×A0×A8):AS:=⟨[(0,.yld yl_l yl_T [.any,.any,.any,.any,.any,.any,.any,.any,.ptr 100000 0,.ptr 100001 0]),(1,.ptr 100002 0),(2,.ptr 100003 0),(3,.ptr 100004 0)],Tt r⟩
theorem z0y {n d c i g f r}(b:Tv n d c i g f=some r)(yl_l:Nat)(yl_R:Obj)(yl_T:Array Value)(e:∀ {n:Nat} {j:A0} {d:(List A0)} {c:(List Ac)} {r:(List A0)×(List Ac)},Qc n j d c=some r->ConG E0.P (some (yl_l,yl_R)) (fun vs cs w R=>cs=yl_T->CalY E0.P yl_l vs cs w R) [A4 j] [.any,.any,.any,.any,.any,.any,.any,.any,.ptr 100000 0,.ptr 100001 0] (z5l d c) (.bool true) (L0 r)):ConG E0.P (some (yl_l,yl_R)) (CalF E0.P 156 0) [.yld yl_l yl_T [.any,.any,.any,.any,.any,.any,.any,.any,.ptr 100000 0,.ptr 100001 0],.ptr 100002 0,.ptr 100003 0,.ptr 100004 0] [] (z1b d c i g f) (z01 r) (Tt r):=by
 unfold Tv at b;refine aC (E:=(E0y yl_l yl_R 4)) (caps:=[]) _ bC rfl rfl rfl rfl rfl ?_;repeat' first
  |refine aE ?_;conv=>whnf
  |refine aQ b (fun b=>?_) fun b=>?_
  |refine aY ?_
  |refine bB b fun a b=>?_
  |refine OpX.nckR rfl rfl rfl rfl ?_
  |refine aH b fun x b=>?_
  |refine B9.I b (fun a b=>?_) rfl rfl fun _=>bI rfl
  |refine YldX.oM (Bm 32 b) [(100000,100000),(200000,200000),(100001,100001),(200001,200001)] [(100000,100000),(250000,33000001),(100001,100001),(250001,33000003)] _ _ _ L0 (fun _=>AV.bool true) [200000,200001] (fun a h=>e h) rfl rfl rfl rfl rfl ⟨⟨rfl,rfl⟩,⟨⟨rfl,rfl⟩,⟨⟨rfl,rfl⟩,⟨⟨rfl,rfl⟩,trivial⟩⟩⟩⟩ (fun a=>⟨rfl,rfl,rfl,rfl,rfl,rfl,rfl,rfl⟩) (fun a b=>?_)
  |refine GX.o (res:=z01) (meF:=Tt) b ?_;exact GX.mk (z05 yl_l yl_T _) (aA [(250000,33000001),(250001,33000003)]) rfl _ rfl (by repeat' first|exact Sub.nil _|exact Sub.refl _|refine Sub.agg ?_|refine Sub.tup ?_|refine Sub.fn ?_|exact SubL.nil|refine SubL.cons ?_ ?_|refine Sub.sl _ ?_|exact SubE.nil|refine SubE.cons ?_ ?_) [100000,100001] ⟨aN ⟨0,0,8,_,_,_,_,_,_,rfl,rfl,rfl,rfl,rfl⟩,⟨aN ⟨0,0,9,_,_,_,_,_,_,rfl,rfl,rfl,rfl,rfl⟩,trivial⟩⟩ rfl
  |exact ⟨_,b,aA []⟩
  |refine YldX.oM (Bm 63 b) [(100000,100000),(200000,33000001),(100001,100001),(200001,33000003)] [(100000,100000),(250000,64000001),(100001,100001),(250001,64000003)] _ _ _ L0 (fun _=>AV.bool true) [33000001,33000003] (fun a h=>e h) rfl rfl rfl rfl rfl ⟨⟨rfl,rfl⟩,⟨⟨rfl,rfl⟩,⟨⟨rfl,rfl⟩,⟨⟨rfl,rfl⟩,trivial⟩⟩⟩⟩ (fun a=>⟨rfl,rfl,rfl,rfl,rfl,rfl,rfl,rfl⟩) (fun a b=>?_)
  |exact ⟨_,b,aA [(33000001,64000001),(33000003,64000003)]⟩
  |refine z0q b (aA []) (fun m v b=>?_);unfold Hy at b
  |refine GX.o (res:=z01) (meF:=Tt) b ?_;exact GX.mk (z05 yl_l yl_T _) (aA [(250000,200000),(250001,200001)]) rfl _ rfl (by repeat' first|exact Sub.nil _|exact Sub.refl _|refine Sub.agg ?_|refine Sub.tup ?_|refine Sub.fn ?_|exact SubL.nil|refine SubL.cons ?_ ?_|refine Sub.sl _ ?_|exact SubE.nil|refine SubE.cons ?_ ?_) [100000,100001] ⟨aN ⟨0,0,8,_,_,_,_,_,_,rfl,rfl,rfl,rfl,rfl⟩,⟨aN ⟨0,0,9,_,_,_,_,_,_,rfl,rfl,rfl,rfl,rfl⟩,trivial⟩⟩ rfl
  |refine YldX.oM (Bm 63 b) [(100000,100000),(200000,200000),(100001,100001),(200001,200001)] [(100000,100000),(250000,64000001),(100001,100001),(250001,64000003)] _ _ _ L0 (fun _=>AV.bool true) [200000,200001] (fun a h=>e h) rfl rfl rfl rfl rfl ⟨⟨rfl,rfl⟩,⟨⟨rfl,rfl⟩,⟨⟨rfl,rfl⟩,⟨⟨rfl,rfl⟩,trivial⟩⟩⟩⟩ (fun a=>⟨rfl,rfl,rfl,rfl,rfl,rfl,rfl,rfl⟩) (fun a b=>?_)
  |exact ⟨_,b,aA [(200000,64000001),(200001,64000003)]⟩
  |refine z0p b (aA []) (fun m v b=>?_);unfold Hx at b
  |refine AndA ?_
instance zqq {n b a}:CI E0 (Sc n b a) true 130 [Au b,Au a,.ref [.fn 92 []]] (fun r=>.bool (r)):=by unfold Sc;exact CI.w [] Tryz.func130
def z3z (a:(List Ac)):List (Nat×Ent):=[(200000,.row 44 1 (a.map Au))]
def Tz (r:(List Ac)):List (Nat×Ent):=[(260000,.row 44 1 (r.map Au))]
def Xy (r:(List Ac)):AV:=.row 260000
def z0i (r:(List Ac)):AS:=⟨[(4,.row 260000)],Tz r⟩
theorem z1p {n c r}(b:U4 n c=some r):ConG E0.P none (CalF E0.P 129 0) [.row 200000,.fn 130 [.ref [.fn 92 []]]] [] (z3z c) (Xy r) (Tz r):=by
 unfold U4 at b;refine aC (E:=(E0p 2)) (caps:=[]) _ bD rfl rfl rfl rfl rfl ?_;repeat' first
  |refine aE ?_;conv=>whnf
  |refine aQ b (fun b=>?_) fun b=>?_
  |exact GX.A (res:=Xy) (meF:=Tz) b z0i (h1:=aA [(260000,200000)])
  |refine NatX.o b (fun m b=>?_)
  |refine EltX.o Au b (fun x b=>?_)
  |refine bB b fun a b=>?_
  |refine OpX.sub b rfl rfl rfl rfl rfl rfl rfl rfl rfl rfl (fun m b=>?_)
  |refine OpX.clr Au b rfl rfl rfl rfl rfl rfl rfl rfl rfl rfl rfl (by first|exact SubL.refl _|(repeat' first|exact SubL.nil|refine SubL.cons ?_ ?_|exact Sub.refl _|exact Sub.nil _|refine Sub.agg ?_)) (fun l b=>?_)
  |refine SlsX.o Au b (fun l b=>?_)
  |exact GX.A (res:=Xy) (meF:=Tz) b z0i (h1:=aA [(260000,64)])
  |refine OpX.lns b rfl rfl rfl rfl rfl rfl rfl (fun b=>?_)
  |refine OpX.ixs b rfl rfl rfl rfl rfl rfl rfl rfl rfl rfl (fun m b=>?_)
  |refine SetX.o Au b (fun x=>rfl) (fun x=>(by first|exact SubL.refl _|(repeat' first|exact SubL.nil|refine SubL.cons ?_ ?_|exact Sub.refl _|exact Sub.nil _|refine Sub.agg ?_))) (fun l b=>?_)
  |exact ⟨_,b,aA []⟩
  |refine aV b (aA []) fun m v b=>?_
  |refine AndA ?_
  |refine aP ?_
def zbz (a:(List Ac)):List (Nat×Ent):=[(200000,.row 44 1 (a.map Au))]
def Vx (r:(List Ac)):List (Nat×Ent):=[(260000,.row 44 1 (r.map Au))]
def Z0 (r:(List Ac)):AV:=.row 260000
def zbx (r:(List Ac)):AS:=⟨[(4,.row 260000)],Vx r⟩
theorem z1q {n c r}(b:Sd n c=some r):ConG E0.P none (CalF E0.P 91 0) [.row 200000,.fn 92 []] [] (zbz c) (Z0 r) (Vx r):=by
 unfold Sd at b;refine aC (E:=(E0p 2)) (caps:=[]) _ aU rfl rfl rfl rfl rfl ?_;repeat' first
  |refine AW.frbO b 3 rfl rfl (fun b=>?_)
  |refine aR b fun b=>?_
  |refine aL [2] ?_;conv=>whnf
  |refine B9.oI b 200000 (fun r=>r) Au (fun _=>AV.tup []) rfl (fun a h=>(ConC.env rfl (zub h))) rfl rfl rfl (fun a b=>?_)
  |refine aM (Bm 10 b) [(200000,200000)] [(260000,11000000)] _ _ Tz Xy [200000] (fun a h=>aB (z1p h)) (B0 bD rfl rfl) rfl rfl rfl ⟨⟨rfl,rfl⟩,trivial⟩ (fun a=>⟨rfl,rfl,rfl,rfl,rfl,rfl,rfl,rfl⟩) (fun a b=>?_)
  |exact GX.A (res:=Z0) (meF:=Vx) b zbx (h1:=aA [(260000,11000000)])
instance zk6 {n c e d}:CI E0 (J4 n c e d) false 85 [.ref [aI c.fa.fVars,aI c.fa.fScopes,.sl 1 (c.fa.fStates.map Bb),.sl 17 (c.fa.fEdges.map B7),.mapv (List.map (encM Bf A6) (c.fheld))],.sl 3 (e.map A4),A6 d] (fun r=>.tup [.sl 3 (r.1.map A4),.sl 1 (r.2.map Au)]):=⟨fun {r} b=>by
 unfold J4 at b;refine Con.walkM (E:=E0r) _ bG rfl (B0 bG rfl rfl) rfl (aN rfl) ?_ rfl rfl rfl;repeat' first
  |refine aE ?_;conv=>whnf
  |refine aQ b (fun b=>?_) fun b=>?_
  |refine aM (Bm 39 b) [(200000,811000001)] [(260000,40000000)] _ _ Wj Zb [811000001] (fun a h=>aB (zad h)) (B0 Tryz.func121 rfl rfl) rfl rfl rfl ⟨⟨rfl,rfl⟩,trivial⟩ (fun a=>⟨rfl,rfl,rfl,rfl,rfl,rfl,rfl,rfl⟩) (fun a b=>?_)
  |refine aM (Bm 41 b) [(200000,811000003)] [(260000,42000000)] _ _ Vx Z0 [811000003] (fun a h=>aB (z1q h)) (B0 aU rfl rfl) rfl rfl rfl ⟨⟨rfl,rfl⟩,trivial⟩ (fun a=>⟨rfl,rfl,rfl,rfl,rfl,rfl,rfl,rfl⟩) (fun a b=>?_)
  |refine aH b fun x b=>?_
  |refine aX (Bm 22 b) [] [(3,23000000),(4,23000001),(5,23000002)] _ _ Yb z08 [] (fun a h=>aB (z6k h)) (B0 Tryz.func120 rfl rfl) rfl rfl rfl trivial (fun a=>⟨rfl,rfl,rfl,rfl,rfl,rfl,rfl,rfl⟩) (fun a b=>?_)
  |refine aO b fun l b=>?_
  |refine BX.o (meF:=L0) b ?_;exact BX.mk (z0l _) (aA [(250000,200000),(250001,32)]) rfl rfl
  |refine BX.o (meF:=L0) b ?_;exact BX.mk (z0l _) (aA [(250000,36),(250001,200001)]) rfl rfl
  |refine RngX.oM (Bm 810 b) [(100000,8),(100001,9),(100002,23000000),(100003,23000001),(100004,23000002),(200000,811000001),(200001,811000003)] [(100000,8),(250000,811500001),(100001,9),(250001,811500003),(100002,23000000),(100003,23000001),(100004,23000002)] _ _ _ Tt [811000001,811000003] (fun x h l D fn T f=>z0y h l _ T (fun b=>ConG.round (E:=E0p 10) rfl rfl rfl rfl rfl rfl ?_ l D fn T f)) (B0 bC rfl rfl) rfl rfl rfl rfl rfl ⟨⟨rfl,rfl⟩,⟨⟨rfl,rfl⟩,trivial⟩⟩ ⟨⟨rfl,rfl⟩,⟨⟨rfl,rfl⟩,⟨⟨rfl,rfl⟩,⟨⟨rfl,rfl⟩,⟨⟨rfl,rfl⟩,⟨⟨rfl,rfl⟩,⟨⟨rfl,rfl⟩,trivial⟩⟩⟩⟩⟩⟩⟩ (fun a=>⟨rfl,rfl,rfl,rfl,rfl,rfl,rfl,rfl⟩) (fun a b=>?_)
  |exact ⟨_,b,aA [(811000001,811500001),(811000003,811500003)]⟩
  |refine aV b ?_ fun m v b=>?_
  |exact aJ (LeX.adoptC 8 0 811000001 60 3 57 _ rfl rfl rfl) (aJ (LeX.adoptC 9 0 811000003 44 1 50 _ rfl rfl rfl) (aA []))
  |refine AndA ?_
  |exact aK b⟩
end
noncomputable section
abbrev zci {n e d a b}:=li (Z1 n e d a b) (fun c=>⟨[(2,.sl 3 (d.map A4)),(7,.ptr 7 0),(11,.ref [aI a.fa.fVars,aI a.fa.fScopes,.sl 1 (a.fa.fStates.map Bb),.sl 17 (a.fa.fEdges.map B7),.mapv (List.map (encM Bf A6) (a.fheld))]),(31,.sl 3 (d.map A4)),(32,aI (((d.map A4).length:Int))),(33,aI c)],[(7,.box 71 (Bx e))]⟩) fun _ _=>Z1.eq_2 ..
abbrev zah {n a b}:=li (S2 n a b) (fun c=>⟨[(3,.row 7023),(6,.sl 3 (a.map A4)),(7,aI (((a.map A4).length:Int))),(8,aI c.1)],[(7023,.row 60 3 (c.2.map A4))]⟩) fun _ _=>S2.eq_2 ..
abbrev z9q {n a d b}:=li (Yt n a d b) (fun c=>⟨[(1,.sl 5 (a.map A6)),(2,.fn 38 []),(3,.ptr 3 0),(8,.row 7016),(17,.sl 5 (a.map A6)),(18,aI (((a.map A6).length:Int))),(19,aI c.1)],[(3,.box 25 (B4 d)),(7016,.row 57 1 (List.map (fun q=>AV.sl 3 (List.map A4 q)) (c.2)))]⟩) fun _ _=>Yt.eq_2 ..
abbrev zln {n f a b d c}:=jf (Np n f a b d c) (fun e=>⟨[(7,.ref [aI a.fa.fVars,aI a.fa.fScopes,.sl 1 (a.fa.fStates.map Bb),.sl 17 (a.fa.fEdges.map B7),.mapv (List.map (encM Bf A6) (a.fheld))]),(10,.row 7058),(13,.sl 3 (c.1.map A4)),(14,.sl 1 (c.2.map Au)),(26,.sl 5 (f.map A6)),(27,aI (((f.map A6).length:Int))),(28,aI b.2.1),(54,.bool (e))],[(7058,.row 44 1 (b.2.2.map Au))]⟩) fun _=>Np.eq_1 ..
abbrev zlm {n d a c}:=li (Nn n d a c) (fun b=>⟨[(7,.ref [aI a.fa.fVars,aI a.fa.fScopes,.sl 1 (a.fa.fStates.map Bb),.sl 17 (a.fa.fEdges.map B7),.mapv (List.map (encM Bf A6) (a.fheld))]),(9,.sl 3 (b.1.map A4)),(10,.row 7058),(26,.sl 5 (d.map A6)),(27,aI (((d.map A6).length:Int))),(28,aI b.2.1)],[(7058,.row 44 1 (b.2.2.map Au))]⟩) fun _ _=>Nn.eq_2 ..
abbrev z9w {n c a d}:=li (Rw n c a d) (fun b=>⟨[(1,.fn 152 [.ptr 100000 0]),(16,.sl 8 (a.fArgs.map idA)),(17,aI (((a.fArgs.map idA).length:Int))),(18,aI b.1)],[(100000,.box 212 [.bool (b.2.1),.bool (b.2.2.1),.bool (b.2.2.2.1),.bool (b.2.2.2.2.1),.bool (b.2.2.2.2.2.1),.bool (b.2.2.2.2.2.2.1),.bool (b.2.2.2.2.2.2.2.1),.bool (b.2.2.2.2.2.2.2.2.1),.bool (b.2.2.2.2.2.2.2.2.2.1),.bool (b.2.2.2.2.2.2.2.2.2.2.1),.bool (b.2.2.2.2.2.2.2.2.2.2.2.1),.bool (b.2.2.2.2.2.2.2.2.2.2.2.2.1),.bool (b.2.2.2.2.2.2.2.2.2.2.2.2.2.1),.bool (b.2.2.2.2.2.2.2.2.2.2.2.2.2.2.1),.bool (b.2.2.2.2.2.2.2.2.2.2.2.2.2.2.2.1),.bool (b.2.2.2.2.2.2.2.2.2.2.2.2.2.2.2.2)])]⟩) fun _ _=>Rw.eq_2 ..
abbrev zao {n a b}:=li (Bs n a b) (fun c=>⟨[(4,.row 7019),(10,.agg [.bool (a.2.1),.bool (a.2.2.1),.bool (a.2.2.2.1),.bool (a.2.2.2.2.1),.bool (a.2.2.2.2.2.1),.bool (a.2.2.2.2.2.2.1),.bool (a.2.2.2.2.2.2.2.1),.bool (a.2.2.2.2.2.2.2.2.1),.bool (a.2.2.2.2.2.2.2.2.2.1),.bool (a.2.2.2.2.2.2.2.2.2.2.1),.bool (a.2.2.2.2.2.2.2.2.2.2.2.1),.bool (a.2.2.2.2.2.2.2.2.2.2.2.2.1),.bool (a.2.2.2.2.2.2.2.2.2.2.2.2.2.1),.bool (a.2.2.2.2.2.2.2.2.2.2.2.2.2.2.1),.bool (a.2.2.2.2.2.2.2.2.2.2.2.2.2.2.2.1),.bool (a.2.2.2.2.2.2.2.2.2.2.2.2.2.2.2.2)]),(11,aI c.1)],[(7019,.row 3 1 (c.2.map aI))]⟩) fun _ _=>Bs.eq_2 ..
abbrev z2i {n m0n a f c d e}:=li (P8 n m0n a f c d e) (fun b=>⟨[(0,aI f),(2,.ptr 100000 0),(9,.sl 8 (a.map idA)),(10,aI (((a.map idA).length:Int))),(11,aI c.1),(16,.sl 1 (d.map aI)),(17,aI (((d.map aI).length:Int))),(18,aI b.1)],[(100000,.box 130 [.cont (m0n) 200000]),(200000,.are 136 (b.2).1 (List.map (enO aI AV.bool) (b.2).2))]⟩) fun _ _=>P8.eq_2 ..
abbrev z2j {n m0n a d c}:=li (Kk n m0n a d c) (fun b=>⟨[(0,aI d),(2,.ptr 100000 0),(9,.sl 8 (a.map idA)),(10,aI (((a.map idA).length:Int))),(11,aI b.1)],[(100000,.box 130 [.cont (m0n) 200000]),(200000,.are 136 (b.2).1 (List.map (enO aI AV.bool) (b.2).2))]⟩) fun _ _=>Kk.eq_2 ..
attribute [instance] zci zah z9q zln zlm z9w zao z2i z2j
instance zz4 {n f e d c}:CI E0 (Z9 n f e d c) false 71 [Bj f,.sl 5 (e.map A6),.sl 3 (d.map A4),A6 c] (fun r=>.tup [.sl 3 (r.1.map A4),.sl 1 (r.2.1.map Au),aI r.2.2]):=⟨fun {r} b=>by
 unfold Z9 at b;refine cw Tryz.func71 ?_;repeat' first
  |refine AW.jI b (fun v b=>?_) fun b=>?_
  |refine aR b fun b=>?_
  |refine aL [17] ?_;conv=>whnf
  |refine aQ b (fun b=>?_) fun b=>?_
  |refine Af.oP b Ej (fun u=>.tup [.nilp,aI (u.2)]) (fun u y=>.tup [.ref [aI (y.fa.fVars),aI (y.fa.fScopes),.sl 1 (y.fa.fStates.map Bb),.sl 17 (y.fa.fEdges.map B7),.mapv (List.map (encM Bf A6) (y.fheld))],aI (u.2)]) (fun u h=>by simp only [Ej,h,G5]) (fun u y h=>by simp only [Ej,h,G5]) (fun a h=>Z8.h h) (fun a b=>?_) (fun a y b=>?_)
  |(cases b;done)
  |refine bB b fun a b=>?_
  |exact ⟨_,b,aA []⟩
  |refine aH b fun x b=>?_
  |refine aV b (aA []) fun m v b=>?_
  |exact aK b⟩
instance zts {n c}:CI E0 (N7 n c) false 38 [.sl 3 (c.map A4)] (fun r=>.sl 3 (r.map A4)):=⟨fun {r} b=>by
 unfold N7 at b;refine cw Tryz.func38 ?_;repeat' first
  |refine aE ?_;conv=>whnf
  |refine aQ b (fun b=>?_) fun b=>?_
  |refine aW ?_
  |refine aY ?_
  |refine aH b fun x b=>?_
  |refine Af.o b (fun q=>AV.sl 4 (List.map Ar q)) (fun a h=>zr0 h) (fun a b=>?_)
  |refine Af.o b (fun q=>AV.sl 2 (List.map Ae q)) (fun a h=>zqz h) (fun a b=>?_)
  |refine aO b fun l b=>?_
  |exact ⟨_,b,aA [(7023,23)]⟩
  |refine aV b ?_ fun m v b=>?_
  |exact aJ (bA 3 7023 60 3 rfl rfl) (aA [])
  |refine AndA ?_
  |refine aP ?_
  |exact aK b⟩
instance zqt {n d c}:CI E0 (z0w n d c) false 37 [Bj d,.sl 5 (c.map A6),.fn 38 []] (fun r=>.tup [.sl 1 (List.map (fun q=>AV.sl 3 (List.map A4 q)) (r.1)),aI r.2]):=⟨fun {r} b=>by
 unfold z0w at b;refine Con.env (E:=E0b) rfl rfl ?_;refine Con.walk _ bH rfl (B0 bH rfl rfl) rfl (aN rfl) ?_;repeat' first
  |refine aE ?_;conv=>whnf
  |refine aQ b (fun b=>?_) fun b=>?_
  |refine aW ?_
  |refine aY ?_
  |refine bB b fun a b=>?_
  |refine OpX.bldS A4 b rfl rfl rfl rfl rfl rfl rfl rfl rfl rfl rfl rfl rfl rfl (fun l b=>?_)
  |refine OpX.bldR (fun q=>AV.sl 3 (List.map A4 q)) b rfl rfl rfl rfl rfl rfl rfl rfl rfl rfl rfl rfl rfl rfl rfl rfl (by first|exact SubR.refl _|(repeat' first|exact SubR.nil|refine SubR.cons ?_ ?_|exact SubL.nil|refine SubL.cons ?_ ?_|exact Sub.refl _|exact Sub.nil _)) rfl (fun l b=>?_)
  |refine OpX.bld (fun q=>AV.sl 3 (List.map A4 q)) b rfl rfl rfl rfl rfl rfl rfl rfl rfl rfl rfl rfl rfl rfl rfl rfl (fun l b=>?_)
  |refine aH b fun x b=>?_
  |refine SlsX.o A6 b (fun l b=>?_)
  |refine NatX.o b (fun m b=>?_)
  |refine EltX.o (fun q=>AV.sl 3 (List.map A4 q)) b (fun x b=>?_)
  |refine OpX.bldS (fun q=>AV.sl 3 (List.map A4 q)) b rfl rfl rfl rfl rfl rfl rfl rfl rfl rfl rfl rfl rfl rfl (fun l b=>?_)
  |refine aO b fun l b=>?_
  |exact ⟨_,b,aA [(7016,51)]⟩
  |refine aV b ?_ fun m v b=>?_
  |exact aA [(7016,16)]
  |refine AndA ?_
  |refine aP ?_
  |exact aK b⟩
instance zp2 {n b a}:CI E0 (z0m n b a) false 13 [Bj b,.sl 5 (a.map A6)] (fun r=>.tup [.agg [.sl 1 (List.map (fun q=>AV.sl 3 (List.map A4 q)) (r.1.fSets))],aI r.2]):=by unfold z0m;exact CI.w [] Tryz.func13
instance y5j {n d c}:CI E0 (zfb n d c) false 56 [Bj d,.sl 5 (c.map A6)] (fun r=>.tup [.sl 3 (r.1.map A4),.sl 1 (r.2.1.map Au),aI r.2.2]):=⟨fun {r} b=>by
 unfold zfb at b;refine cw Tryz.func56 ?_;repeat' first
  |refine AW.jI b (fun v b=>?_) fun b=>?_
  |refine aR b fun b=>?_
  |refine aL [10] ?_;conv=>whnf
  |refine aQ b (fun b=>?_) fun b=>?_
  |refine aW ?_
  |refine Af.oP b Ej (fun u=>.tup [.nilp,aI (u.2)]) (fun u y=>.tup [.ref [aI (y.fa.fVars),aI (y.fa.fScopes),.sl 1 (y.fa.fStates.map Bb),.sl 17 (y.fa.fEdges.map B7),.mapv (List.map (encM Bf A6) (y.fheld))],aI (u.2)]) (fun u h=>by simp only [Ej,h,G5]) (fun u y h=>by simp only [Ej,h,G5]) (fun a h=>Z8.h h) (fun a b=>?_) (fun a y b=>?_)
  |refine bB b fun a b=>?_
  |(cases b;done)
  |refine aM (Bm 62 b) [(200000,7058)] [(260000,63000000)] _ _ Vx Z0 [7058] (fun a h=>aB (z1q h)) (B0 aU rfl rfl) rfl rfl rfl ⟨⟨rfl,rfl⟩,trivial⟩ (fun a=>⟨rfl,rfl,rfl,rfl,rfl,rfl,rfl,rfl⟩) (fun a b=>?_)
  |refine aH b fun x b=>?_
  |refine aO b fun l b=>?_
  |exact ⟨_,b,aA [(7058,58)]⟩
  |exact ⟨_,b,aA []⟩
  |refine aV b ?_ fun m v b=>?_
  |exact aJ (bA 10 7058 44 1 rfl rfl) (aA [])
  |exact aK b⟩
instance zz3 {n b a}:CI E0 (z6v n b a) false 23 [Bj b,.sl 5 (a.map A6)] (fun r=>.tup [.sl 1 (r.1.map Au),aI r.2]):=by unfold z6v;exact CI.w [] Tryz.func23
def zbf (b:B1)(a:B16):List (Nat×Ent):=[(100000,.box 212 [.bool (a.1),.bool (a.2.1),.bool (a.2.2.1),.bool (a.2.2.2.1),.bool (a.2.2.2.2.1),.bool (a.2.2.2.2.2.1),.bool (a.2.2.2.2.2.2.1),.bool (a.2.2.2.2.2.2.2.1),.bool (a.2.2.2.2.2.2.2.2.1),.bool (a.2.2.2.2.2.2.2.2.2.1),.bool (a.2.2.2.2.2.2.2.2.2.2.1),.bool (a.2.2.2.2.2.2.2.2.2.2.2.1),.bool (a.2.2.2.2.2.2.2.2.2.2.2.2.1),.bool (a.2.2.2.2.2.2.2.2.2.2.2.2.2.1),.bool (a.2.2.2.2.2.2.2.2.2.2.2.2.2.2.1),.bool (a.2.2.2.2.2.2.2.2.2.2.2.2.2.2.2)])]
def Vp (r:Int×B16):List (Nat×Ent):=[(100000,.box 212 [.bool (r.2.1),.bool (r.2.2.1),.bool (r.2.2.2.1),.bool (r.2.2.2.2.1),.bool (r.2.2.2.2.2.1),.bool (r.2.2.2.2.2.2.1),.bool (r.2.2.2.2.2.2.2.1),.bool (r.2.2.2.2.2.2.2.2.1),.bool (r.2.2.2.2.2.2.2.2.2.1),.bool (r.2.2.2.2.2.2.2.2.2.2.1),.bool (r.2.2.2.2.2.2.2.2.2.2.2.1),.bool (r.2.2.2.2.2.2.2.2.2.2.2.2.1),.bool (r.2.2.2.2.2.2.2.2.2.2.2.2.2.1),.bool (r.2.2.2.2.2.2.2.2.2.2.2.2.2.2.1),.bool (r.2.2.2.2.2.2.2.2.2.2.2.2.2.2.2.1),.bool (r.2.2.2.2.2.2.2.2.2.2.2.2.2.2.2.2)])]
def Yw (r:Int×(Bool×Bool×Bool×Bool×Bool×Bool×Bool×Bool×Bool×Bool×Bool×Bool×Bool×Bool×Bool×Bool)):AV:=aI (r.1)
def zbd (r:Int×B16):AS:=⟨[(3,aI r.1),(1,.ptr 100000 0)],Vp r⟩
theorem z10 {n c d r}(b:Vs n c d=some r):ConG E0.P none (CalF E0.P 152 0) [Av c,.ptr 100000 0] [] (zbf c d) (Yw r) (Vp r):=by
 unfold Vs at b;refine aC (E:=(E0p 2)) (caps:=[]) _ aS rfl rfl rfl rfl rfl ?_;repeat' first
  |refine aE ?_;conv=>whnf
  |refine aQ b (fun b=>?_) fun b=>?_
  |refine aW ?_
  |refine aY ?_
  |refine bB b fun a b=>?_
  |refine NatX.oS b rfl (fun b=>?_) (fun b=>?_)
  |(cases b;done)
  |exact GX.A (res:=Yw) (meF:=Vp) b zbd
  |refine AndA ?_
  |refine aP ?_
def zc0 (b:B1)(a:B16):List (Nat×Ent):=[(100000,.box 212 [.bool (a.1),.bool (a.2.1),.bool (a.2.2.1),.bool (a.2.2.2.1),.bool (a.2.2.2.2.1),.bool (a.2.2.2.2.2.1),.bool (a.2.2.2.2.2.2.1),.bool (a.2.2.2.2.2.2.2.1),.bool (a.2.2.2.2.2.2.2.2.1),.bool (a.2.2.2.2.2.2.2.2.2.1),.bool (a.2.2.2.2.2.2.2.2.2.2.1),.bool (a.2.2.2.2.2.2.2.2.2.2.2.1),.bool (a.2.2.2.2.2.2.2.2.2.2.2.2.1),.bool (a.2.2.2.2.2.2.2.2.2.2.2.2.2.1),.bool (a.2.2.2.2.2.2.2.2.2.2.2.2.2.2.1),.bool (a.2.2.2.2.2.2.2.2.2.2.2.2.2.2.2)])]
def N2 (r:Int×B16):List (Nat×Ent):=[(100000,.box 212 [.bool (r.2.1),.bool (r.2.2.1),.bool (r.2.2.2.1),.bool (r.2.2.2.2.1),.bool (r.2.2.2.2.2.1),.bool (r.2.2.2.2.2.2.1),.bool (r.2.2.2.2.2.2.2.1),.bool (r.2.2.2.2.2.2.2.2.1),.bool (r.2.2.2.2.2.2.2.2.2.1),.bool (r.2.2.2.2.2.2.2.2.2.2.1),.bool (r.2.2.2.2.2.2.2.2.2.2.2.1),.bool (r.2.2.2.2.2.2.2.2.2.2.2.2.1),.bool (r.2.2.2.2.2.2.2.2.2.2.2.2.2.1),.bool (r.2.2.2.2.2.2.2.2.2.2.2.2.2.2.1),.bool (r.2.2.2.2.2.2.2.2.2.2.2.2.2.2.2.1),.bool (r.2.2.2.2.2.2.2.2.2.2.2.2.2.2.2.2)])]
def S8 (r:Int×(Bool×Bool×Bool×Bool×Bool×Bool×Bool×Bool×Bool×Bool×Bool×Bool×Bool×Bool×Bool×Bool)):AV:=aI (r.1)
def zby (r:Int×B16):AS:=⟨[(4,aI r.1),(1,.fn 152 [.ptr 100000 0])],N2 r⟩
theorem z1s {n c d r}(b:Jf n c d=some r):ConG E0.P none (CalF E0.P 151 0) [Av c,.fn 152 [.ptr 100000 0]] [] (zc0 c d) (S8 r) (N2 r):=by
 induction n generalizing c d r
 case zero=>cases b
 case succ n e =>
 unfold Jf at b;refine aC (E:=(E0p 2)) (caps:=[]) _ aF rfl rfl rfl rfl rfl ?_;repeat' first
  |refine aE ?_;conv=>whnf
  |refine aQ b (fun b=>?_) fun b=>?_
  |refine aW ?_
  |refine aY ?_
  |refine aM (Bm 11 b) [(100000,100000)] [(100000,100000)] _ _ Vp Yw [] (fun a h=>aB (z10 h)) (B0 aS rfl rfl) rfl rfl rfl ⟨⟨rfl,rfl⟩,trivial⟩ (fun a=>⟨rfl,rfl,rfl,rfl,rfl,rfl,rfl,rfl⟩) (fun a b=>?_)
  |refine aX (Bm 11 b) [(100000,100000)] [(100000,100000)] _ _ Vp Yw [] (fun a h=>aB (z10 h)) (B0 aS rfl rfl) rfl rfl rfl ⟨⟨rfl,rfl⟩,trivial⟩ (fun a=>⟨rfl,rfl,rfl,rfl,rfl,rfl,rfl,rfl⟩) (fun a b=>?_)
  |refine GX.o (res:=S8) (meF:=N2) b ?_;exact GX.mk (zby _) (aA []) rfl _ rfl (by repeat' first|exact Sub.nil _|exact Sub.refl _|refine Sub.agg ?_|refine Sub.tup ?_|refine Sub.fn ?_|exact SubL.nil|refine SubL.cons ?_ ?_|refine Sub.sl _ ?_|exact SubE.nil|refine SubE.cons ?_ ?_) [100000] ⟨bI ⟨1,0,_,_,_,_,_,Nat.le_of_ble_eq_true rfl,rfl,rfl,rfl,rfl,rfl⟩,trivial⟩ rfl
  |refine bL b D4 (fun x b=>?_)
  |refine aM (Bm 24 b) [(100000,100000)] [(100000,100000)] _ _ N2 S8 [] (fun a h=>aB (e h)) (B0 aF rfl rfl) rfl rfl rfl ⟨⟨rfl,rfl⟩,trivial⟩ (fun a=>⟨rfl,rfl,rfl,rfl,rfl,rfl,rfl,rfl⟩) (fun a b=>?_)
  |refine aX (Bm 24 b) [(100000,100000)] [(100000,100000)] _ _ N2 S8 [] (fun a h=>aB (e h)) (B0 aF rfl rfl) rfl rfl rfl ⟨⟨rfl,rfl⟩,trivial⟩ (fun a=>⟨rfl,rfl,rfl,rfl,rfl,rfl,rfl,rfl⟩) (fun a b=>?_)
  |exact ⟨_,b,aA []⟩
  |refine aV b (aA []) fun m v b=>?_
  |refine AndA ?_
  |refine aP ?_
instance ztu {n c}:CI E0 (Sm n c) false 112 [Av c] (fun r=>.sl 1 (r.map aI)):=⟨fun {r} b=>by
 unfold Sm at b;refine cw Tryz.func112 ?_;repeat' first
  |refine aR b fun b=>?_
  |refine aL [7] ?_;conv=>whnf
  |refine aQ b (fun b=>?_) fun b=>?_
  |refine aW ?_
  |refine aY ?_
  |refine aM (Bm 9 b) [(100000,3)] [(100000,3)] _ _ N2 S8 [] (fun a h=>aB (z1s h)) (B0 aF rfl rfl) rfl rfl rfl ⟨⟨rfl,rfl⟩,trivial⟩ (fun a=>⟨rfl,rfl,rfl,rfl,rfl,rfl,rfl,rfl⟩) (fun a b=>?_)
  |refine aX (Bm 9 b) [(100000,3)] [(100000,3)] _ _ N2 S8 [] (fun a h=>aB (z1s h)) (B0 aF rfl rfl) rfl rfl rfl ⟨⟨rfl,rfl⟩,trivial⟩ (fun a=>⟨rfl,rfl,rfl,rfl,rfl,rfl,rfl,rfl⟩) (fun a b=>?_)
  |refine NatX.oS b rfl (fun b=>?_) (fun b=>?_)
  |(cases b;done)
  |refine aO b fun l b=>?_
  |exact ⟨_,b,aA [(7019,19)]⟩
  |exact ⟨_,b,aA []⟩
  |refine aV b ?_ fun m v b=>?_
  |exact aJ (bA 4 7019 3 1 rfl rfl) (aA [])
  |refine AndA ?_
  |refine aP ?_
  |exact aK b⟩
def z6u (c:Int)(b:(List AV))(m0n:Nat)(a:(Ars (List (Int×Bool)))):List (Nat×Ent):=[(100000,.box 130 [.cont (m0n) 200000]),(200000,.are 136 (a).1 (List.map (enO aI AV.bool) (a).2))]
def U8 (r:Nat×(Ars (List (Int×Bool)))):List (Nat×Ent):=[(100000,.box 130 [.cont (r.1) 270000]),(270000,.are 136 (r.2).1 (List.map (enO aI AV.bool) (r.2).2))]
def Y2 (r:Nat×(Ars (List (Int×Bool)))):AV:=.tup []
def z6s (r:Nat×(Ars (List (Int×Bool)))):AS:=⟨[(2,.ptr 100000 0)],U8 r⟩
end
noncomputable section
abbrev z0r {n a m0n f c d e}:=li (Oq n a m0n f c d e) (fun b=>⟨[(0,aI f),(2,.ptr 100000 0),(9,.row 200001),(10,aI (((a.map idA).length:Int))),(11,aI c.1),(16,.sl 1 (d.map aI)),(17,aI (((d.map aI).length:Int))),(18,aI b.1)],[(100000,.box 130 [.cont (m0n) 200000]),(200000,.are 136 (b.2).1 (List.map (enO aI AV.bool) (b.2).2)),(200001,.row 111 8 (a.map idA))]⟩) fun _ _=>Oq.eq_2 ..
abbrev z0s {n a m0n d c}:=li (K6 n a m0n d c) (fun b=>⟨[(0,aI d),(2,.ptr 100000 0),(9,.row 200001),(10,aI (((a.map idA).length:Int))),(11,aI b.1)],[(100000,.box 130 [.cont (m0n) 200000]),(200000,.are 136 (b.2).1 (List.map (enO aI AV.bool) (b.2).2)),(200001,.row 111 8 (a.map idA))]⟩) fun _ _=>K6.eq_2 ..
abbrev z2h {n b e a d}:=li (P7 n b e a d) (fun c=>⟨[(1,aI e),(2,.ptr 100000 0),(3,.ptr 100001 0),(4,.ptr 100002 0),(23,.sl 1 (a.map aI)),(24,aI (((a.map aI).length:Int))),(25,aI c.1)],[(100000,.box 130 [.cont (c.2.1) 200000]),(100001,.box 175 [.sl 1 (List.map (fun q=>AV.sl 1 (List.map aI q)) (c.2.2.1))]),(100002,.box 177 [.fn 114 [.ptr 100000 0,.ptr 100001 0,.ptr 100002 0]]),(200000,.are 136 (c.2.2.2).1 (List.map (enO aI AV.bool) (c.2.2.2).2))]⟩) fun _ _=>P7.eq_2 ..
abbrev z5b {n b d e}:=li (Qe n b d e) (fun c=>⟨[(12,.ptr 12 0),(14,.ptr 14 0),(15,aI d.1),(104,.sl 1 (List.map (fun q=>AV.mapv (List.map (encM aI AV.bool) q)) ((aval b)))),(105,aI ((((List.map (fun q=>AV.mapv (List.map (encM aI AV.bool) q)) ((aval b))).length:Nat):Int))),(106,aI d.1),(112,.ptr 112 0)],[(12,.box 130 [.cont (c.1) 7092]),(14,.box 177 [.fn 114 [.ptr 12 0,.ptr 9 0,.ptr 14 0]]),(9,.box 175 [.sl 1 (List.map (fun q=>AV.sl 1 (List.map aI q)) (c.2.1))]),(112,.it (List.map (encM aI AV.bool) (c.2.2.1))),(7092,.are 136 (c.2.2.2).1 (List.map (enO aI AV.bool) (c.2.2.2).2))]⟩) fun _ _=>Qe.eq_2 ..
abbrev z5c {n b d}:=li (Gu n b d) (fun c=>⟨[(12,.ptr 12 0),(14,.ptr 14 0),(104,.sl 1 (List.map (fun q=>AV.mapv (List.map (encM aI AV.bool) q)) ((aval b)))),(105,aI ((((List.map (fun q=>AV.mapv (List.map (encM aI AV.bool) q)) ((aval b))).length:Nat):Int))),(106,aI c.1)],[(12,.box 130 [.cont (c.2.1) 7092]),(14,.box 177 [.fn 114 [.ptr 12 0,.ptr 9 0,.ptr 14 0]]),(9,.box 175 [.sl 1 (List.map (fun q=>AV.sl 1 (List.map aI q)) (c.2.2.1))]),(7092,.are 136 (c.2.2.2).1 (List.map (enO aI AV.bool) (c.2.2.2).2))]⟩) fun _ _=>Gu.eq_2 ..
abbrev z5d {n h c b d f g}:=li (Ie n h c b d f g) (fun e=>⟨[(3,.ptr 3 0),(9,.ptr 9 0),(12,.ptr 12 0),(94,aI (((f:Nat):Int))),(95,aI e.1)],[(3,.box 130 [.cont (c) 7021]),(7021,.are 136 (b).1 (List.map (enO aI AV.bool) (b).2)),(9,.box 175 [.cont (h) 53]),(53,.nest 112 (List.map (enR aI 3 1) (d))),(12,.box 130 [.cont (f) 92]),(92,.are 136 (e.2).1 (List.map (enO aI AV.bool) (e.2).2))]⟩) fun _ _=>Ie.eq_2 ..
abbrev z5e {n a d c}:=li (Gv n a d c) (fun b=>⟨[(1,.ptr 1 0),(3,.ptr 3 0),(4,.fn 111 [.ptr 3 0]),(9,.ptr 9 0),(55,.sl 17 (a.fEdges.map B7)),(56,aI (((a.fEdges.map B7).length:Int))),(57,aI b.1)],[(1,.box 25 (B4 a)),(3,.box 130 [.cont (b.2.1) 7021]),(9,.box 175 [.cont (d) 53]),(53,.nest 112 (List.map (enR aI 3 1) (b.2.2.1))),(7021,.are 136 (b.2.2.2).1 (List.map (enO aI AV.bool) (b.2.2.2).2))]⟩) fun _ _=>Gv.eq_2 ..
abbrev z5a {n a c d e}:=li (Qd n a c d e) (fun b=>⟨[(1,.ptr 1 0),(3,.ptr 3 0),(4,.fn 111 [.ptr 3 0]),(5,aI c.1),(24,.sl 1 (a.fStates.map Bb)),(25,aI (((a.fStates.map Bb).length:Int))),(26,aI c.1),(36,.sl 11 (d.fGuards.map Be)),(37,aI (((d.fGuards.map Be).length:Int))),(38,aI b.1)],[(1,.box 25 (B4 a)),(3,.box 130 [.cont (b.2.1) 7021]),(7021,.are 136 (b.2.2).1 (List.map (enO aI AV.bool) (b.2.2).2))]⟩) fun _ _=>Qd.eq_2 ..
abbrev z5f {n a c}:=li (Lc n a c) (fun b=>⟨[(1,.ptr 1 0),(3,.ptr 3 0),(4,.fn 111 [.ptr 3 0]),(24,.sl 1 (a.fStates.map Bb)),(25,aI (((a.fStates.map Bb).length:Int))),(26,aI b.1)],[(1,.box 25 (B4 a)),(3,.box 130 [.cont (b.2.1) 7021]),(7021,.are 136 (b.2.2).1 (List.map (enO aI AV.bool) (b.2.2).2))]⟩) fun _ _=>Lc.eq_2 ..
abbrev z17 {n}:=jf (K9 n) (fun b=>⟨[(4,.bool (b))],[]⟩) fun _=>K9.eq_1 ..
attribute [instance] z0r z0s z2h z5b z5c z5d z5e z5a z5f z17
theorem z0h {n d c m0n e r}(b:Y7 n d c m0n e=some r):ConG E0.P none (CalF E0.P 111 0) [aI d,.sl 8 (c.map idA),.ptr 100000 0] [] (z6u d c m0n e) (Y2 r) (U8 r):=by
 unfold Y7 at b;refine aC (E:=(E0p 3)) (caps:=[]) _ aD rfl rfl rfl rfl rfl ?_;repeat' first
  |refine aE ?_;conv=>whnf
  |refine aQ b (fun b=>?_) fun b=>?_
  |refine aW ?_
  |refine aY ?_
  |exact GX.A (res:=Y2) (meF:=U8) b z6s (h1:=aA [(270000,200000)])
  |refine bL b D4 (fun x b=>?_)
  |refine bB b fun a b=>?_
  |exact ⟨_,b,aA []⟩
  |refine aH b fun x b=>?_
  |refine bE b rfl rfl rfl rfl rfl rfl rfl rfl (fun b=>?_)
  |refine bN b rfl rfl rfl rfl rfl rfl rfl (fun j b=>?_)
  |refine bO AV.bool b (aN rfl) rfl rfl rfl rfl rfl rfl rfl rfl rfl (by first|rfl|kernel_rfl) rfl rfl (fun l b=>?_)
  |refine aV b (aA []) fun m v b=>?_
  |refine AndA ?_
  |refine aP ?_
set_option maxHeartbeats 400000 in
theorem zol (l:List (Cel 8))(S:Nat->Prop)(v:Value)(w:World)(h:Sl w S 8 encC v l)(d:l.length<=1000000000) :
  Calls Tryz.prog 113 #[v] w (K2 111 8 encC l w):=by
 have eok:EOk Tryz.prog 107 111 8 88 (encC (n:=8)):=eokC (sz:=8) (Dd 107 _ rfl) rfl (Dd 111 _ rfl) (by omega) rfl;obtain ⟨A,c,rfl,f,_⟩:=h.form;have a:=fun (W:World)=>Lib.run_eql_slice_nil W 107 111 A l.length c 0 0 Tryz.underlying107
 have H:=hide h;cases A with
 |none =>
  have g:l=[]:=h.none_nil;subst g;clear h H d f;simp only [length_nil,Option.isNone_none] at a ⊢
  go_enter aT,aZ
  go_wp2
  go_ret
  exact ⟨none,0,rfl,Own.nil_,by go_grown⟩
 |some ad =>
  clear h
  go_enter aT,aZ
  go_wp2_with (at_builtin;refine Jg rfl _ _ rfl eok rfl Own.made_ rfl (H.out.alloc _) (by simp;omega) (by omega) (by simp) ?_;intro A' i w1 b e _)
  go_ret
  exact ⟨A',i,rfl,b,(Own.made_ (sz:=8) (enc:=encC (n:=8))).grown ((Below.refl _ _).alloc (Nat.le_refl _) _) (Nat.le_refl _) (by simp) e⟩
theorem zbb {n a r}(b:Cc n a=some r):ConT E0 113 [.sl 8 (List.map idA a)] 111 8 (List.map idA r) (.row 0):=Ny rfl (B0 aT rfl rfl) zol b
def z1c (c:Int)(m0n:Nat)(a:(Ars (List (Int×Bool))))(b:(List AV)):List (Nat×Ent):=[(100000,.box 130 [.cont (m0n) 200000]),(200000,.are 136 (a).1 (List.map (enO aI AV.bool) (a).2)),(200001,.row 111 8 (b.map idA))]
def Tu (r:Nat×(Ars (List (Int×Bool)))):List (Nat×Ent):=[(100000,.box 130 [.cont (r.1) 270000]),(270000,.are 136 (r.2).1 (List.map (enO aI AV.bool) (r.2).2))]
def Xu (r:Nat×(Ars (List (Int×Bool)))):AV:=.tup []
def z19 (r:Nat×(Ars (List (Int×Bool)))):AS:=⟨[(2,.ptr 100000 0)],Tu r⟩
theorem z02 {n c m0n e d r}(b:Xw n c m0n e d=some r):ConG E0.P none (CalF E0.P 111 0) [aI c,.row 200001,.ptr 100000 0] [] (z1c c m0n e d) (Xu r) (Tu r):=by
 unfold Xw at b;refine aC (E:=(E0p 3)) (caps:=[]) _ aD rfl rfl rfl rfl rfl ?_;repeat' first
  |refine aE ?_;conv=>whnf
  |refine aQ b (fun b=>?_) fun b=>?_
  |refine aW ?_
  |refine aY ?_
  |exact GX.A (res:=Xu) (meF:=Tu) b z19 (h1:=aA [(270000,200000)])
  |refine NatX.o b (fun m b=>?_)
  |refine EltX.oD b D4 (fun x b=>?_)
  |refine bB b fun a b=>?_
  |exact ⟨_,b,aA []⟩
  |refine aH b fun x b=>?_
  |refine bE b rfl rfl rfl rfl rfl rfl rfl rfl (fun b=>?_)
  |refine bN b rfl rfl rfl rfl rfl rfl rfl (fun j b=>?_)
  |refine bO AV.bool b (aN rfl) rfl rfl rfl rfl rfl rfl rfl rfl rfl (by first|rfl|kernel_rfl) rfl rfl (fun l b=>?_)
  |refine aV b (aA []) fun m v b=>?_
  |refine AndA ?_
  |refine aP ?_
theorem y7n (a b:Int):eqK (aI a) (aI b)=some (decide (a=b)):=by simp [eqK,eq1,aI,Nz]
def z6t (d:Int)(c:Int)(m0n:Nat)(a:(Ars (List (Int×Bool))))(b:(List (List Int))):List (Nat×Ent):=[(100000,.box 130 [.cont (m0n) 200000]),(200000,.are 136 (a).1 (List.map (enO aI AV.bool) (a).2)),(100001,.box 175 [.sl 1 (List.map (fun q=>AV.sl 1 (List.map aI q)) (b))]),(100002,.box 177 [.fn 114 [.ptr 100000 0,.ptr 100001 0,.ptr 100002 0]])]
def Ld (r:Nat×(Ars (List (Int×Bool)))×(List (List Int))):List (Nat×Ent):=[(100000,.box 130 [.cont (r.1) 270000]),(270000,.are 136 (r.2.1).1 (List.map (enO aI AV.bool) (r.2.1).2)),(100001,.box 175 [.sl 1 (List.map (fun q=>AV.sl 1 (List.map aI q)) (r.2.2))]),(100002,.box 177 [.fn 114 [.ptr 100000 0,.ptr 100001 0,.ptr 100002 0]])]
def Qi (r:Nat×(Ars (List (Int×Bool)))×(List (List Int))):AV:=.tup []
def z6r (r:Nat×(Ars (List (Int×Bool)))×(List (List Int))):AS:=⟨[(2,.ptr 100000 0),(3,.ptr 100001 0),(4,.ptr 100002 0)],Ld r⟩
theorem z0g {n e d m0n g f r}(c:Im n e d m0n g f=some r):ConG E0.P none (CalF E0.P 114 0) [aI e,aI d,.ptr 100000 0,.ptr 100001 0,.ptr 100002 0] [] (z6t e d m0n g f) (Qi r) (Ld r):=by
 induction n generalizing e d m0n g f r
 case zero=>cases c
 case succ n i =>
 unfold Im at c;refine aC (E:=(E0p 5)) (caps:=[]) _ aG rfl rfl rfl rfl rfl ?_;repeat' first
  |refine aE ?_;conv=>whnf
  |refine aQ c (fun c=>?_) fun c=>?_
  |refine aW ?_
  |refine aY ?_
  |refine bE c rfl rfl rfl rfl rfl rfl rfl rfl (fun c=>?_)
  |refine bN c rfl rfl rfl rfl rfl rfl rfl (fun j c=>?_)
  |refine OpX.alk aI AV.bool c y7n rfl rfl rfl rfl rfl rfl rfl rfl rfl rfl rfl (by first|rfl|kernel_rfl) (by repeat' first|exact Sub.nil _|exact Sub.refl _|refine Sub.agg ?_|refine Sub.tup ?_|refine Sub.fn ?_|exact SubL.nil|refine SubL.cons ?_ ?_|refine Sub.sl _ ?_|exact SubE.nil|refine SubE.cons ?_ ?_) (fun v b c=>?_)
  |exact GX.A (res:=Qi) (meF:=Ld) c z6r (h1:=aA [(270000,200000)])
  |refine bO AV.bool c (aN rfl) rfl rfl rfl rfl rfl rfl rfl rfl rfl (by first|rfl|kernel_rfl) rfl rfl (fun l c=>?_)
  |refine IdxX.o (fun q=>AV.sl 1 (List.map aI q)) c fun x c=>?_
  |refine aH c fun x c=>?_
  |refine aM (Bm 32 c) [(100000,100000),(100001,100001),(100002,100002),(200000,200000)] [(100000,100000),(270000,33000001),(100001,100001),(100002,100002)] _ _ Ld Qi [200000] (fun a h=>aB (i h)) (B0 aG rfl rfl) rfl rfl rfl ⟨⟨rfl,rfl⟩,⟨⟨rfl,rfl⟩,⟨⟨rfl,rfl⟩,⟨⟨rfl,rfl⟩,trivial⟩⟩⟩⟩ (fun a=>⟨rfl,rfl,rfl,rfl,rfl,rfl,rfl,rfl⟩) (fun a c=>?_)
  |refine aX (Bm 32 c) [(100000,100000),(100001,100001),(100002,100002),(200000,200000)] [(100000,100000),(270000,33000001),(100001,100001),(100002,100002)] _ _ Ld Qi [200000] (fun a h=>aB (i h)) (B0 aG rfl rfl) rfl rfl rfl ⟨⟨rfl,rfl⟩,⟨⟨rfl,rfl⟩,⟨⟨rfl,rfl⟩,⟨⟨rfl,rfl⟩,trivial⟩⟩⟩⟩ (fun a=>⟨rfl,rfl,rfl,rfl,rfl,rfl,rfl,rfl⟩) (fun a c=>?_)
  |exact ⟨_,c,aA [(200000,33000001)]⟩
  |refine aV c (aA []) fun m v c=>?_
  |refine AndA ?_
  |refine aP ?_
instance zk7 {n c}:CI E0 (Ur n c) false 76 [Bj c] (fun r=>.sl 1 (List.map (fun q=>AV.mapv (List.map (encM aI AV.bool) q)) (r))):=⟨fun {r} b=>by
 unfold Ur at b;refine cw Tryz.func76 ?_;repeat' first
  |refine AW.areO aI AV.bool b 21 rfl (fun b=>?_)
  |refine AW.nstO (er:=aI) 3 1 b 53 rfl (fun b=>?_)
  |refine AW.areO aI AV.bool b 92 rfl (fun b=>?_)
  |refine AW.frrO (ety:=3) (sz:=1) aI b 53 rfl (fun b=>?_)
  |refine AW.frcO aI AV.bool b 7021 rfl (fun b=>?_)
  |refine AW.frcO aI AV.bool b 7092 rfl (fun b=>?_)
  |refine AW.pckO (encM aI AV.bool) b 112 rfl (fun x s b=>?_)
  |refine aR b fun b=>?_
  |refine AW.frzO b 53 rfl (fun b=>?_)
  |refine AW.frzO b 7021 rfl (fun b=>?_)
  |refine AW.frzO b 7092 rfl (fun b=>?_)
  |refine aL [28,29,37,18,34,22,14,2] ?_;conv=>whnf
  |refine aQ b (fun b=>?_) fun b=>?_
  |refine aW ?_
  |refine aY ?_
  |refine MakX.om b (fun m b=>?_)
  |refine MakX.on b (fun m b=>?_)
  |refine OpX.lnc rfl rfl rfl rfl rfl rfl ?_
  |refine IdxX.o (fun q=>AV.mapv (List.map (encM aI AV.bool) q)) b fun x b=>?_
  |refine OpX.rng rfl rfl rfl rfl rfl rfl rfl rfl ?_
  |exact ⟨_,b,aA []⟩
  |refine OpX.nxt (encM aI AV.bool) b rfl rfl rfl rfl rfl (fun b=>?_) (fun b=>?_)
  |refine OpX.ent rfl rfl rfl rfl rfl ?_
  |refine aM (Bm 120 b) [(100000,12),(100001,9),(100002,14),(200000,7092)] [(100000,12),(270000,121000001),(100001,9),(100002,14)] _ _ Ld Qi [7092] (fun a h=>aB (z0g h)) (B0 aG rfl rfl) rfl rfl rfl ⟨⟨rfl,rfl⟩,⟨⟨rfl,rfl⟩,⟨⟨rfl,rfl⟩,⟨⟨rfl,rfl⟩,trivial⟩⟩⟩⟩ (fun a=>⟨rfl,rfl,rfl,rfl,rfl,rfl,rfl,rfl⟩) (fun a b=>?_)
  |refine aX (Bm 120 b) [(100000,12),(100001,9),(100002,14),(200000,7092)] [(100000,12),(270000,121000001),(100001,9),(100002,14)] _ _ Ld Qi [7092] (fun a h=>aB (z0g h)) (B0 aG rfl rfl) rfl rfl rfl ⟨⟨rfl,rfl⟩,⟨⟨rfl,rfl⟩,⟨⟨rfl,rfl⟩,⟨⟨rfl,rfl⟩,trivial⟩⟩⟩⟩ (fun a=>⟨rfl,rfl,rfl,rfl,rfl,rfl,rfl,rfl⟩) (fun a b=>?_)
  |exact ⟨_,b,aJ (LeX.itc 112 rfl) (aA [(7092,121000001)])⟩
  |refine aV b ?_ fun m v b=>?_
  |exact aA []
  |exact aA [(7092,92)]
  |refine bE b rfl rfl rfl rfl rfl rfl rfl rfl (fun b=>?_)
  |refine OpX.ast aI AV.bool b rfl rfl rfl rfl rfl rfl rfl rfl rfl rfl rfl (fun m b=>?_)
  |refine aH b fun x b=>?_
  |refine bF b (fun r=>r) idA (fun _=>AV.row 0) rfl (fun a h=>zbb h) (fun a b=>?_)
  |refine bF b (fun r=>r) idA (fun _=>AV.row 0) rfl (fun a h=>ConT.sub (by repeat' first|exact Sub.nil _|exact Sub.refl _|refine Sub.agg ?_|refine Sub.tup ?_|refine Sub.fn ?_|exact SubL.nil|refine SubL.cons ?_ ?_|refine Sub.sl _ ?_|exact SubE.nil|refine SubE.cons ?_ ?_) (zbb h)) (fun a b=>?_)
  |refine aO b fun l b=>?_
  |refine aM (Bm 71 b) [(100000,3),(200001,70),(200000,7021)] [(100000,3),(270000,72000001)] _ _ Tu Xu [70,7021] (fun a h=>aB (z02 h)) (B0 aD rfl rfl) rfl rfl rfl ⟨⟨rfl,rfl⟩,⟨⟨rfl,rfl⟩,⟨⟨rfl,rfl⟩,trivial⟩⟩⟩ (fun a=>⟨rfl,rfl,rfl,rfl,rfl,rfl,rfl,rfl⟩) (fun a b=>?_)
  |refine aX (Bm 71 b) [(100000,3),(200001,70),(200000,7021)] [(100000,3),(270000,72000001)] _ _ Tu Xu [70,7021] (fun a h=>aB (z02 h)) (B0 aD rfl rfl) rfl rfl rfl ⟨⟨rfl,rfl⟩,⟨⟨rfl,rfl⟩,⟨⟨rfl,rfl⟩,trivial⟩⟩⟩ (fun a=>⟨rfl,rfl,rfl,rfl,rfl,rfl,rfl,rfl⟩) (fun a b=>?_)
  |refine OpX.ntk aI b rfl rfl rfl rfl rfl rfl rfl rfl rfl rfl (fun q b=>?_)
  |refine OpX.npt aI b rfl rfl rfl rfl rfl rfl rfl rfl rfl rfl rfl (fun l b=>?_)
  |exact ⟨_,b,aA [(7021,72000001)]⟩
  |refine aM (Bm 47 b) [(100000,3),(200000,7021)] [(100000,3),(270000,48000001)] _ _ U8 Y2 [7021] (fun a h=>aB (z0h h)) (B0 aD rfl rfl) rfl rfl rfl ⟨⟨rfl,rfl⟩,⟨⟨rfl,rfl⟩,trivial⟩⟩ (fun a=>⟨rfl,rfl,rfl,rfl,rfl,rfl,rfl,rfl⟩) (fun a b=>?_)
  |refine aX (Bm 47 b) [(100000,3),(200000,7021)] [(100000,3),(270000,48000001)] _ _ U8 Y2 [7021] (fun a h=>aB (z0h h)) (B0 aD rfl rfl) rfl rfl rfl ⟨⟨rfl,rfl⟩,⟨⟨rfl,rfl⟩,trivial⟩⟩ (fun a=>⟨rfl,rfl,rfl,rfl,rfl,rfl,rfl,rfl⟩) (fun a b=>?_)
  |exact ⟨_,b,aA [(7021,48000001)]⟩
  |exact aA [(7021,21)]
  |refine AndA ?_
  |refine aP ?_
  |exact aK b⟩
def z9j (a:Ai):List (Nat×Ent):=[]
def H8 (r:(List (List (Int×Bool)))):List (Nat×Ent):=[(3,.box 130 [.sl 1 (List.map (fun q=>AV.mapv (List.map (encM aI AV.bool) q)) (r))])]
def J2 (r:(List (List (Int×Bool)))):AV:=.fn 77 [.ptr 3 0]
def z96 (r:(List (List (Int×Bool)))):AS:=⟨[(2,.fn 77 [.ptr 3 0])],H8 r⟩
theorem Qh {n c r}(b:Hb n c=some r):ConG E0.P none (CalF E0.P 44 0) [Bj c] [] (z9j c) (J2 r) (H8 r):=by
 unfold Hb at b;refine aC (E:=(E0p 1)) (caps:=[]) _ Tryz.func44 rfl rfl rfl rfl rfl ?_;repeat' first
  |refine aE ?_;conv=>whnf
  |refine aQ b (fun b=>?_) fun b=>?_
  |refine aW ?_
  |refine aY ?_
  |refine bB b fun a b=>?_
  |exact GX.A (res:=J2) (meF:=H8) b z96
  |refine AndA ?_
  |refine aP ?_
end
end Go.Proofs.YtidhlpjgifoneaaGreat
