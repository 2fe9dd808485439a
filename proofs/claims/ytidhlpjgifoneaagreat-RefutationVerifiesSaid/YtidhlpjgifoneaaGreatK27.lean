/- What some functions compute, over plain values. -/
import Derived.Test.YtidhlpjgifoneaaGreatK26
set_option linter.unusedVariables false
set_option linter.unusedSimpArgs false
set_option maxRecDepth 100000
set_option maxHeartbeats 8000000
namespace Go.Proofs.YtidhlpjgifoneaaGreat
open Go.RowKit List
open LeX renaming a->aA,trans->aJ,adopt->bA
open ConG renaming up->aB,walk->aC
open Tryz renaming func111->aD,func151->aF,func114->aG,func152->aS,func113->aT,func91->aU,ntmps113->aZ,func156->bC,func129->bD,func85->bG,func37->bH
open AW renaming step->aE,stepU->aL,regO->aR
open IdxX renaming A->aH,oD->bL
open RetX renaming oB->aK
open B8 renaming oM->aM
open Or renaming inl->aN,inr->bI
open AppX renaming oA->aO
open EqX renaming A->aP
open Aa renaming o->aQ,t->aW,f->aY
open Az renaming I->aV
open Af renaming oM->aX,I->bB,oR->bF
open OpX renaming ixc->bE,aob->bN,aup->bO
noncomputable section
abbrev z14 {n d c}:=li (Jy n d c) (fun b=>⟨[(0,.row 200000),(1,.fn 130 [.ref [.fn 92 []]]),(5,aI b.1),(6,.der (.sub 1 (d)) 200000),(7,aI b.2.1)],[(200000,.row 44 1 (b.2.2.map Au))]⟩) fun _ _=>Jy.eq_2 ..
abbrev z15 {n a b}:=li (Od n a b) (fun c=>⟨[(0,.row 200000),(1,.fn 130 [.ref [.fn 92 []]]),(5,aI c)],[(200000,.row 44 1 (a.map Au))]⟩) fun _ _=>Od.eq_2 ..
abbrev z56 {n e d a c}:=li (Py n e d a c) (fun b=>⟨[(0,.ref [aI a.fa.fVars,aI a.fa.fScopes,.sl 1 (a.fa.fStates.map Ba),.sl 17 (a.fa.fEdges.map B6),.mapv (List.map (encM Be A7) (a.fheld))]),(5,.ptr 5 0),(8,.ptr 8 0),(9,.ptr 9 0),(13,.sl 3 (d.map A4)),(14,aI (((d.map A4).length:Int))),(15,aI b.1)],[(5,.box 71 (Bw e)),(8,.box 57 [.row 811000001]),(9,.box 50 [.row 811000003]),(811000001,.row 60 3 (b.2.1.map A4)),(811000003,.row 44 1 (b.2.2.map Au))]⟩) fun _ _=>Py.eq_2 ..
abbrev zcc {n b}:=jf (Rz n b) (fun c=>⟨[(17,.sl 3 (b.1.map A4)),(18,.sl 1 (b.2.map Au)),(64,.bool (c))],[]⟩) fun _=>Rz.eq_1 ..
attribute [instance] z14 z15 z56 zcc
instance zja {n c g f e d}:CI E0 (R5 n c g f e d) false 160 [.ref [aI c.fa.fVars,aI c.fa.fScopes,.sl 1 (c.fa.fStates.map Ba),.sl 17 (c.fa.fEdges.map B6),.mapv (List.map (encM Be A7) (c.fheld))],A4 g,B6 f,Di e,A7 d] (fun r=>.tup [A4 r.1,.bool (r.2)]):=⟨fun {r} b=>by
 unfold R5 at b;refine cw Tryz.func160 ?_;repeat' first
  |refine AW.jI b (fun v b=>?_) fun b=>?_
  |refine aR b fun b=>?_
  |refine aL [1] ?_;conv=>whnf
  |refine aQ b (fun b=>?_) fun b=>?_
  |refine aW ?_
  |refine bF b (fun r=>r) Ad z96 rfl (fun a h=>zed h) (fun a b=>?_)
  |refine B8.I b (fun a b=>?_) rfl rfl fun _=>bI rfl
  |refine bF b (fun r=>r) (fun q=>AV.sl 5 (List.map A7 q)) (fun _=>AV.row 0) rfl (fun a h=>zji h) (fun a b=>?_)
  |refine IdxX.o (fun q=>AV.sl 5 (List.map A7 q)) b fun x b=>?_
  |refine bF b (fun r=>r) A7 (fun _=>AV.row 0) rfl (fun a h=>zjh h) (fun a b=>?_)
  |refine aO b fun l b=>?_
  |refine NatX.o b (fun m b=>?_)
  |refine OpX.str A7 b rfl rfl rfl rfl rfl rfl rfl rfl rfl rfl rfl (fun l b=>?_)
  |refine aM (Bo 96 b) [(100000,7),(200001,52)] [(260000,97000000),(100000,7)] _ _ Uk Yc [52] (fun a h=>aB (z8n h)) (Ay Tryz.func193 rfl rfl) rfl rfl rfl ⟨⟨rfl,rfl⟩,⟨⟨rfl,rfl⟩,trivial⟩⟩ (fun a=>⟨rfl,rfl,rfl,rfl,rfl,rfl,rfl,rfl⟩) (fun a b=>?_)
  |refine bF b (fun r=>r) Ar (fun _=>AV.row 0) rfl (fun a h=>zc7 h) (fun a b=>?_)
  |refine bB b fun a b=>?_
  |refine bL b D4 (fun x b=>?_)
  |refine B8.o b zns (fun a h=>Con.sub (by repeat' first|exact Sub.nil _|exact Sub.refl _|refine Sub.agg ?_|refine Sub.tup ?_|refine Sub.fn ?_|exact SubL.nil|refine SubL.cons ?_ ?_|refine Sub.sl _ ?_|exact SubE.nil|refine SubE.cons ?_ ?_) (zfw.h h)) (fun _=>bI rfl) (fun a b=>?_)
  |exact ⟨_,b,aA []⟩
  |refine aV b (aA []) fun m v b=>?_
  |refine OpX.nckR rfl rfl rfl rfl ?_
  |refine aH b fun x b=>?_
  |refine AndA ?_
  |exact aK b⟩
def z0v (yl_l:Nat)(yl_T:Array Value)(c:A8)(d:A0)(a:B9)(e:Ao)(b:Int×(List A0)×(List Ac)):AS:=⟨[(0,.yld yl_l yl_T [.any,.any,.any,.any,.any,.any,.any,.any,.ptr 100000 0,.ptr 100001 0]),(1,.ptr 100002 0),(2,.ptr 100003 0),(3,.ptr 100004 0),(5,.ptr 5 0),(39,.sl 17 (a.fa.fEdges.map B6)),(40,aI (((a.fa.fEdges.map B6).length:Int))),(41,aI (b.1))],[(100000,.box 57 [.row 33000001]),(100001,.box 50 [.row 33000003]),(100002,.box 137 [.ref [aI (a.fa.fVars),aI (a.fa.fScopes),.sl 1 (a.fa.fStates.map Ba),.sl 17 (a.fa.fEdges.map B6),.mapv (List.map (encM Be A7) (a.fheld))]]),(100003,.box 60 [aI (d.fState),.sl 4 (d.fBindings.map Ar),.sl 2 (d.fStarts.map Ad)]),(100004,.box 71 [aI (c.fSource),aI (c.fSeq),aI (c.fType),aI (c.fTime),.sl 3 (c.fValues.map Ag)]),(5,.box 220 [.sl 1 (List.map (fun q=>AV.sl 5 (List.map A7 q)) (e.fVars))]),(33000001,.row 60 3 (b.2.1.map A4)),(33000003,.row 44 1 (b.2.2.map Au))]⟩
theorem z0q {n yl_l yl_R yl_T c d e a b}:y4j (E0y yl_l yl_R 4) 67 (Hp n c d e a b) (z0v yl_l yl_T c d e a):=LoopA.oT fun _=>rfl
def z0u (yl_l:Nat)(yl_T:Array Value)(c:A8)(d:A0)(a:B9)(e:Ao)(b:Int×(List A0)×(List Ac)):AS:=⟨[(0,.yld yl_l yl_T [.any,.any,.any,.any,.any,.any,.any,.any,.ptr 100000 0,.ptr 100001 0]),(1,.ptr 100002 0),(2,.ptr 100003 0),(3,.ptr 100004 0),(5,.ptr 5 0),(39,.sl 17 (a.fa.fEdges.map B6)),(40,aI (((a.fa.fEdges.map B6).length:Int))),(41,aI (b.1))],[(100000,.box 57 [.row 200000]),(100001,.box 50 [.row 200001]),(100002,.box 137 [.ref [aI (a.fa.fVars),aI (a.fa.fScopes),.sl 1 (a.fa.fStates.map Ba),.sl 17 (a.fa.fEdges.map B6),.mapv (List.map (encM Be A7) (a.fheld))]]),(100003,.box 60 [aI (d.fState),.sl 4 (d.fBindings.map Ar),.sl 2 (d.fStarts.map Ad)]),(100004,.box 71 [aI (c.fSource),aI (c.fSeq),aI (c.fType),aI (c.fTime),.sl 3 (c.fValues.map Ag)]),(5,.box 220 [.sl 1 (List.map (fun q=>AV.sl 5 (List.map A7 q)) (e.fVars))]),(200000,.row 60 3 (b.2.1.map A4)),(200001,.row 44 1 (b.2.2.map Au))]⟩
theorem z0p {n yl_l yl_R yl_T c d e a b}:y4j (E0y yl_l yl_R 4) 67 (Ho n c d e a b) (z0u yl_l yl_T c d e a):=LoopA.oT fun _=>rfl
def z1b (e:(List A0))(d:(List Ac))(a:B9)(c:A0)(b:A8):List (Nat×Ent):=[(100000,.box 57 [.row 200000]),(200000,.row 60 3 (e.map A4)),(100001,.box 50 [.row 200001]),(200001,.row 44 1 (d.map Au)),(100002,.box 137 [.ref [aI a.fa.fVars,aI a.fa.fScopes,.sl 1 (a.fa.fStates.map Ba),.sl 17 (a.fa.fEdges.map B6),.mapv (List.map (encM Be A7) (a.fheld))]]),(100003,.box 60 (Bi c)),(100004,.box 71 (Bw b))]
def T7 (r:(List A0)×(List Ac)×B9×A0×A8):List (Nat×Ent):=[(100000,.box 57 [.row 250000]),(250000,.row 60 3 (r.1.map A4)),(100001,.box 50 [.row 250001]),(250001,.row 44 1 (r.2.1.map Au)),(100002,.box 137 [.ref [aI r.2.2.1.fa.fVars,aI r.2.2.1.fa.fScopes,.sl 1 (r.2.2.1.fa.fStates.map Ba),.sl 17 (r.2.2.1.fa.fEdges.map B6),.mapv (List.map (encM Be A7) (r.2.2.1.fheld))]]),(100003,.box 60 (Bi r.2.2.2.1)),(100004,.box 71 (Bw r.2.2.2.2))]
def z01 (r:(List A0)×(List Ac)×B9×A0×A8):AV:=.tup []
def z05 (yl_l:Nat)(yl_T:Array Value)(r:(List A0)×(List Ac)×B9×A0×A8):AS:=⟨[(0,.yld yl_l yl_T [.any,.any,.any,.any,.any,.any,.any,.any,.ptr 100000 0,.ptr 100001 0]),(1,.ptr 100002 0),(2,.ptr 100003 0),(3,.ptr 100004 0)],T7 r⟩
theorem z0y {n d c i g f r}(b:T9 n d c i g f=some r)(yl_l:Nat)(yl_R:Obj)(yl_T:Array Value)(e:∀ {n:Nat} {j:A0} {d:(List A0)} {c:(List Ac)} {r:(List A0)×(List Ac)},Pz n j d c=some r->ConG E0.P (some (yl_l,yl_R)) (fun vs cs w R=>cs=yl_T->CalY E0.P yl_l vs cs w R) [A4 j] [.any,.any,.any,.any,.any,.any,.any,.any,.ptr 100000 0,.ptr 100001 0] (z5h d c) (.bool true) (Kr r)):ConG E0.P (some (yl_l,yl_R)) (CalF E0.P 156 0) [.yld yl_l yl_T [.any,.any,.any,.any,.any,.any,.any,.any,.ptr 100000 0,.ptr 100001 0],.ptr 100002 0,.ptr 100003 0,.ptr 100004 0] [] (z1b d c i g f) (z01 r) (T7 r):=by
 unfold T9 at b;refine aC (E:=(E0y yl_l yl_R 4)) (caps:=[]) _ bC rfl rfl rfl rfl rfl ?_;repeat' first
  |refine aE ?_;conv=>whnf
  |refine aQ b (fun b=>?_) fun b=>?_
  |refine aY ?_
  |refine bB b fun a b=>?_
  |refine OpX.nckR rfl rfl rfl rfl ?_
  |refine aH b fun x b=>?_
  |refine B8.I b (fun a b=>?_) rfl rfl fun _=>bI rfl
  |refine YldX.oM (Bo 32 b) [(100000,100000),(200000,200000),(100001,100001),(200001,200001)] [(100000,100000),(250000,33000001),(100001,100001),(250001,33000003)] _ _ _ Kr (fun _=>AV.bool true) [200000,200001] (fun a h=>e h) rfl rfl rfl rfl rfl ⟨⟨rfl,rfl⟩,⟨⟨rfl,rfl⟩,⟨⟨rfl,rfl⟩,⟨⟨rfl,rfl⟩,trivial⟩⟩⟩⟩ (fun a=>⟨rfl,rfl,rfl,rfl,rfl,rfl,rfl,rfl⟩) (fun a b=>?_)
  |refine GX.o (res:=z01) (meF:=T7) b ?_;exact GX.mk (z05 yl_l yl_T _) (aA [(250000,33000001),(250001,33000003)]) rfl _ rfl (by repeat' first|exact Sub.nil _|exact Sub.refl _|refine Sub.agg ?_|refine Sub.tup ?_|refine Sub.fn ?_|exact SubL.nil|refine SubL.cons ?_ ?_|refine Sub.sl _ ?_|exact SubE.nil|refine SubE.cons ?_ ?_) [100000,100001] ⟨aN ⟨0,0,8,_,_,_,_,_,_,rfl,rfl,rfl,rfl,rfl⟩,⟨aN ⟨0,0,9,_,_,_,_,_,_,rfl,rfl,rfl,rfl,rfl⟩,trivial⟩⟩ rfl
  |exact ⟨_,b,aA []⟩
  |refine YldX.oM (Bo 63 b) [(100000,100000),(200000,33000001),(100001,100001),(200001,33000003)] [(100000,100000),(250000,64000001),(100001,100001),(250001,64000003)] _ _ _ Kr (fun _=>AV.bool true) [33000001,33000003] (fun a h=>e h) rfl rfl rfl rfl rfl ⟨⟨rfl,rfl⟩,⟨⟨rfl,rfl⟩,⟨⟨rfl,rfl⟩,⟨⟨rfl,rfl⟩,trivial⟩⟩⟩⟩ (fun a=>⟨rfl,rfl,rfl,rfl,rfl,rfl,rfl,rfl⟩) (fun a b=>?_)
  |exact ⟨_,b,aA [(33000001,64000001),(33000003,64000003)]⟩
  |refine z0q b (aA []) (fun m v b=>?_);unfold Hp at b
  |refine GX.o (res:=z01) (meF:=T7) b ?_;exact GX.mk (z05 yl_l yl_T _) (aA [(250000,200000),(250001,200001)]) rfl _ rfl (by repeat' first|exact Sub.nil _|exact Sub.refl _|refine Sub.agg ?_|refine Sub.tup ?_|refine Sub.fn ?_|exact SubL.nil|refine SubL.cons ?_ ?_|refine Sub.sl _ ?_|exact SubE.nil|refine SubE.cons ?_ ?_) [100000,100001] ⟨aN ⟨0,0,8,_,_,_,_,_,_,rfl,rfl,rfl,rfl,rfl⟩,⟨aN ⟨0,0,9,_,_,_,_,_,_,rfl,rfl,rfl,rfl,rfl⟩,trivial⟩⟩ rfl
  |refine YldX.oM (Bo 63 b) [(100000,100000),(200000,200000),(100001,100001),(200001,200001)] [(100000,100000),(250000,64000001),(100001,100001),(250001,64000003)] _ _ _ Kr (fun _=>AV.bool true) [200000,200001] (fun a h=>e h) rfl rfl rfl rfl rfl ⟨⟨rfl,rfl⟩,⟨⟨rfl,rfl⟩,⟨⟨rfl,rfl⟩,⟨⟨rfl,rfl⟩,trivial⟩⟩⟩⟩ (fun a=>⟨rfl,rfl,rfl,rfl,rfl,rfl,rfl,rfl⟩) (fun a b=>?_)
  |exact ⟨_,b,aA [(200000,64000001),(200001,64000003)]⟩
  |refine z0p b (aA []) (fun m v b=>?_);unfold Ho at b
  |refine AndA ?_
instance zpn {n b a}:CI E0 (Rs n b a) true 130 [Au b,Au a,.ref [.fn 92 []]] (fun r=>.bool (r)):=by unfold Rs;exact CI.w [] Tryz.func130
def z3w (a:(List Ac)):List (Nat×Ent):=[(200000,.row 44 1 (a.map Au))]
def Td (r:(List Ac)):List (Nat×Ent):=[(260000,.row 44 1 (r.map Au))]
def Xg (r:(List Ac)):AV:=.row 260000
def z0i (r:(List Ac)):AS:=⟨[(4,.row 260000)],Td r⟩
theorem z1o {n c r}(b:Tj n c=some r):ConG E0.P none (CalF E0.P 129 0) [.row 200000,.fn 130 [.ref [.fn 92 []]]] [] (z3w c) (Xg r) (Td r):=by
 unfold Tj at b;refine aC (E:=(E0p 2)) (caps:=[]) _ bD rfl rfl rfl rfl rfl ?_;repeat' first
  |refine aE ?_;conv=>whnf
  |refine aQ b (fun b=>?_) fun b=>?_
  |exact GX.A (res:=Xg) (meF:=Td) b z0i (h1:=aA [(260000,200000)])
  |refine NatX.o b (fun m b=>?_)
  |refine EltX.o Au b (fun x b=>?_)
  |refine bB b fun a b=>?_
  |refine OpX.sub b rfl rfl rfl rfl rfl rfl rfl rfl rfl rfl (fun m b=>?_)
  |refine OpX.clr Au b rfl rfl rfl rfl rfl rfl rfl rfl rfl rfl rfl (by first|exact SubL.refl _|(repeat' first|exact SubL.nil|refine SubL.cons ?_ ?_|exact Sub.refl _|exact Sub.nil _|refine Sub.agg ?_)) (fun l b=>?_)
  |refine SlsX.o Au b (fun l b=>?_)
  |exact GX.A (res:=Xg) (meF:=Td) b z0i (h1:=aA [(260000,64)])
  |refine OpX.lns b rfl rfl rfl rfl rfl rfl rfl (fun b=>?_)
  |refine OpX.ixs b rfl rfl rfl rfl rfl rfl rfl rfl rfl rfl (fun m b=>?_)
  |refine SetX.o Au b (fun x=>rfl) (fun x=>(by first|exact SubL.refl _|(repeat' first|exact SubL.nil|refine SubL.cons ?_ ?_|exact Sub.refl _|exact Sub.nil _|refine Sub.agg ?_))) (fun l b=>?_)
  |exact ⟨_,b,aA []⟩
  |refine aV b (aA []) fun m v b=>?_
  |refine AndA ?_
  |refine aP ?_
def zbs (a:(List Ac)):List (Nat×Ent):=[(200000,.row 44 1 (a.map Au))]
def Vg (r:(List Ac)):List (Nat×Ent):=[(260000,.row 44 1 (r.map Au))]
def Yj (r:(List Ac)):AV:=.row 260000
def zbq (r:(List Ac)):AS:=⟨[(4,.row 260000)],Vg r⟩
theorem z1p {n c r}(b:Rt n c=some r):ConG E0.P none (CalF E0.P 91 0) [.row 200000,.fn 92 []] [] (zbs c) (Yj r) (Vg r):=by
 unfold Rt at b;refine aC (E:=(E0p 2)) (caps:=[]) _ aU rfl rfl rfl rfl rfl ?_;repeat' first
  |refine AW.frbO b 3 rfl rfl (fun b=>?_)
  |refine aR b fun b=>?_
  |refine aL [2] ?_;conv=>whnf
  |refine B8.oI b 200000 (fun r=>r) Au (fun _=>AV.tup []) rfl (fun a h=>(ConC.env rfl (zt1 h))) rfl rfl rfl (fun a b=>?_)
  |refine aM (Bo 10 b) [(200000,200000)] [(260000,11000000)] _ _ Td Xg [200000] (fun a h=>aB (z1o h)) (Ay bD rfl rfl) rfl rfl rfl ⟨⟨rfl,rfl⟩,trivial⟩ (fun a=>⟨rfl,rfl,rfl,rfl,rfl,rfl,rfl,rfl⟩) (fun a b=>?_)
  |exact GX.A (res:=Yj) (meF:=Vg) b zbq (h1:=aA [(260000,11000000)])
instance zjb {n c e d}:CI E0 (Iu n c e d) false 85 [.ref [aI c.fa.fVars,aI c.fa.fScopes,.sl 1 (c.fa.fStates.map Ba),.sl 17 (c.fa.fEdges.map B6),.mapv (List.map (encM Be A7) (c.fheld))],.sl 3 (e.map A4),A7 d] (fun r=>.tup [.sl 3 (r.1.map A4),.sl 1 (r.2.map Au)]):=⟨fun {r} b=>by
 unfold Iu at b;refine Con.walkM (E:=E0r) _ bG rfl (Ay bG rfl rfl) rfl (aN rfl) ?_ rfl rfl rfl;repeat' first
  |refine aE ?_;conv=>whnf
  |refine aQ b (fun b=>?_) fun b=>?_
  |refine aM (Bo 39 b) [(200000,811000001)] [(260000,40000000)] _ _ W0 Yv [811000001] (fun a h=>aB (za5 h)) (Ay Tryz.func121 rfl rfl) rfl rfl rfl ⟨⟨rfl,rfl⟩,trivial⟩ (fun a=>⟨rfl,rfl,rfl,rfl,rfl,rfl,rfl,rfl⟩) (fun a b=>?_)
  |refine aM (Bo 41 b) [(200000,811000003)] [(260000,42000000)] _ _ Vg Yj [811000003] (fun a h=>aB (z1p h)) (Ay aU rfl rfl) rfl rfl rfl ⟨⟨rfl,rfl⟩,trivial⟩ (fun a=>⟨rfl,rfl,rfl,rfl,rfl,rfl,rfl,rfl⟩) (fun a b=>?_)
  |refine aH b fun x b=>?_
  |refine aX (Bo 22 b) [] [(3,23000000),(4,23000001),(5,23000002)] _ _ Xt z06 [] (fun a h=>aB (z6e h)) (Ay Tryz.func120 rfl rfl) rfl rfl rfl trivial (fun a=>⟨rfl,rfl,rfl,rfl,rfl,rfl,rfl,rfl⟩) (fun a b=>?_)
  |refine aO b fun l b=>?_
  |refine BX.o (meF:=Kr) b ?_;exact BX.mk (z0l _) (aA [(250000,200000),(250001,32)]) rfl rfl
  |refine BX.o (meF:=Kr) b ?_;exact BX.mk (z0l _) (aA [(250000,36),(250001,200001)]) rfl rfl
  |refine RngX.oM (Bo 810 b) [(100000,8),(100001,9),(100002,23000000),(100003,23000001),(100004,23000002),(200000,811000001),(200001,811000003)] [(100000,8),(250000,811500001),(100001,9),(250001,811500003),(100002,23000000),(100003,23000001),(100004,23000002)] _ _ _ T7 [811000001,811000003] (fun x h l D fn T f=>z0y h l _ T (fun b=>ConG.round (E:=E0p 10) rfl rfl rfl rfl rfl rfl ?_ l D fn T f)) (Ay bC rfl rfl) rfl rfl rfl rfl rfl ⟨⟨rfl,rfl⟩,⟨⟨rfl,rfl⟩,trivial⟩⟩ ⟨⟨rfl,rfl⟩,⟨⟨rfl,rfl⟩,⟨⟨rfl,rfl⟩,⟨⟨rfl,rfl⟩,⟨⟨rfl,rfl⟩,⟨⟨rfl,rfl⟩,⟨⟨rfl,rfl⟩,trivial⟩⟩⟩⟩⟩⟩⟩ (fun a=>⟨rfl,rfl,rfl,rfl,rfl,rfl,rfl,rfl⟩) (fun a b=>?_)
  |exact ⟨_,b,aA [(811000001,811500001),(811000003,811500003)]⟩
  |refine aV b ?_ fun m v b=>?_
  |exact aJ (LeX.adoptC 8 0 811000001 60 3 57 _ rfl rfl rfl) (aJ (LeX.adoptC 9 0 811000003 44 1 50 _ rfl rfl rfl) (aA []))
  |refine AndA ?_
  |exact aK b⟩
end
noncomputable section
abbrev zcb {n e d a b}:=li (Yk n e d a b) (fun c=>⟨[(2,.sl 3 (d.map A4)),(7,.ptr 7 0),(11,.ref [aI a.fa.fVars,aI a.fa.fScopes,.sl 1 (a.fa.fStates.map Ba),.sl 17 (a.fa.fEdges.map B6),.mapv (List.map (encM Be A7) (a.fheld))]),(31,.sl 3 (d.map A4)),(32,aI (((d.map A4).length:Int))),(33,aI c)],[(7,.box 71 (Bw e))]⟩) fun _ _=>Yk.eq_2 ..
abbrev zab {n a b}:=li (Yd n a b) (fun c=>⟨[(3,.row 7023),(6,.sl 3 (a.map A4)),(7,aI (((a.map A4).length:Int))),(8,aI c.1)],[(7023,.row 60 3 (c.2.map A4))]⟩) fun _ _=>Yd.eq_2 ..
abbrev z9k {n a d b}:=li (Yb n a d b) (fun c=>⟨[(1,.sl 5 (a.map A7)),(2,.fn 38 []),(3,.ptr 3 0),(8,.row 7016),(17,.sl 5 (a.map A7)),(18,aI (((a.map A7).length:Int))),(19,aI c.1)],[(3,.box 25 (B3 d)),(7016,.row 57 1 (List.map (fun q=>AV.sl 3 (List.map A4 q)) (c.2)))]⟩) fun _ _=>Yb.eq_2 ..
abbrev zkp {n f a b d c}:=jf (Nb n f a b d c) (fun e=>⟨[(7,.ref [aI a.fa.fVars,aI a.fa.fScopes,.sl 1 (a.fa.fStates.map Ba),.sl 17 (a.fa.fEdges.map B6),.mapv (List.map (encM Be A7) (a.fheld))]),(10,.row 7058),(13,.sl 3 (c.1.map A4)),(14,.sl 1 (c.2.map Au)),(26,.sl 5 (f.map A7)),(27,aI (((f.map A7).length:Int))),(28,aI b.2.1),(54,.bool (e))],[(7058,.row 44 1 (b.2.2.map Au))]⟩) fun _=>Nb.eq_1 ..
abbrev zko {n d a c}:=li (Na n d a c) (fun b=>⟨[(7,.ref [aI a.fa.fVars,aI a.fa.fScopes,.sl 1 (a.fa.fStates.map Ba),.sl 17 (a.fa.fEdges.map B6),.mapv (List.map (encM Be A7) (a.fheld))]),(9,.sl 3 (b.1.map A4)),(10,.row 7058),(26,.sl 5 (d.map A7)),(27,aI (((d.map A7).length:Int))),(28,aI b.2.1)],[(7058,.row 44 1 (b.2.2.map Au))]⟩) fun _ _=>Na.eq_2 ..
abbrev z9q {n c a d}:=li (Rg n c a d) (fun b=>⟨[(1,.fn 152 [.ptr 100000 0]),(16,.sl 8 (a.fArgs.map idA)),(17,aI (((a.fArgs.map idA).length:Int))),(18,aI b.1)],[(100000,.box 212 [.bool (b.2.1),.bool (b.2.2.1),.bool (b.2.2.2.1),.bool (b.2.2.2.2.1),.bool (b.2.2.2.2.2.1),.bool (b.2.2.2.2.2.2.1),.bool (b.2.2.2.2.2.2.2.1),.bool (b.2.2.2.2.2.2.2.2.1),.bool (b.2.2.2.2.2.2.2.2.2.1),.bool (b.2.2.2.2.2.2.2.2.2.2.1),.bool (b.2.2.2.2.2.2.2.2.2.2.2.1),.bool (b.2.2.2.2.2.2.2.2.2.2.2.2.1),.bool (b.2.2.2.2.2.2.2.2.2.2.2.2.2.1),.bool (b.2.2.2.2.2.2.2.2.2.2.2.2.2.2.1),.bool (b.2.2.2.2.2.2.2.2.2.2.2.2.2.2.2.1),.bool (b.2.2.2.2.2.2.2.2.2.2.2.2.2.2.2.2)])]⟩) fun _ _=>Rg.eq_2 ..
abbrev zai {n a b}:=li (Bs n a b) (fun c=>⟨[(4,.row 7019),(10,.agg [.bool (a.2.1),.bool (a.2.2.1),.bool (a.2.2.2.1),.bool (a.2.2.2.2.1),.bool (a.2.2.2.2.2.1),.bool (a.2.2.2.2.2.2.1),.bool (a.2.2.2.2.2.2.2.1),.bool (a.2.2.2.2.2.2.2.2.1),.bool (a.2.2.2.2.2.2.2.2.2.1),.bool (a.2.2.2.2.2.2.2.2.2.2.1),.bool (a.2.2.2.2.2.2.2.2.2.2.2.1),.bool (a.2.2.2.2.2.2.2.2.2.2.2.2.1),.bool (a.2.2.2.2.2.2.2.2.2.2.2.2.2.1),.bool (a.2.2.2.2.2.2.2.2.2.2.2.2.2.2.1),.bool (a.2.2.2.2.2.2.2.2.2.2.2.2.2.2.2.1),.bool (a.2.2.2.2.2.2.2.2.2.2.2.2.2.2.2.2)]),(11,aI c.1)],[(7019,.row 3 1 (c.2.map aI))]⟩) fun _ _=>Bs.eq_2 ..
abbrev z2h {n m0n a f c d e}:=li (Ov n m0n a f c d e) (fun b=>⟨[(0,aI f),(2,.ptr 100000 0),(9,.sl 8 (a.map idA)),(10,aI (((a.map idA).length:Int))),(11,aI c.1),(16,.sl 1 (d.map aI)),(17,aI (((d.map aI).length:Int))),(18,aI b.1)],[(100000,.box 130 [.cont (m0n) 200000]),(200000,.are 136 (b.2).1 (List.map (enO aI AV.bool) (b.2).2))]⟩) fun _ _=>Ov.eq_2 ..
abbrev z2i {n m0n a d c}:=li (Kb n m0n a d c) (fun b=>⟨[(0,aI d),(2,.ptr 100000 0),(9,.sl 8 (a.map idA)),(10,aI (((a.map idA).length:Int))),(11,aI b.1)],[(100000,.box 130 [.cont (m0n) 200000]),(200000,.are 136 (b.2).1 (List.map (enO aI AV.bool) (b.2).2))]⟩) fun _ _=>Kb.eq_2 ..
attribute [instance] zcb zab z9k zkp zko z9q zai z2h z2i
instance zxw {n f e d c}:CI E0 (Yt n f e d c) false 71 [Bl f,.sl 5 (e.map A7),.sl 3 (d.map A4),A7 c] (fun r=>.tup [.sl 3 (r.1.map A4),.sl 1 (r.2.1.map Au),aI r.2.2]):=⟨fun {r} b=>by
 unfold Yt at b;refine cw Tryz.func71 ?_;repeat' first
  |refine AW.jI b (fun v b=>?_) fun b=>?_
  |refine aR b fun b=>?_
  |refine aL [17] ?_;conv=>whnf
  |refine aQ b (fun b=>?_) fun b=>?_
  |refine Af.oP b Ei (fun u=>.tup [.nilp,aI (u.2)]) (fun u y=>.tup [.ref [aI (y.fa.fVars),aI (y.fa.fScopes),.sl 1 (y.fa.fStates.map Ba),.sl 17 (y.fa.fEdges.map B6),.mapv (List.map (encM Be A7) (y.fheld))],aI (u.2)]) (fun u h=>by simp only [Ei,h,G2]) (fun u y h=>by simp only [Ei,h,G2]) (fun a h=>Ys.h h) (fun a b=>?_) (fun a y b=>?_)
  |(cases b;done)
  |refine bB b fun a b=>?_
  |exact ⟨_,b,aA []⟩
  |refine aH b fun x b=>?_
  |refine aV b (aA []) fun m v b=>?_
  |exact aK b⟩
instance zsi {n c}:CI E0 (Yl n c) false 38 [.sl 3 (c.map A4)] (fun r=>.sl 3 (r.map A4)):=⟨fun {r} b=>by
 unfold Yl at b;refine cw Tryz.func38 ?_;repeat' first
  |refine aE ?_;conv=>whnf
  |refine aQ b (fun b=>?_) fun b=>?_
  |refine aW ?_
  |refine aY ?_
  |refine aH b fun x b=>?_
  |refine Af.o b (fun q=>AV.sl 4 (List.map Ar q)) (fun a h=>zpx h) (fun a b=>?_)
  |refine Af.o b (fun q=>AV.sl 2 (List.map Ad q)) (fun a h=>zpw h) (fun a b=>?_)
  |refine aO b fun l b=>?_
  |exact ⟨_,b,aA [(7023,23)]⟩
  |refine aV b ?_ fun m v b=>?_
  |exact aJ (bA 3 7023 60 3 rfl rfl) (aA [])
  |refine AndA ?_
  |refine aP ?_
  |exact aK b⟩
instance zpq {n d c}:CI E0 (z0w n d c) false 37 [Bl d,.sl 5 (c.map A7),.fn 38 []] (fun r=>.tup [.sl 1 (List.map (fun q=>AV.sl 3 (List.map A4 q)) (r.1)),aI r.2]):=⟨fun {r} b=>by
 unfold z0w at b;refine Con.env (E:=E0b) rfl rfl ?_;refine Con.walk _ bH rfl (Ay bH rfl rfl) rfl (aN rfl) ?_;repeat' first
  |refine aE ?_;conv=>whnf
  |refine aQ b (fun b=>?_) fun b=>?_
  |refine aW ?_
  |refine aY ?_
  |refine bB b fun a b=>?_
  |refine OpX.bldS A4 b rfl rfl rfl rfl rfl rfl rfl rfl rfl rfl rfl rfl rfl rfl (fun l b=>?_)
  |refine OpX.bldR (fun q=>AV.sl 3 (List.map A4 q)) b rfl rfl rfl rfl rfl rfl rfl rfl rfl rfl rfl rfl rfl rfl rfl rfl (by first|exact SubR.refl _|(repeat' first|exact SubR.nil|refine SubR.cons ?_ ?_|exact SubL.nil|refine SubL.cons ?_ ?_|exact Sub.refl _|exact Sub.nil _)) rfl (fun l b=>?_)
  |refine OpX.bld (fun q=>AV.sl 3 (List.map A4 q)) b rfl rfl rfl rfl rfl rfl rfl rfl rfl rfl rfl rfl rfl rfl rfl rfl (fun l b=>?_)
  |refine aH b fun x b=>?_
  |refine SlsX.o A7 b (fun l b=>?_)
  |refine NatX.o b (fun m b=>?_)
  |refine EltX.o (fun q=>AV.sl 3 (List.map A4 q)) b (fun x b=>?_)
  |refine OpX.bldS (fun q=>AV.sl 3 (List.map A4 q)) b rfl rfl rfl rfl rfl rfl rfl rfl rfl rfl rfl rfl rfl rfl (fun l b=>?_)
  |refine aO b fun l b=>?_
  |exact ⟨_,b,aA [(7016,51)]⟩
  |refine aV b ?_ fun m v b=>?_
  |exact aA [(7016,16)]
  |refine AndA ?_
  |refine aP ?_
  |exact aK b⟩
instance znz {n b a}:CI E0 (z0m n b a) false 13 [Bl b,.sl 5 (a.map A7)] (fun r=>.tup [.agg [.sl 1 (List.map (fun q=>AV.sl 3 (List.map A4 q)) (r.1.fSets))],aI r.2]):=by unfold z0m;exact CI.w [] Tryz.func13
instance y4a {n d c}:CI E0 (zen n d c) false 56 [Bl d,.sl 5 (c.map A7)] (fun r=>.tup [.sl 3 (r.1.map A4),.sl 1 (r.2.1.map Au),aI r.2.2]):=⟨fun {r} b=>by
 unfold zen at b;refine cw Tryz.func56 ?_;repeat' first
  |refine AW.jI b (fun v b=>?_) fun b=>?_
  |refine aR b fun b=>?_
  |refine aL [10] ?_;conv=>whnf
  |refine aQ b (fun b=>?_) fun b=>?_
  |refine aW ?_
  |refine Af.oP b Ei (fun u=>.tup [.nilp,aI (u.2)]) (fun u y=>.tup [.ref [aI (y.fa.fVars),aI (y.fa.fScopes),.sl 1 (y.fa.fStates.map Ba),.sl 17 (y.fa.fEdges.map B6),.mapv (List.map (encM Be A7) (y.fheld))],aI (u.2)]) (fun u h=>by simp only [Ei,h,G2]) (fun u y h=>by simp only [Ei,h,G2]) (fun a h=>Ys.h h) (fun a b=>?_) (fun a y b=>?_)
  |refine bB b fun a b=>?_
  |(cases b;done)
  |refine aM (Bo 62 b) [(200000,7058)] [(260000,63000000)] _ _ Vg Yj [7058] (fun a h=>aB (z1p h)) (Ay aU rfl rfl) rfl rfl rfl ⟨⟨rfl,rfl⟩,trivial⟩ (fun a=>⟨rfl,rfl,rfl,rfl,rfl,rfl,rfl,rfl⟩) (fun a b=>?_)
  |refine aH b fun x b=>?_
  |refine aO b fun l b=>?_
  |exact ⟨_,b,aA [(7058,58)]⟩
  |exact ⟨_,b,aA []⟩
  |refine aV b ?_ fun m v b=>?_
  |exact aJ (bA 10 7058 44 1 rfl rfl) (aA [])
  |exact aK b⟩
instance zxv {n b a}:CI E0 (z6o n b a) false 23 [Bl b,.sl 5 (a.map A7)] (fun r=>.tup [.sl 1 (r.1.map Au),aI r.2]):=by unfold z6o;exact CI.w [] Tryz.func23
def zb8 (b:B0)(a:B16):List (Nat×Ent):=[(100000,.box 212 [.bool (a.1),.bool (a.2.1),.bool (a.2.2.1),.bool (a.2.2.2.1),.bool (a.2.2.2.2.1),.bool (a.2.2.2.2.2.1),.bool (a.2.2.2.2.2.2.1),.bool (a.2.2.2.2.2.2.2.1),.bool (a.2.2.2.2.2.2.2.2.1),.bool (a.2.2.2.2.2.2.2.2.2.1),.bool (a.2.2.2.2.2.2.2.2.2.2.1),.bool (a.2.2.2.2.2.2.2.2.2.2.2.1),.bool (a.2.2.2.2.2.2.2.2.2.2.2.2.1),.bool (a.2.2.2.2.2.2.2.2.2.2.2.2.2.1),.bool (a.2.2.2.2.2.2.2.2.2.2.2.2.2.2.1),.bool (a.2.2.2.2.2.2.2.2.2.2.2.2.2.2.2)])]
def V7 (r:Int×B16):List (Nat×Ent):=[(100000,.box 212 [.bool (r.2.1),.bool (r.2.2.1),.bool (r.2.2.2.1),.bool (r.2.2.2.2.1),.bool (r.2.2.2.2.2.1),.bool (r.2.2.2.2.2.2.1),.bool (r.2.2.2.2.2.2.2.1),.bool (r.2.2.2.2.2.2.2.2.1),.bool (r.2.2.2.2.2.2.2.2.2.1),.bool (r.2.2.2.2.2.2.2.2.2.2.1),.bool (r.2.2.2.2.2.2.2.2.2.2.2.1),.bool (r.2.2.2.2.2.2.2.2.2.2.2.2.1),.bool (r.2.2.2.2.2.2.2.2.2.2.2.2.2.1),.bool (r.2.2.2.2.2.2.2.2.2.2.2.2.2.2.1),.bool (r.2.2.2.2.2.2.2.2.2.2.2.2.2.2.2.1),.bool (r.2.2.2.2.2.2.2.2.2.2.2.2.2.2.2.2)])]
def Yf (r:Int×(Bool×Bool×Bool×Bool×Bool×Bool×Bool×Bool×Bool×Bool×Bool×Bool×Bool×Bool×Bool×Bool)):AV:=aI (r.1)
def zb6 (r:Int×B16):AS:=⟨[(3,aI r.1),(1,.ptr 100000 0)],V7 r⟩
theorem z10 {n c d r}(b:Vb n c d=some r):ConG E0.P none (CalF E0.P 152 0) [Av c,.ptr 100000 0] [] (zb8 c d) (Yf r) (V7 r):=by
 unfold Vb at b;refine aC (E:=(E0p 2)) (caps:=[]) _ aS rfl rfl rfl rfl rfl ?_;repeat' first
  |refine aE ?_;conv=>whnf
  |refine aQ b (fun b=>?_) fun b=>?_
  |refine aW ?_
  |refine aY ?_
  |refine bB b fun a b=>?_
  |refine NatX.oS b rfl (fun b=>?_) (fun b=>?_)
  |(cases b;done)
  |exact GX.A (res:=Yf) (meF:=V7) b zb6
  |refine AndA ?_
  |refine aP ?_
def zbt (b:B0)(a:B16):List (Nat×Ent):=[(100000,.box 212 [.bool (a.1),.bool (a.2.1),.bool (a.2.2.1),.bool (a.2.2.2.1),.bool (a.2.2.2.2.1),.bool (a.2.2.2.2.2.1),.bool (a.2.2.2.2.2.2.1),.bool (a.2.2.2.2.2.2.2.1),.bool (a.2.2.2.2.2.2.2.2.1),.bool (a.2.2.2.2.2.2.2.2.2.1),.bool (a.2.2.2.2.2.2.2.2.2.2.1),.bool (a.2.2.2.2.2.2.2.2.2.2.2.1),.bool (a.2.2.2.2.2.2.2.2.2.2.2.2.1),.bool (a.2.2.2.2.2.2.2.2.2.2.2.2.2.1),.bool (a.2.2.2.2.2.2.2.2.2.2.2.2.2.2.1),.bool (a.2.2.2.2.2.2.2.2.2.2.2.2.2.2.2)])]
def Mq (r:Int×B16):List (Nat×Ent):=[(100000,.box 212 [.bool (r.2.1),.bool (r.2.2.1),.bool (r.2.2.2.1),.bool (r.2.2.2.2.1),.bool (r.2.2.2.2.2.1),.bool (r.2.2.2.2.2.2.1),.bool (r.2.2.2.2.2.2.2.1),.bool (r.2.2.2.2.2.2.2.2.1),.bool (r.2.2.2.2.2.2.2.2.2.1),.bool (r.2.2.2.2.2.2.2.2.2.2.1),.bool (r.2.2.2.2.2.2.2.2.2.2.2.1),.bool (r.2.2.2.2.2.2.2.2.2.2.2.2.1),.bool (r.2.2.2.2.2.2.2.2.2.2.2.2.2.1),.bool (r.2.2.2.2.2.2.2.2.2.2.2.2.2.2.1),.bool (r.2.2.2.2.2.2.2.2.2.2.2.2.2.2.2.1),.bool (r.2.2.2.2.2.2.2.2.2.2.2.2.2.2.2.2)])]
def Rp (r:Int×(Bool×Bool×Bool×Bool×Bool×Bool×Bool×Bool×Bool×Bool×Bool×Bool×Bool×Bool×Bool×Bool)):AV:=aI (r.1)
def zbr (r:Int×B16):AS:=⟨[(4,aI r.1),(1,.fn 152 [.ptr 100000 0])],Mq r⟩
theorem z1r {n c d r}(b:J5 n c d=some r):ConG E0.P none (CalF E0.P 151 0) [Av c,.fn 152 [.ptr 100000 0]] [] (zbt c d) (Rp r) (Mq r):=by
 induction n generalizing c d r
 case zero=>cases b
 case succ n e =>
 unfold J5 at b;refine aC (E:=(E0p 2)) (caps:=[]) _ aF rfl rfl rfl rfl rfl ?_;repeat' first
  |refine aE ?_;conv=>whnf
  |refine aQ b (fun b=>?_) fun b=>?_
  |refine aW ?_
  |refine aY ?_
  |refine aM (Bo 11 b) [(100000,100000)] [(100000,100000)] _ _ V7 Yf [] (fun a h=>aB (z10 h)) (Ay aS rfl rfl) rfl rfl rfl ⟨⟨rfl,rfl⟩,trivial⟩ (fun a=>⟨rfl,rfl,rfl,rfl,rfl,rfl,rfl,rfl⟩) (fun a b=>?_)
  |refine aX (Bo 11 b) [(100000,100000)] [(100000,100000)] _ _ V7 Yf [] (fun a h=>aB (z10 h)) (Ay aS rfl rfl) rfl rfl rfl ⟨⟨rfl,rfl⟩,trivial⟩ (fun a=>⟨rfl,rfl,rfl,rfl,rfl,rfl,rfl,rfl⟩) (fun a b=>?_)
  |refine GX.o (res:=Rp) (meF:=Mq) b ?_;exact GX.mk (zbr _) (aA []) rfl _ rfl (by repeat' first|exact Sub.nil _|exact Sub.refl _|refine Sub.agg ?_|refine Sub.tup ?_|refine Sub.fn ?_|exact SubL.nil|refine SubL.cons ?_ ?_|refine Sub.sl _ ?_|exact SubE.nil|refine SubE.cons ?_ ?_) [100000] ⟨bI ⟨1,0,_,_,_,_,_,Nat.le_of_ble_eq_true rfl,rfl,rfl,rfl,rfl,rfl⟩,trivial⟩ rfl
  |refine bL b D4 (fun x b=>?_)
  |refine aM (Bo 24 b) [(100000,100000)] [(100000,100000)] _ _ Mq Rp [] (fun a h=>aB (e h)) (Ay aF rfl rfl) rfl rfl rfl ⟨⟨rfl,rfl⟩,trivial⟩ (fun a=>⟨rfl,rfl,rfl,rfl,rfl,rfl,rfl,rfl⟩) (fun a b=>?_)
  |refine aX (Bo 24 b) [(100000,100000)] [(100000,100000)] _ _ Mq Rp [] (fun a h=>aB (e h)) (Ay aF rfl rfl) rfl rfl rfl ⟨⟨rfl,rfl⟩,trivial⟩ (fun a=>⟨rfl,rfl,rfl,rfl,rfl,rfl,rfl,rfl⟩) (fun a b=>?_)
  |exact ⟨_,b,aA []⟩
  |refine aV b (aA []) fun m v b=>?_
  |refine AndA ?_
  |refine aP ?_
instance zsl {n c}:CI E0 (S1 n c) false 112 [Av c] (fun r=>.sl 1 (r.map aI)):=⟨fun {r} b=>by
 unfold S1 at b;refine cw Tryz.func112 ?_;repeat' first
  |refine aR b fun b=>?_
  |refine aL [7] ?_;conv=>whnf
  |refine aQ b (fun b=>?_) fun b=>?_
  |refine aW ?_
  |refine aY ?_
  |refine aM (Bo 9 b) [(100000,3)] [(100000,3)] _ _ Mq Rp [] (fun a h=>aB (z1r h)) (Ay aF rfl rfl) rfl rfl rfl ⟨⟨rfl,rfl⟩,trivial⟩ (fun a=>⟨rfl,rfl,rfl,rfl,rfl,rfl,rfl,rfl⟩) (fun a b=>?_)
  |refine aX (Bo 9 b) [(100000,3)] [(100000,3)] _ _ Mq Rp [] (fun a h=>aB (z1r h)) (Ay aF rfl rfl) rfl rfl rfl ⟨⟨rfl,rfl⟩,trivial⟩ (fun a=>⟨rfl,rfl,rfl,rfl,rfl,rfl,rfl,rfl⟩) (fun a b=>?_)
  |refine NatX.oS b rfl (fun b=>?_) (fun b=>?_)
  |(cases b;done)
  |refine aO b fun l b=>?_
  |exact ⟨_,b,aA [(7019,19)]⟩
  |exact ⟨_,b,aA []⟩
  |refine aV b ?_ fun m v b=>?_
  |exact aJ (bA 4 7019 3 1 rfl rfl) (aA [])
  |refine AndA ?_
  |refine aP ?_
  |exact aK b⟩
def z6n (c:Int)(b:(List AV))(m0n:Nat)(a:(Ars (List (Int×Bool)))):List (Nat×Ent):=[(100000,.box 130 [.cont (m0n) 200000]),(200000,.are 136 (a).1 (List.map (enO aI AV.bool) (a).2))]
def Tp (r:Nat×(Ars (List (Int×Bool)))):List (Nat×Ent):=[(100000,.box 130 [.cont (r.1) 270000]),(270000,.are 136 (r.2).1 (List.map (enO aI AV.bool) (r.2).2))]
def Xm (r:Nat×(Ars (List (Int×Bool)))):AV:=.tup []
def z6l (r:Nat×(Ars (List (Int×Bool)))):AS:=⟨[(2,.ptr 100000 0)],Tp r⟩
end
noncomputable section
abbrev z0r {n a m0n f c d e}:=li (Ob n a m0n f c d e) (fun b=>⟨[(0,aI f),(2,.ptr 100000 0),(9,.row 200001),(10,aI (((a.map idA).length:Int))),(11,aI c.1),(16,.sl 1 (d.map aI)),(17,aI (((d.map aI).length:Int))),(18,aI b.1)],[(100000,.box 130 [.cont (m0n) 200000]),(200000,.are 136 (b.2).1 (List.map (enO aI AV.bool) (b.2).2)),(200001,.row 111 8 (a.map idA))]⟩) fun _ _=>Ob.eq_2 ..
abbrev z0s {n a m0n d c}:=li (Jx n a m0n d c) (fun b=>⟨[(0,aI d),(2,.ptr 100000 0),(9,.row 200001),(10,aI (((a.map idA).length:Int))),(11,aI b.1)],[(100000,.box 130 [.cont (m0n) 200000]),(200000,.are 136 (b.2).1 (List.map (enO aI AV.bool) (b.2).2)),(200001,.row 111 8 (a.map idA))]⟩) fun _ _=>Jx.eq_2 ..
abbrev z2g {n b e a d}:=li (Ou n b e a d) (fun c=>⟨[(1,aI e),(2,.ptr 100000 0),(3,.ptr 100001 0),(4,.ptr 100002 0),(23,.sl 1 (a.map aI)),(24,aI (((a.map aI).length:Int))),(25,aI c.1)],[(100000,.box 130 [.cont (c.2.1) 200000]),(100001,.box 175 [.sl 1 (List.map (fun q=>AV.sl 1 (List.map aI q)) (c.2.2.1))]),(100002,.box 177 [.fn 114 [.ptr 100000 0,.ptr 100001 0,.ptr 100002 0]]),(200000,.are 136 (c.2.2.2).1 (List.map (enO aI AV.bool) (c.2.2.2).2))]⟩) fun _ _=>Ou.eq_2 ..
abbrev z58 {n b d e}:=li (Q1 n b d e) (fun c=>⟨[(12,.ptr 12 0),(14,.ptr 14 0),(15,aI d.1),(104,.sl 1 (List.map (fun q=>AV.mapv (List.map (encM aI AV.bool) q)) ((aval b)))),(105,aI ((((List.map (fun q=>AV.mapv (List.map (encM aI AV.bool) q)) ((aval b))).length:Nat):Int))),(106,aI d.1),(112,.ptr 112 0)],[(12,.box 130 [.cont (c.1) 7092]),(14,.box 177 [.fn 114 [.ptr 12 0,.ptr 9 0,.ptr 14 0]]),(9,.box 175 [.sl 1 (List.map (fun q=>AV.sl 1 (List.map aI q)) (c.2.1))]),(112,.it (List.map (encM aI AV.bool) (c.2.2.1))),(7092,.are 136 (c.2.2.2).1 (List.map (enO aI AV.bool) (c.2.2.2).2))]⟩) fun _ _=>Q1.eq_2 ..
abbrev z59 {n b d}:=li (Gp n b d) (fun c=>⟨[(12,.ptr 12 0),(14,.ptr 14 0),(104,.sl 1 (List.map (fun q=>AV.mapv (List.map (encM aI AV.bool) q)) ((aval b)))),(105,aI ((((List.map (fun q=>AV.mapv (List.map (encM aI AV.bool) q)) ((aval b))).length:Nat):Int))),(106,aI c.1)],[(12,.box 130 [.cont (c.2.1) 7092]),(14,.box 177 [.fn 114 [.ptr 12 0,.ptr 9 0,.ptr 14 0]]),(9,.box 175 [.sl 1 (List.map (fun q=>AV.sl 1 (List.map aI q)) (c.2.2.1))]),(7092,.are 136 (c.2.2.2).1 (List.map (enO aI AV.bool) (c.2.2.2).2))]⟩) fun _ _=>Gp.eq_2 ..
abbrev z5a {n h c b d f g}:=li (I6 n h c b d f g) (fun e=>⟨[(3,.ptr 3 0),(9,.ptr 9 0),(12,.ptr 12 0),(94,aI (((f:Nat):Int))),(95,aI e.1)],[(3,.box 130 [.cont (c) 7021]),(7021,.are 136 (b).1 (List.map (enO aI AV.bool) (b).2)),(9,.box 175 [.cont (h) 53]),(53,.nest 112 (List.map (enR aI 3 1) (d))),(12,.box 130 [.cont (f) 92]),(92,.are 136 (e.2).1 (List.map (enO aI AV.bool) (e.2).2))]⟩) fun _ _=>I6.eq_2 ..
abbrev z5b {n a d c}:=li (Gq n a d c) (fun b=>⟨[(1,.ptr 1 0),(3,.ptr 3 0),(4,.fn 111 [.ptr 3 0]),(9,.ptr 9 0),(55,.sl 17 (a.fEdges.map B6)),(56,aI (((a.fEdges.map B6).length:Int))),(57,aI b.1)],[(1,.box 25 (B3 a)),(3,.box 130 [.cont (b.2.1) 7021]),(9,.box 175 [.cont (d) 53]),(53,.nest 112 (List.map (enR aI 3 1) (b.2.2.1))),(7021,.are 136 (b.2.2.2).1 (List.map (enO aI AV.bool) (b.2.2.2).2))]⟩) fun _ _=>Gq.eq_2 ..
abbrev z57 {n a c d e}:=li (Q0 n a c d e) (fun b=>⟨[(1,.ptr 1 0),(3,.ptr 3 0),(4,.fn 111 [.ptr 3 0]),(5,aI c.1),(24,.sl 1 (a.fStates.map Ba)),(25,aI (((a.fStates.map Ba).length:Int))),(26,aI c.1),(36,.sl 11 (d.fGuards.map Bc)),(37,aI (((d.fGuards.map Bc).length:Int))),(38,aI b.1)],[(1,.box 25 (B3 a)),(3,.box 130 [.cont (b.2.1) 7021]),(7021,.are 136 (b.2.2).1 (List.map (enO aI AV.bool) (b.2.2).2))]⟩) fun _ _=>Q0.eq_2 ..
abbrev z5c {n a c}:=li (L2 n a c) (fun b=>⟨[(1,.ptr 1 0),(3,.ptr 3 0),(4,.fn 111 [.ptr 3 0]),(24,.sl 1 (a.fStates.map Ba)),(25,aI (((a.fStates.map Ba).length:Int))),(26,aI b.1)],[(1,.box 25 (B3 a)),(3,.box 130 [.cont (b.2.1) 7021]),(7021,.are 136 (b.2.2).1 (List.map (enO aI AV.bool) (b.2.2).2))]⟩) fun _ _=>L2.eq_2 ..
abbrev z17 {n}:=jf (K0 n) (fun b=>⟨[(4,.bool (b))],[]⟩) fun _=>K0.eq_1 ..
attribute [instance] z0r z0s z2g z58 z59 z5a z5b z57 z5c z17
theorem z0h {n d c m0n e r}(b:Xp n d c m0n e=some r):ConG E0.P none (CalF E0.P 111 0) [aI d,.sl 8 (c.map idA),.ptr 100000 0] [] (z6n d c m0n e) (Xm r) (Tp r):=by
 unfold Xp at b;refine aC (E:=(E0p 3)) (caps:=[]) _ aD rfl rfl rfl rfl rfl ?_;repeat' first
  |refine aE ?_;conv=>whnf
  |refine aQ b (fun b=>?_) fun b=>?_
  |refine aW ?_
  |refine aY ?_
  |exact GX.A (res:=Xm) (meF:=Tp) b z6l (h1:=aA [(270000,200000)])
  |refine bL b D4 (fun x b=>?_)
  |refine bB b fun a b=>?_
  |exact ⟨_,b,aA []⟩
  |refine aH b fun x b=>?_
  |refine bE b rfl rfl rfl rfl rfl rfl rfl rfl (fun b=>?_)
  |refine bN b rfl rfl rfl rfl rfl rfl rfl (fun j b=>?_)
  |refine bO AV.bool b (aN rfl) rfl rfl rfl rfl rfl rfl rfl rfl rfl (by first|rfl|kernel_rfl) rfl rfl (fun l b=>?_)
  |refine aV b (aA []) fun m v b=>?_
  |refine AndA ?_
  |refine aP ?_
set_option maxHeartbeats 400000 in
theorem zni (l:List (Cel 8))(S:Nat->Prop)(v:Value)(w:World)(h:Sl w S 8 encC v l)(d:l.length<=1000000000) :
  Calls Tryz.prog 113 #[v] w (Js 111 8 encC l w):=by
 have eok:EOk Tryz.prog 107 111 8 88 (encC (n:=8)):=eokC (sz:=8) (Dc 107 _ rfl) rfl (Dc 111 _ rfl) (by omega) rfl;obtain ⟨A,c,rfl,f,_⟩:=h.form;have a:=fun (W:World)=>Lib.run_eql_slice_nil W 107 111 A l.length c 0 0 Tryz.underlying107
 have H:=hide h;cases A with
 |none =>
  have g:l=[]:=h.none_nil;subst g;clear h H d f;simp only [length_nil,Option.isNone_none] at a ⊢
  go_enter aT,aZ
  go_wp2
  go_ret
  exact ⟨none,0,rfl,Own.nil_,by go_grown⟩
 |some ad =>
  clear h
  go_enter aT,aZ
  go_wp2_with (at_builtin;refine J6 rfl _ _ rfl eok rfl Own.made_ rfl (H.out.alloc _) (by simp;omega) (by omega) (by simp) ?_;intro A' i w1 b e _)
  go_ret
  exact ⟨A',i,rfl,b,(Own.made_ (sz:=8) (enc:=encC (n:=8))).grown ((Below.refl _ _).alloc (Nat.le_refl _) _) (Nat.le_refl _) (by simp) e⟩
theorem zb4 {n a r}(b:Cg n a=some r):ConT E0 113 [.sl 8 (List.map idA a)] 111 8 (List.map idA r) (.row 0):=Nk rfl (Ay aT rfl rfl) zni b
def z1c (c:Int)(m0n:Nat)(a:(Ars (List (Int×Bool))))(b:(List AV)):List (Nat×Ent):=[(100000,.box 130 [.cont (m0n) 200000]),(200000,.are 136 (a).1 (List.map (enO aI AV.bool) (a).2)),(200001,.row 111 8 (b.map idA))]
def T8 (r:Nat×(Ars (List (Int×Bool)))):List (Nat×Ent):=[(100000,.box 130 [.cont (r.1) 270000]),(270000,.are 136 (r.2).1 (List.map (enO aI AV.bool) (r.2).2))]
def Xc (r:Nat×(Ars (List (Int×Bool)))):AV:=.tup []
def z19 (r:Nat×(Ars (List (Int×Bool)))):AS:=⟨[(2,.ptr 100000 0)],T8 r⟩
theorem z02 {n c m0n e d r}(b:Xe n c m0n e d=some r):ConG E0.P none (CalF E0.P 111 0) [aI c,.row 200001,.ptr 100000 0] [] (z1c c m0n e d) (Xc r) (T8 r):=by
 unfold Xe at b;refine aC (E:=(E0p 3)) (caps:=[]) _ aD rfl rfl rfl rfl rfl ?_;repeat' first
  |refine aE ?_;conv=>whnf
  |refine aQ b (fun b=>?_) fun b=>?_
  |refine aW ?_
  |refine aY ?_
  |exact GX.A (res:=Xc) (meF:=T8) b z19 (h1:=aA [(270000,200000)])
  |refine NatX.o b (fun m b=>?_)
  |refine EltX.oD b D4 (fun x b=>?_)
  |refine bB b fun a b=>?_
  |exact ⟨_,b,aA []⟩
  |refine aH b fun x b=>?_
  |refine bE b rfl rfl rfl rfl rfl rfl rfl rfl (fun b=>?_)
  |refine bN b rfl rfl rfl rfl rfl rfl rfl (fun j b=>?_)
  |refine bO AV.bool b (aN rfl) rfl rfl rfl rfl rfl rfl rfl rfl rfl (by first|rfl|kernel_rfl) rfl rfl (fun l b=>?_)
  |refine aV b (aA []) fun m v b=>?_
  |refine AndA ?_
  |refine aP ?_
theorem y6c (a b:Int):eqK (aI a) (aI b)=some (decide (a=b)):=by simp [eqK,eq1,aI,Nl]
def z6m (d:Int)(c:Int)(m0n:Nat)(a:(Ars (List (Int×Bool))))(b:(List (List Int))):List (Nat×Ent):=[(100000,.box 130 [.cont (m0n) 200000]),(200000,.are 136 (a).1 (List.map (enO aI AV.bool) (a).2)),(100001,.box 175 [.sl 1 (List.map (fun q=>AV.sl 1 (List.map aI q)) (b))]),(100002,.box 177 [.fn 114 [.ptr 100000 0,.ptr 100001 0,.ptr 100002 0]])]
def L3 (r:Nat×(Ars (List (Int×Bool)))×(List (List Int))):List (Nat×Ent):=[(100000,.box 130 [.cont (r.1) 270000]),(270000,.are 136 (r.2.1).1 (List.map (enO aI AV.bool) (r.2.1).2)),(100001,.box 175 [.sl 1 (List.map (fun q=>AV.sl 1 (List.map aI q)) (r.2.2))]),(100002,.box 177 [.fn 114 [.ptr 100000 0,.ptr 100001 0,.ptr 100002 0]])]
def Q3 (r:Nat×(Ars (List (Int×Bool)))×(List (List Int))):AV:=.tup []
def z6k (r:Nat×(Ars (List (Int×Bool)))×(List (List Int))):AS:=⟨[(2,.ptr 100000 0),(3,.ptr 100001 0),(4,.ptr 100002 0)],L3 r⟩
theorem z0g {n e d m0n g f r}(c:Ic n e d m0n g f=some r):ConG E0.P none (CalF E0.P 114 0) [aI e,aI d,.ptr 100000 0,.ptr 100001 0,.ptr 100002 0] [] (z6m e d m0n g f) (Q3 r) (L3 r):=by
 induction n generalizing e d m0n g f r
 case zero=>cases c
 case succ n i =>
 unfold Ic at c;refine aC (E:=(E0p 5)) (caps:=[]) _ aG rfl rfl rfl rfl rfl ?_;repeat' first
  |refine aE ?_;conv=>whnf
  |refine aQ c (fun c=>?_) fun c=>?_
  |refine aW ?_
  |refine aY ?_
  |refine bE c rfl rfl rfl rfl rfl rfl rfl rfl (fun c=>?_)
  |refine bN c rfl rfl rfl rfl rfl rfl rfl (fun j c=>?_)
  |refine OpX.alk aI AV.bool c y6c rfl rfl rfl rfl rfl rfl rfl rfl rfl rfl rfl (by first|rfl|kernel_rfl) (by repeat' first|exact Sub.nil _|exact Sub.refl _|refine Sub.agg ?_|refine Sub.tup ?_|refine Sub.fn ?_|exact SubL.nil|refine SubL.cons ?_ ?_|refine Sub.sl _ ?_|exact SubE.nil|refine SubE.cons ?_ ?_) (fun v b c=>?_)
  |exact GX.A (res:=Q3) (meF:=L3) c z6k (h1:=aA [(270000,200000)])
  |refine bO AV.bool c (aN rfl) rfl rfl rfl rfl rfl rfl rfl rfl rfl (by first|rfl|kernel_rfl) rfl rfl (fun l c=>?_)
  |refine IdxX.o (fun q=>AV.sl 1 (List.map aI q)) c fun x c=>?_
  |refine aH c fun x c=>?_
  |refine aM (Bo 32 c) [(100000,100000),(100001,100001),(100002,100002),(200000,200000)] [(100000,100000),(270000,33000001),(100001,100001),(100002,100002)] _ _ L3 Q3 [200000] (fun a h=>aB (i h)) (Ay aG rfl rfl) rfl rfl rfl ⟨⟨rfl,rfl⟩,⟨⟨rfl,rfl⟩,⟨⟨rfl,rfl⟩,⟨⟨rfl,rfl⟩,trivial⟩⟩⟩⟩ (fun a=>⟨rfl,rfl,rfl,rfl,rfl,rfl,rfl,rfl⟩) (fun a c=>?_)
  |refine aX (Bo 32 c) [(100000,100000),(100001,100001),(100002,100002),(200000,200000)] [(100000,100000),(270000,33000001),(100001,100001),(100002,100002)] _ _ L3 Q3 [200000] (fun a h=>aB (i h)) (Ay aG rfl rfl) rfl rfl rfl ⟨⟨rfl,rfl⟩,⟨⟨rfl,rfl⟩,⟨⟨rfl,rfl⟩,⟨⟨rfl,rfl⟩,trivial⟩⟩⟩⟩ (fun a=>⟨rfl,rfl,rfl,rfl,rfl,rfl,rfl,rfl⟩) (fun a c=>?_)
  |exact ⟨_,c,aA [(200000,33000001)]⟩
  |refine aV c (aA []) fun m v c=>?_
  |refine AndA ?_
  |refine aP ?_
instance zjc {n c}:CI E0 (Ua n c) false 76 [Bl c] (fun r=>.sl 1 (List.map (fun q=>AV.mapv (List.map (encM aI AV.bool) q)) (r))):=⟨fun {r} b=>by
 unfold Ua at b;refine cw Tryz.func76 ?_;repeat' first
  |refine AW.areO aI AV.bool b 21 rfl (fun b=>?_)
  |refine AW.nstO (er:=aI) 3 1 b 53 rfl (fun b=>?_)
  |refine AW.areO aI AV.bool b 92 rfl (fun b=>?_)
  |refine AW.frrO (ety:=3) (sz:=1) aI b 53 rfl (fun b=>?_)
  |refine AW.frcO aI AV.bool b 7021 rfl (fun b=>?_)
  |refine AW.frcO aI AV.bool b 7092 rfl (fun b=>?_)
  |refine AW.pckO (encM aI AV.bool) b 112 rfl (fun x s b=>?_)
  |refine aR b fun b=>?_
  |refine AW.frzO b 53 rfl (fun b=>?_)
  |refine AW.frzO b 7021 rfl (fun b=>?_)
  |refine AW.frzO b 7092 rfl (fun b=>?_)
  |refine aL [28,29,37,18,34,22,14,2] ?_;conv=>whnf
  |refine aQ b (fun b=>?_) fun b=>?_
  |refine aW ?_
  |refine aY ?_
  |refine MakX.om b (fun m b=>?_)
  |refine MakX.on b (fun m b=>?_)
  |refine OpX.lnc rfl rfl rfl rfl rfl rfl ?_
  |refine IdxX.o (fun q=>AV.mapv (List.map (encM aI AV.bool) q)) b fun x b=>?_
  |refine OpX.rng rfl rfl rfl rfl rfl rfl rfl rfl ?_
  |exact ⟨_,b,aA []⟩
  |refine OpX.nxt (encM aI AV.bool) b rfl rfl rfl rfl rfl (fun b=>?_) (fun b=>?_)
  |refine OpX.ent rfl rfl rfl rfl rfl ?_
  |refine aM (Bo 120 b) [(100000,12),(100001,9),(100002,14),(200000,7092)] [(100000,12),(270000,121000001),(100001,9),(100002,14)] _ _ L3 Q3 [7092] (fun a h=>aB (z0g h)) (Ay aG rfl rfl) rfl rfl rfl ⟨⟨rfl,rfl⟩,⟨⟨rfl,rfl⟩,⟨⟨rfl,rfl⟩,⟨⟨rfl,rfl⟩,trivial⟩⟩⟩⟩ (fun a=>⟨rfl,rfl,rfl,rfl,rfl,rfl,rfl,rfl⟩) (fun a b=>?_)
  |refine aX (Bo 120 b) [(100000,12),(100001,9),(100002,14),(200000,7092)] [(100000,12),(270000,121000001),(100001,9),(100002,14)] _ _ L3 Q3 [7092] (fun a h=>aB (z0g h)) (Ay aG rfl rfl) rfl rfl rfl ⟨⟨rfl,rfl⟩,⟨⟨rfl,rfl⟩,⟨⟨rfl,rfl⟩,⟨⟨rfl,rfl⟩,trivial⟩⟩⟩⟩ (fun a=>⟨rfl,rfl,rfl,rfl,rfl,rfl,rfl,rfl⟩) (fun a b=>?_)
  |exact ⟨_,b,aJ (LeX.itc 112 rfl) (aA [(7092,121000001)])⟩
  |refine aV b ?_ fun m v b=>?_
  |exact aA []
  |exact aA [(7092,92)]
  |refine bE b rfl rfl rfl rfl rfl rfl rfl rfl (fun b=>?_)
  |refine OpX.ast aI AV.bool b rfl rfl rfl rfl rfl rfl rfl rfl rfl rfl rfl (fun m b=>?_)
  |refine aH b fun x b=>?_
  |refine bF b (fun r=>r) idA (fun _=>AV.row 0) rfl (fun a h=>zb4 h) (fun a b=>?_)
  |refine bF b (fun r=>r) idA (fun _=>AV.row 0) rfl (fun a h=>ConT.sub (by repeat' first|exact Sub.nil _|exact Sub.refl _|refine Sub.agg ?_|refine Sub.tup ?_|refine Sub.fn ?_|exact SubL.nil|refine SubL.cons ?_ ?_|refine Sub.sl _ ?_|exact SubE.nil|refine SubE.cons ?_ ?_) (zb4 h)) (fun a b=>?_)
  |refine aO b fun l b=>?_
  |refine aM (Bo 71 b) [(100000,3),(200001,70),(200000,7021)] [(100000,3),(270000,72000001)] _ _ T8 Xc [70,7021] (fun a h=>aB (z02 h)) (Ay aD rfl rfl) rfl rfl rfl ⟨⟨rfl,rfl⟩,⟨⟨rfl,rfl⟩,⟨⟨rfl,rfl⟩,trivial⟩⟩⟩ (fun a=>⟨rfl,rfl,rfl,rfl,rfl,rfl,rfl,rfl⟩) (fun a b=>?_)
  |refine aX (Bo 71 b) [(100000,3),(200001,70),(200000,7021)] [(100000,3),(270000,72000001)] _ _ T8 Xc [70,7021] (fun a h=>aB (z02 h)) (Ay aD rfl rfl) rfl rfl rfl ⟨⟨rfl,rfl⟩,⟨⟨rfl,rfl⟩,⟨⟨rfl,rfl⟩,trivial⟩⟩⟩ (fun a=>⟨rfl,rfl,rfl,rfl,rfl,rfl,rfl,rfl⟩) (fun a b=>?_)
  |refine OpX.ntk aI b rfl rfl rfl rfl rfl rfl rfl rfl rfl rfl (fun q b=>?_)
  |refine OpX.npt aI b rfl rfl rfl rfl rfl rfl rfl rfl rfl rfl rfl (fun l b=>?_)
  |exact ⟨_,b,aA [(7021,72000001)]⟩
  |refine aM (Bo 47 b) [(100000,3),(200000,7021)] [(100000,3),(270000,48000001)] _ _ Tp Xm [7021] (fun a h=>aB (z0h h)) (Ay aD rfl rfl) rfl rfl rfl ⟨⟨rfl,rfl⟩,⟨⟨rfl,rfl⟩,trivial⟩⟩ (fun a=>⟨rfl,rfl,rfl,rfl,rfl,rfl,rfl,rfl⟩) (fun a b=>?_)
  |refine aX (Bo 47 b) [(100000,3),(200000,7021)] [(100000,3),(270000,48000001)] _ _ Tp Xm [7021] (fun a h=>aB (z0h h)) (Ay aD rfl rfl) rfl rfl rfl ⟨⟨rfl,rfl⟩,⟨⟨rfl,rfl⟩,trivial⟩⟩ (fun a=>⟨rfl,rfl,rfl,rfl,rfl,rfl,rfl,rfl⟩) (fun a b=>?_)
  |exact ⟨_,b,aA [(7021,48000001)]⟩
  |exact aA [(7021,21)]
  |refine AndA ?_
  |refine aP ?_
  |exact aK b⟩
def z9b (a:Ah):List (Nat×Ent):=[]
def M1 (r:(List (List (Int×Bool)))):List (Nat×Ent):=[(3,.box 130 [.sl 1 (List.map (fun q=>AV.mapv (List.map (encM aI AV.bool) q)) (r))])]
def Qt (r:(List (List (Int×Bool)))):AV:=.fn 77 [.ptr 3 0]
def z90 (r:(List (List (Int×Bool)))):AS:=⟨[(2,.fn 77 [.ptr 3 0])],M1 r⟩
theorem Xl {n c r}(b:R6 n c=some r):ConG E0.P none (CalF E0.P 44 0) [Bl c] [] (z9b c) (Qt r) (M1 r):=by
 unfold R6 at b;refine aC (E:=(E0p 1)) (caps:=[]) _ Tryz.func44 rfl rfl rfl rfl rfl ?_;repeat' first
  |refine aE ?_;conv=>whnf
  |refine aQ b (fun b=>?_) fun b=>?_
  |refine aW ?_
  |refine aY ?_
  |refine bB b fun a b=>?_
  |exact GX.A (res:=Qt) (meF:=M1) b z90
  |refine AndA ?_
  |refine aP ?_
end
end Go.Proofs.YtidhlpjgifoneaaGreat
