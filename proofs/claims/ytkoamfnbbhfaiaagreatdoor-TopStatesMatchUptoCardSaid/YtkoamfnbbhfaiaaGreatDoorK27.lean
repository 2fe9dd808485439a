/- What some functions compute, over plain values. -/
import Derived.Test.YtkoamfnbbhfaiaaGreatDoorK26
set_option linter.unusedVariables false
set_option linter.unusedSimpArgs false
set_option maxRecDepth 100000
set_option maxHeartbeats 8000000
namespace Go.Proofs.YtkoamfnbbhfaiaaGreatDoor
open Go.RowKit
open LeX renaming a->aA,trans->aG,adoptC->aK
open ConG renaming up->aB,walk->aE
open _root_.Go.Proofs.Tryz renaming func8->aC,func57->aH,func128->aL,func134->aO,func92->aQ,func94->aR,func56->aS
open SubL renaming refl->aD
open AW renaming stepU->aF,step->aM,regO->aP
noncomputable section
abbrev z4b {n d c}:=li (Kv n d c) (fun b=>⟨[(0,.row 200000),(1,.fn 135 [.ref [.fn 93 []]]),(5,aI b.1),(6,.der (.sub 3 (d)) 200000),(7,aI b.2.1)],[(200000,.row 99 3 (b.2.2.map Ak))]⟩) fun _ _=>Kv.eq_2 ..
abbrev z4c {n a b}:=li (Oj n a b) (fun c=>⟨[(0,.row 200000),(1,.fn 135 [.ref [.fn 93 []]]),(5,aI c)],[(200000,.row 99 3 (a.map Ak))]⟩) fun _ _=>Oj.eq_2 ..
abbrev z0n {n d c}:=li (Jx n d c) (fun b=>⟨[(0,.row 200000),(1,.fn 95 [.ref [.fn 58 []]]),(5,aI b.1),(6,.der (.sub 1 (d)) 200000),(7,aI b.2.1)],[(200000,.row 91 1 (b.2.2.map Ap))]⟩) fun _ _=>Jx.eq_2 ..
abbrev z0o {n a b}:=li (N5 n a b) (fun c=>⟨[(0,.row 200000),(1,.fn 95 [.ref [.fn 58 []]]),(5,aI c)],[(200000,.row 91 1 (a.map Ap))]⟩) fun _ _=>N5.eq_2 ..
abbrev z3i {n e d a c}:=li (O7 n e d a c) (fun b=>⟨[(0,.ref [aI a.fa.fVars,aI a.fa.fScopes,.sl 1 (a.fa.fStates.map B6),.sl 17 (a.fa.fEdges.map Ax),.mapv (List.map (encM C3 A6) (a.fheld))]),(5,.ptr 5 0),(8,.ptr 8 0),(9,.ptr 9 0),(13,.sl 3 (d.map Ak)),(14,aI (((d.map Ak).length:Int))),(15,aI b.1)],[(5,.box 59 (Cc e)),(8,.box 66 [.row 811000001]),(9,.box 49 [.row 811000003]),(811000001,.row 99 3 (b.2.1.map Ak)),(811000003,.row 91 1 (b.2.2.map Ap))]⟩) fun _ _=>O7.eq_2 ..
abbrev zfq {n f a b d c}:=jf (J2 n f a b d c) (fun e=>⟨[(7,.ref [aI a.fa.fVars,aI a.fa.fScopes,.sl 1 (a.fa.fStates.map B6),.sl 17 (a.fa.fEdges.map Ax),.mapv (List.map (encM C3 A6) (a.fheld))]),(10,.row 7058),(13,.sl 3 (c.1.map Ak)),(14,.sl 1 (c.2.map Ap)),(26,.sl 5 (f.map A6)),(27,aI (((f.map A6).length:Int))),(28,aI b.2.1),(54,.bool (e))],[(7058,.row 91 1 (b.2.2.map Ap))]⟩) fun _=>J2.eq_1 ..
attribute [instance] z4b z4c z0n z0o z3i zfq
def z0e (yl_l:Nat)(yl_T:Array Value)(c:A7)(d:A4)(a:Bg)(e:Ai)(b:Int×(List A4)×(List A8)):AS:=⟨[(0,.yld yl_l yl_T [.any,.any,.any,.any,.any,.any,.any,.any,.ptr 100000 0,.ptr 100001 0]),(1,.ptr 100002 0),(2,.ptr 100003 0),(3,.ptr 100004 0),(5,.ptr 5 0),(39,.sl 17 (a.fa.fEdges.map Ax)),(40,aI (((a.fa.fEdges.map Ax).length:Int))),(41,aI (b.1))],[(100000,.box 66 [.row 200000]),(100001,.box 49 [.row 200001]),(100002,.box 121 [.ref [aI (a.fa.fVars),aI (a.fa.fScopes),.sl 1 (a.fa.fStates.map B6),.sl 17 (a.fa.fEdges.map Ax),.mapv (List.map (encM C3 A6) (a.fheld))]]),(100003,.box 99 [aI (d.fState),.sl 4 (d.fBindings.map B9),.sl 2 (d.fStarts.map Ae)]),(100004,.box 59 [aI (c.fSource),aI (c.fSeq),aI (c.fType),aI (c.fTime),.sl 3 (c.fValues.map Aa)]),(5,.box 223 [.sl 1 (List.map (fun q=>AV.sl 5 (List.map A6 q)) (e.fVars))]),(200000,.row 99 3 (b.2.1.map Ak)),(200001,.row 91 1 (b.2.2.map Ap))]⟩
theorem z0c {n yl_l yl_R yl_T c d e a b}:zww (E0y yl_l yl_R 4) 67 (Hv n c d e a b) (z0e yl_l yl_T c d e a):=LoopA.oT fun _=>rfl
def z0u (e:(List A4))(d:(List A8))(a:Bg)(c:A4)(b:A7):List (Nat×Ent):=[(100000,.box 66 [.row 200000]),(200000,.row 99 3 (e.map Ak)),(100001,.box 49 [.row 200001]),(200001,.row 91 1 (d.map Ap)),(100002,.box 121 [.ref [aI a.fa.fVars,aI a.fa.fScopes,.sl 1 (a.fa.fStates.map B6),.sl 17 (a.fa.fEdges.map Ax),.mapv (List.map (encM C3 A6) (a.fheld))]]),(100003,.box 99 (Co c)),(100004,.box 59 (Cc b))]
def Rh (r:(List A4)×(List A8)×Bg×A4×A7):List (Nat×Ent):=[(100000,.box 66 [.row 250000]),(250000,.row 99 3 (r.1.map Ak)),(100001,.box 49 [.row 250001]),(250001,.row 91 1 (r.2.1.map Ap)),(100002,.box 121 [.ref [aI r.2.2.1.fa.fVars,aI r.2.2.1.fa.fScopes,.sl 1 (r.2.2.1.fa.fStates.map B6),.sl 17 (r.2.2.1.fa.fEdges.map Ax),.mapv (List.map (encM C3 A6) (r.2.2.1.fheld))]]),(100003,.box 99 (Co r.2.2.2.1)),(100004,.box 59 (Cc r.2.2.2.2))]
def Yr (r:(List A4)×(List A8)×Bg×A4×A7):AV:=.tup []
def z00 (yl_l:Nat)(yl_T:Array Value)(r:(List A4)×(List A8)×Bg×A4×A7):AS:=⟨[(0,.yld yl_l yl_T [.any,.any,.any,.any,.any,.any,.any,.any,.ptr 100000 0,.ptr 100001 0]),(1,.ptr 100002 0),(2,.ptr 100003 0),(3,.ptr 100004 0)],Rh r⟩
theorem z0i {n d c i g f r}(b:Ri n d c i g f=some r)(yl_l:Nat)(yl_R:Obj)(yl_T:Array Value)(e:∀ {n:Nat} {j:A4} {d:(List A4)} {c:(List A8)} {r:(List A4)×(List A8)},O8 n j d c=some r->ConG E0.P (some (yl_l,yl_R)) (fun vs cs w R=>cs=yl_T->CalY E0.P yl_l vs cs w R) [Ak j] [.any,.any,.any,.any,.any,.any,.any,.any,.ptr 100000 0,.ptr 100001 0] (z3n d c) (.bool true) (Kf r)):ConG E0.P (some (yl_l,yl_R)) (CalF E0.P 128 0) [.yld yl_l yl_T [.any,.any,.any,.any,.any,.any,.any,.any,.ptr 100000 0,.ptr 100001 0],.ptr 100002 0,.ptr 100003 0,.ptr 100004 0] [] (z0u d c i g f) (Yr r) (Rh r):=by
 unfold Ri at b;refine aE (E:=(E0y yl_l yl_R 4)) (caps:=[]) _ aL rfl rfl rfl rfl rfl ?_;repeat' first
  |refine aM ?_;conv=>whnf
  |refine Ac.o b (fun b=>?_) fun b=>?_
  |refine Ac.f ?_
  |refine Ag.I b fun a b=>?_
  |refine OpX.nckR rfl rfl rfl rfl ?_
  |refine IdxX.A b fun x b=>?_
  |refine Be.I b (fun a b=>?_) rfl rfl fun _=>Or.inr rfl
  |refine YldX.oM (Ca 32 b) [(100000,100000),(200000,200000),(100001,100001),(200001,200001)] [(100000,100000),(250000,33000001),(100001,100001),(250001,33000003)] _ _ _ Kf (fun _=>AV.bool true) [200000,200001] (fun a h=>e h) rfl rfl rfl rfl rfl ⟨⟨rfl,rfl⟩,⟨⟨rfl,rfl⟩,⟨⟨rfl,rfl⟩,⟨⟨rfl,rfl⟩,trivial⟩⟩⟩⟩ (fun a=>⟨rfl,rfl,rfl,rfl,rfl,rfl,rfl,rfl⟩) (fun a b=>?_)
  |refine GX.o (res:=Yr) (meF:=Rh) b ?_;exact GX.mk (z00 yl_l yl_T _) (aA [(250000,33000001),(250001,33000003)]) rfl _ rfl (by repeat' first|exact Sub.nil _|exact Sub.refl _|refine Sub.agg ?_|refine Sub.tup ?_|refine Sub.fn ?_|exact SubL.nil|refine SubL.cons ?_ ?_|refine Sub.sl _ ?_|exact SubE.nil|refine SubE.cons ?_ ?_) [100000,100001] ⟨Or.inl ⟨0,0,8,_,_,_,_,_,_,rfl,rfl,rfl,rfl,rfl⟩,⟨Or.inl ⟨0,0,9,_,_,_,_,_,_,rfl,rfl,rfl,rfl,rfl⟩,trivial⟩⟩ rfl
  |exact ⟨_,b,aA []⟩
  |refine YldX.oM (Ca 63 b) [(100000,100000),(200000,33000001),(100001,100001),(200001,33000003)] [(100000,100000),(250000,64000001),(100001,100001),(250001,64000003)] _ _ _ Kf (fun _=>AV.bool true) [33000001,33000003] (fun a h=>e h) rfl rfl rfl rfl rfl ⟨⟨rfl,rfl⟩,⟨⟨rfl,rfl⟩,⟨⟨rfl,rfl⟩,⟨⟨rfl,rfl⟩,trivial⟩⟩⟩⟩ (fun a=>⟨rfl,rfl,rfl,rfl,rfl,rfl,rfl,rfl⟩) (fun a b=>?_)
  |exact ⟨_,b,aA [(33000001,64000001),(33000003,64000003)]⟩
  |refine z0d b (aA []) (fun m v b=>?_);unfold Hw at b
  |refine GX.o (res:=Yr) (meF:=Rh) b ?_;exact GX.mk (z00 yl_l yl_T _) (aA [(250000,200000),(250001,200001)]) rfl _ rfl (by repeat' first|exact Sub.nil _|exact Sub.refl _|refine Sub.agg ?_|refine Sub.tup ?_|refine Sub.fn ?_|exact SubL.nil|refine SubL.cons ?_ ?_|refine Sub.sl _ ?_|exact SubE.nil|refine SubE.cons ?_ ?_) [100000,100001] ⟨Or.inl ⟨0,0,8,_,_,_,_,_,_,rfl,rfl,rfl,rfl,rfl⟩,⟨Or.inl ⟨0,0,9,_,_,_,_,_,_,rfl,rfl,rfl,rfl,rfl⟩,trivial⟩⟩ rfl
  |refine YldX.oM (Ca 63 b) [(100000,100000),(200000,200000),(100001,100001),(200001,200001)] [(100000,100000),(250000,64000001),(100001,100001),(250001,64000003)] _ _ _ Kf (fun _=>AV.bool true) [200000,200001] (fun a h=>e h) rfl rfl rfl rfl rfl ⟨⟨rfl,rfl⟩,⟨⟨rfl,rfl⟩,⟨⟨rfl,rfl⟩,⟨⟨rfl,rfl⟩,trivial⟩⟩⟩⟩ (fun a=>⟨rfl,rfl,rfl,rfl,rfl,rfl,rfl,rfl⟩) (fun a b=>?_)
  |exact ⟨_,b,aA [(200000,64000001),(200001,64000003)]⟩
  |refine z0c b (aA []) (fun m v b=>?_);unfold Hv at b
  |refine AndA ?_
instance zkn {n b a}:CI E0 (Pw n b a) true 135 [Ak b,Ak a,.ref [.fn 93 []]] (fun r=>.bool (r)):=by unfold Pw;exact CI.w [] Tryz.func135
def z6x (a:(List A4)):List (Nat×Ent):=[(200000,.row 99 3 (a.map Ak))]
def S9 (r:(List A4)):List (Nat×Ent):=[(260000,.row 99 3 (r.map Ak))]
def Vx (r:(List A4)):AV:=.row 260000
def z0l (r:(List A4)):AS:=⟨[(4,.row 260000)],S9 r⟩
theorem z5f {n c r}(b:Sh n c=some r):ConG E0.P none (CalF E0.P 134 0) [.row 200000,.fn 135 [.ref [.fn 93 []]]] [] (z6x c) (Vx r) (S9 r):=by
 unfold Sh at b;refine aE (E:=(E0p 2)) (caps:=[]) _ aO rfl rfl rfl rfl rfl ?_;repeat' first
  |refine aM ?_;conv=>whnf
  |refine Ac.o b (fun b=>?_) fun b=>?_
  |exact GX.A (res:=Vx) (meF:=S9) b z0l (h1:=aA [(260000,200000)])
  |refine NatX.o b (fun m b=>?_)
  |refine EltX.o Ak b (fun x b=>?_)
  |refine Ag.I b fun a b=>?_
  |refine OpX.sub b rfl rfl rfl rfl rfl rfl rfl rfl rfl rfl (fun m b=>?_)
  |refine OpX.clr Ak b rfl rfl rfl rfl rfl rfl rfl rfl rfl rfl rfl (by first|exact aD _|(repeat' first|exact SubL.nil|refine SubL.cons ?_ ?_|exact Sub.refl _|exact Sub.nil _|refine Sub.agg ?_)) (fun l b=>?_)
  |refine SlsX.o Ak b (fun l b=>?_)
  |exact GX.A (res:=Vx) (meF:=S9) b z0l (h1:=aA [(260000,64)])
  |refine OpX.lns b rfl rfl rfl rfl rfl rfl rfl (fun b=>?_)
  |refine OpX.ixs b rfl rfl rfl rfl rfl rfl rfl rfl rfl rfl (fun m b=>?_)
  |refine SetX.o Ak b (fun x=>rfl) (fun x=>(by first|exact aD _|(repeat' first|exact SubL.nil|refine SubL.cons ?_ ?_|exact Sub.refl _|exact Sub.nil _|refine Sub.agg ?_))) (fun l b=>?_)
  |exact ⟨_,b,aA []⟩
  |refine B5.I b (aA []) fun m v b=>?_
  |refine AndA ?_
  |refine EqX.A ?_
def zir (a:(List A4)):List (Nat×Ent):=[(200000,.row 99 3 (a.map Ak))]
def Wk (r:(List A4)):List (Nat×Ent):=[(260000,.row 99 3 (r.map Ak))]
def Z6 (r:(List A4)):AV:=.row 260000
def zin (r:(List A4)):AS:=⟨[(4,.row 260000)],Wk r⟩
theorem zbc {n c r}(b:Tw n c=some r):ConG E0.P none (CalF E0.P 92 0) [.row 200000,.fn 93 []] [] (zir c) (Z6 r) (Wk r):=by
 unfold Tw at b;refine aE (E:=(E0p 2)) (caps:=[]) _ aQ rfl rfl rfl rfl rfl ?_;repeat' first
  |refine AW.frbO b 3 rfl rfl (fun b=>?_)
  |refine aP b fun b=>?_
  |refine aF [2] ?_;conv=>whnf
  |refine Be.oI b 200000 (fun r=>r) Ak (fun _=>AV.tup []) rfl (fun a h=>(ConC.env rfl (znb h))) rfl rfl rfl (fun a b=>?_)
  |refine Be.oM (Ca 10 b) [(200000,200000)] [(260000,11000000)] _ _ S9 Vx [200000] (fun a h=>aB (z5f h)) (B7 aO rfl rfl) rfl rfl rfl ⟨⟨rfl,rfl⟩,trivial⟩ (fun a=>⟨rfl,rfl,rfl,rfl,rfl,rfl,rfl,rfl⟩) (fun a b=>?_)
  |exact GX.A (res:=Z6) (meF:=Wk) b zin (h1:=aA [(260000,11000000)])
instance zkm {n b a}:CI E0 (Pv n b a) true 95 [Ap b,Ap a,.ref [.fn 58 []]] (fun r=>.bool (r)):=by unfold Pv;exact CI.w [] Tryz.func95
def z2l (a:(List A8)):List (Nat×Ent):=[(200000,.row 91 1 (a.map Ap))]
def Rl (r:(List A8)):List (Nat×Ent):=[(260000,.row 91 1 (r.map Ap))]
def Vd (r:(List A8)):AV:=.row 260000
def z02 (r:(List A8)):AS:=⟨[(4,.row 260000)],Rl r⟩
theorem z13 {n c r}(b:Ro n c=some r):ConG E0.P none (CalF E0.P 94 0) [.row 200000,.fn 95 [.ref [.fn 58 []]]] [] (z2l c) (Vd r) (Rl r):=by
 unfold Ro at b;refine aE (E:=(E0p 2)) (caps:=[]) _ aR rfl rfl rfl rfl rfl ?_;repeat' first
  |refine aM ?_;conv=>whnf
  |refine Ac.o b (fun b=>?_) fun b=>?_
  |exact GX.A (res:=Vd) (meF:=Rl) b z02 (h1:=aA [(260000,200000)])
  |refine NatX.o b (fun m b=>?_)
  |refine EltX.o Ap b (fun x b=>?_)
  |refine Ag.I b fun a b=>?_
  |refine OpX.sub b rfl rfl rfl rfl rfl rfl rfl rfl rfl rfl (fun m b=>?_)
  |refine OpX.clr Ap b rfl rfl rfl rfl rfl rfl rfl rfl rfl rfl rfl (by first|exact aD _|(repeat' first|exact SubL.nil|refine SubL.cons ?_ ?_|exact Sub.refl _|exact Sub.nil _|refine Sub.agg ?_)) (fun l b=>?_)
  |refine SlsX.o Ap b (fun l b=>?_)
  |exact GX.A (res:=Vd) (meF:=Rl) b z02 (h1:=aA [(260000,64)])
  |refine OpX.lns b rfl rfl rfl rfl rfl rfl rfl (fun b=>?_)
  |refine OpX.ixs b rfl rfl rfl rfl rfl rfl rfl rfl rfl rfl (fun m b=>?_)
  |refine SetX.o Ap b (fun x=>rfl) (fun x=>(by first|exact aD _|(repeat' first|exact SubL.nil|refine SubL.cons ?_ ?_|exact Sub.refl _|exact Sub.nil _|refine Sub.agg ?_))) (fun l b=>?_)
  |exact ⟨_,b,aA []⟩
  |refine B5.I b (aA []) fun m v b=>?_
  |refine AndA ?_
  |refine EqX.A ?_
def z84 (a:(List A8)):List (Nat×Ent):=[(200000,.row 91 1 (a.map Ap))]
def Ta (r:(List A8)):List (Nat×Ent):=[(260000,.row 91 1 (r.map Ap))]
def W7 (r:(List A8)):AV:=.row 260000
def z83 (r:(List A8)):AS:=⟨[(4,.row 260000)],Ta r⟩
theorem z14 {n c r}(b:Lu n c=some r):ConG E0.P none (CalF E0.P 57 0) [.row 200000,.fn 58 []] [] (z84 c) (W7 r) (Ta r):=by
 unfold Lu at b;refine aE (E:=(E0p 2)) (caps:=[]) _ aH rfl rfl rfl rfl rfl ?_;repeat' first
  |refine AW.frbO b 3 rfl rfl (fun b=>?_)
  |refine aP b fun b=>?_
  |refine aF [2] ?_;conv=>whnf
  |refine Be.oI b 200000 (fun r=>r) Ap (fun _=>AV.tup []) rfl (fun a h=>(ConC.env rfl (zna h))) rfl rfl rfl (fun a b=>?_)
  |refine Be.oM (Ca 10 b) [(200000,200000)] [(260000,11000000)] _ _ Rl Vd [200000] (fun a h=>aB (z13 h)) (B7 aR rfl rfl) rfl rfl rfl ⟨⟨rfl,rfl⟩,trivial⟩ (fun a=>⟨rfl,rfl,rfl,rfl,rfl,rfl,rfl,rfl⟩) (fun a b=>?_)
  |exact GX.A (res:=W7) (meF:=Ta) b z83 (h1:=aA [(260000,11000000)])
instance zeh {n c e d}:CI E0 (S8 n c e d) false 56 [.ref [aI c.fa.fVars,aI c.fa.fScopes,.sl 1 (c.fa.fStates.map B6),.sl 17 (c.fa.fEdges.map Ax),.mapv (List.map (encM C3 A6) (c.fheld))],.sl 3 (e.map Ak),A6 d] (fun r=>.tup [.sl 3 (r.1.map Ak),.sl 1 (r.2.map Ap)]):=⟨fun {r} b=>by
 unfold S8 at b;refine Con.walkM (E:=E0r) _ aS rfl (B7 aS rfl rfl) rfl (Or.inl rfl) ?_ rfl rfl rfl;repeat' first
  |refine aM ?_;conv=>whnf
  |refine Ac.o b (fun b=>?_) fun b=>?_
  |refine Be.oM (Ca 39 b) [(200000,811000001)] [(260000,40000000)] _ _ Wk Z6 [811000001] (fun a h=>aB (zbc h)) (B7 aQ rfl rfl) rfl rfl rfl ⟨⟨rfl,rfl⟩,trivial⟩ (fun a=>⟨rfl,rfl,rfl,rfl,rfl,rfl,rfl,rfl⟩) (fun a b=>?_)
  |refine Be.oM (Ca 41 b) [(200000,811000003)] [(260000,42000000)] _ _ Ta W7 [811000003] (fun a h=>aB (z14 h)) (B7 aH rfl rfl) rfl rfl rfl ⟨⟨rfl,rfl⟩,trivial⟩ (fun a=>⟨rfl,rfl,rfl,rfl,rfl,rfl,rfl,rfl⟩) (fun a b=>?_)
  |refine IdxX.A b fun x b=>?_
  |refine Ag.oM (Ca 22 b) [] [(3,23000000),(4,23000001),(5,23000002)] _ _ Vi Ys [] (fun a h=>aB (z4d h)) (B7 Tryz.func91 rfl rfl) rfl rfl rfl trivial (fun a=>⟨rfl,rfl,rfl,rfl,rfl,rfl,rfl,rfl⟩) (fun a b=>?_)
  |refine AppX.oA b fun l b=>?_
  |refine BX.o (meF:=Kf) b ?_;exact BX.mk (z05 _) (aA [(250000,200000),(250001,32)]) rfl rfl
  |refine BX.o (meF:=Kf) b ?_;exact BX.mk (z05 _) (aA [(250000,36),(250001,200001)]) rfl rfl
  |refine RngX.oM (Ca 810 b) [(100000,8),(100001,9),(100002,23000000),(100003,23000001),(100004,23000002),(200000,811000001),(200001,811000003)] [(100000,8),(250000,811500001),(100001,9),(250001,811500003),(100002,23000000),(100003,23000001),(100004,23000002)] _ _ _ Rh [811000001,811000003] (fun x h l D fn T f=>z0i h l _ T (fun b=>ConG.round (E:=E0p 10) rfl rfl rfl rfl rfl rfl ?_ l D fn T f)) (B7 aL rfl rfl) rfl rfl rfl rfl rfl ⟨⟨rfl,rfl⟩,⟨⟨rfl,rfl⟩,trivial⟩⟩ ⟨⟨rfl,rfl⟩,⟨⟨rfl,rfl⟩,⟨⟨rfl,rfl⟩,⟨⟨rfl,rfl⟩,⟨⟨rfl,rfl⟩,⟨⟨rfl,rfl⟩,⟨⟨rfl,rfl⟩,trivial⟩⟩⟩⟩⟩⟩⟩ (fun a=>⟨rfl,rfl,rfl,rfl,rfl,rfl,rfl,rfl⟩) (fun a b=>?_)
  |exact ⟨_,b,aA [(811000001,811500001),(811000003,811500003)]⟩
  |refine B5.I b ?_ fun m v b=>?_
  |exact aG (aK 8 0 811000001 99 3 66 _ rfl rfl rfl) (aG (aK 9 0 811000003 91 1 49 _ rfl rfl rfl) (aA []))
  |refine AndA ?_
  |exact RetX.oB b⟩
end
noncomputable section
abbrev zfp {n d a c}:=li (He n d a c) (fun b=>⟨[(7,.ref [aI a.fa.fVars,aI a.fa.fScopes,.sl 1 (a.fa.fStates.map B6),.sl 17 (a.fa.fEdges.map Ax),.mapv (List.map (encM C3 A6) (a.fheld))]),(9,.sl 3 (b.1.map Ak)),(10,.row 7058),(26,.sl 5 (d.map A6)),(27,aI (((d.map A6).length:Int))),(28,aI b.2.1)],[(7058,.row 91 1 (b.2.2.map Ap))]⟩) fun _ _=>He.eq_2 ..
abbrev z3w {n a d b}:=li (Od n a d b) (fun c=>⟨[(0,.sl 1 (d.map Ap)),(1,.sl 1 (a.map Ap)),(5,aI c)],[]⟩) fun _ _=>Od.eq_2 ..
abbrev z0a {n}:=jf (Dl n) (fun b=>⟨[(4,.bool (b))],[]⟩) fun _=>Dl.eq_1 ..
abbrev z07 {n h a b c d f g}:=li (N2 n h a b c d f g) (fun e=>⟨[(1,.sl 5 (h.map A6)),(2,.ptr 2 0),(6,.fn 8 [.ptr 5 0]),(7,.ptr 7 0),(9,aI d.1),(64,aI b),(65,aI d.1),(78,.sl 17 (f.1.map Ax)),(79,aI (((f.1.map Ax).length:Int))),(80,aI e.1)],[(2,.box 25 (Bf a)),(5,.box 3 [aI e.2.1]),(7,.box 25 [aI a.fVars,aI a.fScopes,.row 46,.row 7095]),(46,.row 34 1 (c.map B6)),(7095,.row 46 17 (e.2.2.map Ax))]⟩) fun _ _=>N2.eq_2 ..
abbrev z08 {n f a b c e}:=li (Jv n f a b c e) (fun d=>⟨[(1,.sl 5 (f.map A6)),(2,.ptr 2 0),(6,.fn 8 [.ptr 5 0]),(7,.ptr 7 0),(64,aI b),(65,aI d.1)],[(2,.box 25 (Bf a)),(5,.box 3 [aI d.2.1]),(7,.box 25 [aI a.fVars,aI a.fScopes,.row 46,.row 7095]),(46,.row 34 1 (c.map B6)),(7095,.row 46 17 (d.2.2.map Ax))]⟩) fun _ _=>Jv.eq_2 ..
abbrev z09 {n d a c}:=li (N3 n d a c) (fun b=>⟨[(1,.sl 5 (d.map A6)),(2,.ptr 2 0),(5,.ptr 5 0),(6,.fn 8 [.ptr 5 0]),(7,.ptr 7 0),(48,aI (((a.fStates.map B6).length:Int))),(49,aI b.1)],[(2,.box 25 (Bf a)),(5,.box 3 [aI b.2.1]),(7,.box 25 [aI a.fVars,aI a.fScopes,.row 46,.nils]),(46,.row 34 1 (b.2.2.map B6))]⟩) fun _ _=>N3.eq_2 ..
abbrev z0b {n a c}:=jf (Fw n a c) (fun b=>⟨[(1,.sl 5 (a.map A6)),(2,.ptr 2 0),(36,.bool (b))],[(2,.box 25 (Bf c))]⟩) fun _=>Fw.eq_1 ..
attribute [instance] zfp z3w z0a z07 z08 z09 z0b
instance zwl {n d c}:CI E0 (Uj n d c) false 33 [C1 d,.sl 5 (c.map A6)] (fun r=>.tup [.sl 3 (r.1.map Ak),.sl 1 (r.2.1.map Ap),aI r.2.2]):=⟨fun {r} b=>by
 unfold Uj at b;refine cw Tryz.func33 ?_;repeat' first
  |refine AW.jI b (fun v b=>?_) fun b=>?_
  |refine aP b fun b=>?_
  |refine aF [10] ?_;conv=>whnf
  |refine Ac.o b (fun b=>?_) fun b=>?_
  |refine Ac.t ?_
  |refine Ag.oP b Ze (fun u=>.tup [.nilp,aI (u.2)]) (fun u y=>.tup [.ref [aI (y.fa.fVars),aI (y.fa.fScopes),.sl 1 (y.fa.fStates.map B6),.sl 17 (y.fa.fEdges.map Ax),.mapv (List.map (encM C3 A6) (y.fheld))],aI (u.2)]) (fun u h=>by simp only [Ze,h,Wf]) (fun u y h=>by simp only [Ze,h,Wf]) (fun a h=>zei.h h) (fun a b=>?_) (fun a y b=>?_)
  |refine Ag.I b fun a b=>?_
  |(cases b;done)
  |refine Be.oM (Ca 62 b) [(200000,7058)] [(260000,63000000)] _ _ Ta W7 [7058] (fun a h=>aB (z14 h)) (B7 aH rfl rfl) rfl rfl rfl ⟨⟨rfl,rfl⟩,trivial⟩ (fun a=>⟨rfl,rfl,rfl,rfl,rfl,rfl,rfl,rfl⟩) (fun a b=>?_)
  |refine IdxX.A b fun x b=>?_
  |refine AppX.oA b fun l b=>?_
  |exact ⟨_,b,aA [(7058,58)]⟩
  |exact ⟨_,b,aA []⟩
  |refine B5.I b ?_ fun m v b=>?_
  |exact aG (LeX.adopt 10 7058 91 1 rfl rfl) (aA [])
  |exact RetX.oB b⟩
instance zqm {n b a}:CI E0 (Gf n b a) false 11 [C1 b,.sl 5 (a.map A6)] (fun r=>.tup [.sl 1 (r.1.map Ap),aI r.2]):=by unfold Gf;exact CI.w [] Tryz.func11
instance zf0 {n b a}:CI E0 (Pf n b a) true 12 [.sl 1 (b.map Ap),.sl 1 (a.map Ap)] (fun r=>.bool (r)):=by unfold Pf;exact CI.w [] Tryz.func12
end
theorem zij {a:Type}{n:Nat}{k:Bool->Option a}{r:a}(h:bnd (Wz n) k=some r):k true=some r:=by unfold Wz bnd at h;exact h
theorem z0g {n d c r}(b:Vb n d c=some r):ConL Ec true 3 [C1 d,.sl 5 (c.map A6)] (.bool (r)):=by
 unfold Vb at b;have b:=zij b;refine cwL Tryz.func3 ?_;refine aF [1] ?_;conv=>whnf
 refine AW.into ?_;refine AW.rule (zer rfl rfl) rfl ?_;repeat' first
  |refine AW.jI b (fun v b=>?_) fun b=>?_
  |refine aP b fun b=>?_
  |refine AW.frzO b 46 rfl (fun b=>?_)
  |refine AW.frzO b 7095 rfl (fun b=>?_)
  |refine aF [26,3,29] ?_;conv=>whnf
  |refine Ac.o b (fun b=>?_) fun b=>?_
  |refine Ac.t ?_
  |refine Ac.f ?_
  |refine MakX.o B6 b (by first|exact aD _|(repeat' first|exact SubL.nil|refine SubL.cons ?_ ?_|exact Sub.refl _|exact Sub.nil _|refine Sub.agg ?_)) (fun l b=>?_)
  |refine Ag.I b fun a b=>?_
  |exact ⟨_,b,aA []⟩
  |refine Be.oM (Ca 72 b) [(100000,5)] [(100000,5)] _ _ Gt Hx [] (fun a h=>aB (N1 h)) (B7 aC rfl rfl) rfl rfl rfl ⟨⟨rfl,rfl⟩,trivial⟩ (fun a=>⟨rfl,rfl,rfl,rfl,rfl,rfl,rfl,rfl⟩) (fun a b=>?_)
  |refine Ag.oM (Ca 72 b) [(100000,5)] [(100000,5)] _ _ Gt Hx [] (fun a h=>aB (N1 h)) (B7 aC rfl rfl) rfl rfl rfl ⟨⟨rfl,rfl⟩,trivial⟩ (fun a=>⟨rfl,rfl,rfl,rfl,rfl,rfl,rfl,rfl⟩) (fun a b=>?_)
  |refine IdxX.A b fun x b=>?_
  |refine Be.oM (Ca 88 b) [(100000,5)] [(100000,5)] _ _ Gt Hx [] (fun a h=>aB (N1 h)) (B7 aC rfl rfl) rfl rfl rfl ⟨⟨rfl,rfl⟩,trivial⟩ (fun a=>⟨rfl,rfl,rfl,rfl,rfl,rfl,rfl,rfl⟩) (fun a b=>?_)
  |refine Ag.oM (Ca 88 b) [(100000,5)] [(100000,5)] _ _ Gt Hx [] (fun a h=>aB (N1 h)) (B7 aC rfl rfl) rfl rfl rfl ⟨⟨rfl,rfl⟩,trivial⟩ (fun a=>⟨rfl,rfl,rfl,rfl,rfl,rfl,rfl,rfl⟩) (fun a b=>?_)
  |refine AppX.oA b fun l b=>?_
  |exact ⟨_,b,aA [(7095,95)]⟩
  |refine B5.I b ?_ fun m v b=>?_
  |exact aA []
  |exact aG (aK 7 3 7095 46 17 25 _ rfl rfl rfl) (aA [])
  |refine Be.oM (Ca 56 b) [(100000,5)] [(100000,5)] _ _ Gt Hx [] (fun a h=>aB (N1 h)) (B7 aC rfl rfl) rfl rfl rfl ⟨⟨rfl,rfl⟩,trivial⟩ (fun a=>⟨rfl,rfl,rfl,rfl,rfl,rfl,rfl,rfl⟩) (fun a b=>?_)
  |refine Ag.oM (Ca 56 b) [(100000,5)] [(100000,5)] _ _ Gt Hx [] (fun a h=>aB (N1 h)) (B7 aC rfl rfl) rfl rfl rfl ⟨⟨rfl,rfl⟩,trivial⟩ (fun a=>⟨rfl,rfl,rfl,rfl,rfl,rfl,rfl,rfl⟩) (fun a b=>?_)
  |refine NatX.o b (fun m b=>?_)
  |refine SetX.o B6 b (fun x=>rfl) (fun x=>(by first|exact aD _|(repeat' first|exact SubL.nil|refine SubL.cons ?_ ?_|exact Sub.refl _|exact Sub.nil _|refine Sub.agg ?_))) (fun l b=>?_)
  |refine AndA ?_
  |refine EqX.A ?_
  |exact RetX.oB b
end Go.Proofs.YtkoamfnbbhfaiaaGreatDoor
