/- What some functions compute, over plain values. -/
import Derived.Test.YtidhlpjgifoneaaGreatK26
set_option linter.unusedVariables false
set_option linter.unusedSimpArgs false
set_option maxRecDepth 100000
set_option maxHeartbeats 8000000
namespace Go.Proofs.YtidhlpjgifoneaaGreat
open Go.RowKit List
noncomputable section
abbrev z19 {n d c}:=li (Jl n d c) (fun b=>⟨[(0,.row 200000),(1,.fn 130 [.ref [.fn 92 []]]),(5,aI b.1),(6,.der (.sub 1 (d)) 200000),(7,aI b.2.1)],[(200000,.row 44 1 (b.2.2.map Ap))]⟩) fun _ _=>Jl.eq_2 ..
abbrev z1a {n a b}:=li (Nz n a b) (fun c=>⟨[(0,.row 200000),(1,.fn 130 [.ref [.fn 92 []]]),(5,aI c)],[(200000,.row 44 1 (a.map Ap))]⟩) fun _ _=>Nz.eq_2 ..
abbrev z4z {n e d a c}:=li (Pe n e d a c) (fun b=>⟨[(0,.ref [aI a.fa.fVars,aI a.fa.fScopes,.sl 1 (a.fa.fStates.map Bb),.sl 17 (a.fa.fEdges.map B5),.mapv (List.map (encM Bf A7) (a.fheld))]),(5,.ptr 5 0),(8,.ptr 8 0),(9,.ptr 9 0),(13,.sl 3 (d.map A4)),(14,aI (((d.map A4).length:Int))),(15,aI b.1)],[(5,.box 71 (Bu e)),(8,.box 57 [.row 811000001]),(9,.box 50 [.row 811000003]),(811000001,.row 60 3 (b.2.1.map A4)),(811000003,.row 44 1 (b.2.2.map Ap))]⟩) fun _ _=>Pe.eq_2 ..
abbrev zc2 {n b}:=jf (Mf n b) (fun c=>⟨[(17,.sl 3 (b.1.map A4)),(18,.sl 1 (b.2.map Ap)),(64,.bool (c))],[]⟩) fun _=>Mf.eq_1 ..
attribute [instance] z19 z1a z4z zc2
instance zik {n c g f e d}:CI E0 (Qn n c g f e d) false 160 [.ref [aI c.fa.fVars,aI c.fa.fScopes,.sl 1 (c.fa.fStates.map Bb),.sl 17 (c.fa.fEdges.map B5),.mapv (List.map (encM Bf A7) (c.fheld))],A4 g,B5 f,Di e,A7 d] (fun r=>.tup [A4 r.1,.bool (r.2)]):=⟨fun {r} b=>by
 unfold Qn at b;refine cw Tryz.func160 ?_;repeat' first
  |refine AW.jI b (fun v b=>?_) fun b=>?_
  |refine AW.regO b fun b=>?_
  |refine AW.stepU [1] ?_;conv=>whnf
  |refine A9.o b (fun b=>?_) fun b=>?_
  |refine A9.t ?_
  |refine Ad.oR b (fun r=>r) Ae z8y rfl (fun a h=>ze3 h) (fun a b=>?_)
  |refine B7.I b (fun a b=>?_) rfl rfl fun _=>Or.inr rfl
  |refine Ad.oR b (fun r=>r) (fun q=>AV.sl 5 (List.map A7 q)) (fun _=>AV.row 0) rfl (fun a h=>zit h) (fun a b=>?_)
  |refine IdxX.o (fun q=>AV.sl 5 (List.map A7 q)) b fun x b=>?_
  |refine Ad.oR b (fun r=>r) A7 (fun _=>AV.row 0) rfl (fun a h=>zis h) (fun a b=>?_)
  |refine AppX.oA b fun l b=>?_
  |refine NatX.o b (fun m b=>?_)
  |refine OpX.str A7 b rfl rfl rfl rfl rfl rfl rfl rfl rfl rfl rfl (fun l b=>?_)
  |refine B7.oM (Bj 96 b) [(100000,7),(200001,52)] [(260000,97000000),(100000,7)] _ _ Ua Xp [52] (fun a h=>ConG.up (z8f h)) (Aw Tryz.func193 rfl rfl) rfl rfl rfl ⟨⟨rfl,rfl⟩,⟨⟨rfl,rfl⟩,trivial⟩⟩ (fun a=>⟨rfl,rfl,rfl,rfl,rfl,rfl,rfl,rfl⟩) (fun a b=>?_)
  |refine Ad.oR b (fun r=>r) Aq (fun _=>AV.row 0) rfl (fun a h=>zby h) (fun a b=>?_)
  |refine Ad.I b fun a b=>?_
  |refine IdxX.oD b D6 (fun x b=>?_)
  |refine B7.o b zn2 (fun a h=>Con.sub (by repeat' first|exact Sub.nil _|exact Sub.refl _|refine Sub.agg ?_|refine Sub.tup ?_|refine Sub.fn ?_|exact SubL.nil|refine SubL.cons ?_ ?_|refine Sub.sl _ ?_|exact SubE.nil|refine SubE.cons ?_ ?_) (zfj.h h)) (fun _=>Or.inr rfl) (fun a b=>?_)
  |exact ⟨_,b,LeX.a []⟩
  |refine Ax.I b (LeX.a []) fun m v b=>?_
  |refine OpX.nckR rfl rfl rfl rfl ?_
  |refine IdxX.A b fun x b=>?_
  |refine AndA ?_
  |exact RetX.oB b⟩
def z0z (yl_l:Nat)(yl_T:Array Value)(c:A8)(d:A0)(a:B9)(e:Ao)(b:Int×(List A0)×(List Ab)):AS:=⟨[(0,.yld yl_l yl_T [.any,.any,.any,.any,.any,.any,.any,.any,.ptr 100000 0,.ptr 100001 0]),(1,.ptr 100002 0),(2,.ptr 100003 0),(3,.ptr 100004 0),(5,.ptr 5 0),(39,.sl 17 (a.fa.fEdges.map B5)),(40,aI (((a.fa.fEdges.map B5).length:Int))),(41,aI (b.1))],[(100000,.box 57 [.row 33000001]),(100001,.box 50 [.row 33000003]),(100002,.box 137 [.ref [aI (a.fa.fVars),aI (a.fa.fScopes),.sl 1 (a.fa.fStates.map Bb),.sl 17 (a.fa.fEdges.map B5),.mapv (List.map (encM Bf A7) (a.fheld))]]),(100003,.box 60 [aI (d.fState),.sl 4 (d.fBindings.map Aq),.sl 2 (d.fStarts.map Ae)]),(100004,.box 71 [aI (c.fSource),aI (c.fSeq),aI (c.fType),aI (c.fTime),.sl 3 (c.fValues.map Af)]),(5,.box 220 [.sl 1 (List.map (fun q=>AV.sl 5 (List.map A7 q)) (e.fVars))]),(33000001,.row 60 3 (b.2.1.map A4)),(33000003,.row 44 1 (b.2.2.map Ap))]⟩
theorem z0u {n yl_l yl_R yl_T c d e a b}:y36 (E0y yl_l yl_R 4) 67 (Ho n c d e a b) (z0z yl_l yl_T c d e a):=LoopA.oT fun _=>rfl
def z0y (yl_l:Nat)(yl_T:Array Value)(c:A8)(d:A0)(a:B9)(e:Ao)(b:Int×(List A0)×(List Ab)):AS:=⟨[(0,.yld yl_l yl_T [.any,.any,.any,.any,.any,.any,.any,.any,.ptr 100000 0,.ptr 100001 0]),(1,.ptr 100002 0),(2,.ptr 100003 0),(3,.ptr 100004 0),(5,.ptr 5 0),(39,.sl 17 (a.fa.fEdges.map B5)),(40,aI (((a.fa.fEdges.map B5).length:Int))),(41,aI (b.1))],[(100000,.box 57 [.row 200000]),(100001,.box 50 [.row 200001]),(100002,.box 137 [.ref [aI (a.fa.fVars),aI (a.fa.fScopes),.sl 1 (a.fa.fStates.map Bb),.sl 17 (a.fa.fEdges.map B5),.mapv (List.map (encM Bf A7) (a.fheld))]]),(100003,.box 60 [aI (d.fState),.sl 4 (d.fBindings.map Aq),.sl 2 (d.fStarts.map Ae)]),(100004,.box 71 [aI (c.fSource),aI (c.fSeq),aI (c.fType),aI (c.fTime),.sl 3 (c.fValues.map Af)]),(5,.box 220 [.sl 1 (List.map (fun q=>AV.sl 5 (List.map A7 q)) (e.fVars))]),(200000,.row 60 3 (b.2.1.map A4)),(200001,.row 44 1 (b.2.2.map Ap))]⟩
theorem z0t {n yl_l yl_R yl_T c d e a b}:y36 (E0y yl_l yl_R 4) 67 (Hn n c d e a b) (z0y yl_l yl_T c d e a):=LoopA.oT fun _=>rfl
def z1g (e:(List A0))(d:(List Ab))(a:B9)(c:A0)(b:A8):List (Nat×Ent):=[(100000,.box 57 [.row 200000]),(200000,.row 60 3 (e.map A4)),(100001,.box 50 [.row 200001]),(200001,.row 44 1 (d.map Ap)),(100002,.box 137 [.ref [aI a.fa.fVars,aI a.fa.fScopes,.sl 1 (a.fa.fStates.map Bb),.sl 17 (a.fa.fEdges.map B5),.mapv (List.map (encM Bf A7) (a.fheld))]]),(100003,.box 60 (Bi c)),(100004,.box 71 (Bu b))]
def Sx (r:(List A0)×(List Ab)×B9×A0×A8):List (Nat×Ent):=[(100000,.box 57 [.row 250000]),(250000,.row 60 3 (r.1.map A4)),(100001,.box 50 [.row 250001]),(250001,.row 44 1 (r.2.1.map Ap)),(100002,.box 137 [.ref [aI r.2.2.1.fa.fVars,aI r.2.2.1.fa.fScopes,.sl 1 (r.2.2.1.fa.fStates.map Bb),.sl 17 (r.2.2.1.fa.fEdges.map B5),.mapv (List.map (encM Bf A7) (r.2.2.1.fheld))]]),(100003,.box 60 (Bi r.2.2.2.1)),(100004,.box 71 (Bu r.2.2.2.2))]
def z01 (r:(List A0)×(List Ab)×B9×A0×A8):AV:=.tup []
def z08 (yl_l:Nat)(yl_T:Array Value)(r:(List A0)×(List Ab)×B9×A0×A8):AS:=⟨[(0,.yld yl_l yl_T [.any,.any,.any,.any,.any,.any,.any,.any,.ptr 100000 0,.ptr 100001 0]),(1,.ptr 100002 0),(2,.ptr 100003 0),(3,.ptr 100004 0)],Sx r⟩
theorem z14 {n d c i g f r}(b:T0 n d c i g f=some r)(yl_l:Nat)(yl_R:Obj)(yl_T:Array Value)(e:∀ {n:Nat} {j:A0} {d:(List A0)} {c:(List Ab)} {r:(List A0)×(List Ab)},Pf n j d c=some r->ConG E0.P (some (yl_l,yl_R)) (fun vs cs w R=>cs=yl_T->CalY E0.P yl_l vs cs w R) [A4 j] [.any,.any,.any,.any,.any,.any,.any,.any,.ptr 100000 0,.ptr 100001 0] (z5d d c) (.bool true) (K7 r)):ConG E0.P (some (yl_l,yl_R)) (CalF E0.P 156 0) [.yld yl_l yl_T [.any,.any,.any,.any,.any,.any,.any,.any,.ptr 100000 0,.ptr 100001 0],.ptr 100002 0,.ptr 100003 0,.ptr 100004 0] [] (z1g d c i g f) (z01 r) (Sx r):=by
 unfold T0 at b;refine ConG.walk (E:=(E0y yl_l yl_R 4)) (caps:=[]) _ Tryz.func156 rfl rfl rfl rfl rfl ?_;repeat' first
  |refine AW.step ?_;conv=>whnf
  |refine A9.o b (fun b=>?_) fun b=>?_
  |refine A9.f ?_
  |refine Ad.I b fun a b=>?_
  |refine OpX.nckR rfl rfl rfl rfl ?_
  |refine IdxX.A b fun x b=>?_
  |refine B7.I b (fun a b=>?_) rfl rfl fun _=>Or.inr rfl
  |refine YldX.oM (Bj 32 b) [(100000,100000),(200000,200000),(100001,100001),(200001,200001)] [(100000,100000),(250000,33000001),(100001,100001),(250001,33000003)] _ _ _ K7 (fun _=>AV.bool true) [200000,200001] (fun a h=>e h) rfl rfl rfl rfl rfl ⟨⟨rfl,rfl⟩,⟨⟨rfl,rfl⟩,⟨⟨rfl,rfl⟩,⟨⟨rfl,rfl⟩,trivial⟩⟩⟩⟩ (fun a=>⟨rfl,rfl,rfl,rfl,rfl,rfl,rfl,rfl⟩) (fun a b=>?_)
  |refine GX.o (res:=z01) (meF:=Sx) b ?_;exact GX.mk (z08 yl_l yl_T _) (LeX.a [(250000,33000001),(250001,33000003)]) rfl _ rfl (by repeat' first|exact Sub.nil _|exact Sub.refl _|refine Sub.agg ?_|refine Sub.tup ?_|refine Sub.fn ?_|exact SubL.nil|refine SubL.cons ?_ ?_|refine Sub.sl _ ?_|exact SubE.nil|refine SubE.cons ?_ ?_) [100000,100001] ⟨Or.inl ⟨0,0,8,_,_,_,_,_,_,rfl,rfl,rfl,rfl,rfl⟩,⟨Or.inl ⟨0,0,9,_,_,_,_,_,_,rfl,rfl,rfl,rfl,rfl⟩,trivial⟩⟩ rfl
  |exact ⟨_,b,LeX.a []⟩
  |refine YldX.oM (Bj 63 b) [(100000,100000),(200000,33000001),(100001,100001),(200001,33000003)] [(100000,100000),(250000,64000001),(100001,100001),(250001,64000003)] _ _ _ K7 (fun _=>AV.bool true) [33000001,33000003] (fun a h=>e h) rfl rfl rfl rfl rfl ⟨⟨rfl,rfl⟩,⟨⟨rfl,rfl⟩,⟨⟨rfl,rfl⟩,⟨⟨rfl,rfl⟩,trivial⟩⟩⟩⟩ (fun a=>⟨rfl,rfl,rfl,rfl,rfl,rfl,rfl,rfl⟩) (fun a b=>?_)
  |exact ⟨_,b,LeX.a [(33000001,64000001),(33000003,64000003)]⟩
  |refine z0u b (LeX.a []) (fun m v b=>?_);unfold Ho at b
  |refine GX.o (res:=z01) (meF:=Sx) b ?_;exact GX.mk (z08 yl_l yl_T _) (LeX.a [(250000,200000),(250001,200001)]) rfl _ rfl (by repeat' first|exact Sub.nil _|exact Sub.refl _|refine Sub.agg ?_|refine Sub.tup ?_|refine Sub.fn ?_|exact SubL.nil|refine SubL.cons ?_ ?_|refine Sub.sl _ ?_|exact SubE.nil|refine SubE.cons ?_ ?_) [100000,100001] ⟨Or.inl ⟨0,0,8,_,_,_,_,_,_,rfl,rfl,rfl,rfl,rfl⟩,⟨Or.inl ⟨0,0,9,_,_,_,_,_,_,rfl,rfl,rfl,rfl,rfl⟩,trivial⟩⟩ rfl
  |refine YldX.oM (Bj 63 b) [(100000,100000),(200000,200000),(100001,100001),(200001,200001)] [(100000,100000),(250000,64000001),(100001,100001),(250001,64000003)] _ _ _ K7 (fun _=>AV.bool true) [200000,200001] (fun a h=>e h) rfl rfl rfl rfl rfl ⟨⟨rfl,rfl⟩,⟨⟨rfl,rfl⟩,⟨⟨rfl,rfl⟩,⟨⟨rfl,rfl⟩,trivial⟩⟩⟩⟩ (fun a=>⟨rfl,rfl,rfl,rfl,rfl,rfl,rfl,rfl⟩) (fun a b=>?_)
  |exact ⟨_,b,LeX.a [(200000,64000001),(200001,64000003)]⟩
  |refine z0t b (LeX.a []) (fun m v b=>?_);unfold Hn at b
  |refine AndA ?_
instance zoz {n b a}:CI E0 (Ra n b a) true 130 [Ap b,Ap a,.ref [.fn 92 []]] (fun r=>.bool (r)):=by unfold Ra;exact CI.w [] Tryz.func130
def z3s (a:(List Ab)):List (Nat×Ent):=[(200000,.row 44 1 (a.map Ap))]
def T3 (r:(List Ab)):List (Nat×Ent):=[(260000,.row 44 1 (r.map Ap))]
def Wv (r:(List Ab)):AV:=.row 260000
def z0l (r:(List Ab)):AS:=⟨[(4,.row 260000)],T3 r⟩
theorem z1q {n c r}(b:T8 n c=some r):ConG E0.P none (CalF E0.P 129 0) [.row 200000,.fn 130 [.ref [.fn 92 []]]] [] (z3s c) (Wv r) (T3 r):=by
 unfold T8 at b;refine ConG.walk (E:=(E0p 2)) (caps:=[]) _ Tryz.func129 rfl rfl rfl rfl rfl ?_;repeat' first
  |refine AW.step ?_;conv=>whnf
  |refine A9.o b (fun b=>?_) fun b=>?_
  |exact GX.A (res:=Wv) (meF:=T3) b z0l (h1:=LeX.a [(260000,200000)])
  |refine NatX.o b (fun m b=>?_)
  |refine EltX.o Ap b (fun x b=>?_)
  |refine Ad.I b fun a b=>?_
  |refine OpX.sub b rfl rfl rfl rfl rfl rfl rfl rfl rfl rfl (fun m b=>?_)
  |refine OpX.clr Ap b rfl rfl rfl rfl rfl rfl rfl rfl rfl rfl rfl (by first|exact SubL.refl _|(repeat' first|exact SubL.nil|refine SubL.cons ?_ ?_|exact Sub.refl _|exact Sub.nil _|refine Sub.agg ?_)) (fun l b=>?_)
  |refine SlsX.o Ap b (fun l b=>?_)
  |exact GX.A (res:=Wv) (meF:=T3) b z0l (h1:=LeX.a [(260000,64)])
  |refine OpX.lns b rfl rfl rfl rfl rfl rfl rfl (fun b=>?_)
  |refine OpX.ixs b rfl rfl rfl rfl rfl rfl rfl rfl rfl rfl (fun m b=>?_)
  |refine SetX.o Ap b (fun x=>rfl) (fun x=>(by first|exact SubL.refl _|(repeat' first|exact SubL.nil|refine SubL.cons ?_ ?_|exact Sub.refl _|exact Sub.nil _|refine Sub.agg ?_))) (fun l b=>?_)
  |exact ⟨_,b,LeX.a []⟩
  |refine Ax.I b (LeX.a []) fun m v b=>?_
  |refine AndA ?_
  |refine EqX.A ?_
def zbj (a:(List Ab)):List (Nat×Ent):=[(200000,.row 44 1 (a.map Ap))]
def V2 (r:(List Ab)):List (Nat×Ent):=[(260000,.row 44 1 (r.map Ap))]
def Xw (r:(List Ab)):AV:=.row 260000
def zbh (r:(List Ab)):AS:=⟨[(4,.row 260000)],V2 r⟩
theorem z1r {n c r}(b:Mc n c=some r):ConG E0.P none (CalF E0.P 91 0) [.row 200000,.fn 92 []] [] (zbj c) (Xw r) (V2 r):=by
 unfold Mc at b;refine ConG.walk (E:=(E0p 2)) (caps:=[]) _ Tryz.func91 rfl rfl rfl rfl rfl ?_;repeat' first
  |refine AW.frbO b 3 rfl rfl (fun b=>?_)
  |refine AW.regO b fun b=>?_
  |refine AW.stepU [2] ?_;conv=>whnf
  |refine B7.oI b 200000 (fun r=>r) Ap (fun _=>AV.tup []) rfl (fun a h=>(ConC.env rfl (zs0 h))) rfl rfl rfl (fun a b=>?_)
  |refine B7.oM (Bj 10 b) [(200000,200000)] [(260000,11000000)] _ _ T3 Wv [200000] (fun a h=>ConG.up (z1q h)) (Aw Tryz.func129 rfl rfl) rfl rfl rfl ⟨⟨rfl,rfl⟩,trivial⟩ (fun a=>⟨rfl,rfl,rfl,rfl,rfl,rfl,rfl,rfl⟩) (fun a b=>?_)
  |exact GX.A (res:=Xw) (meF:=V2) b zbh (h1:=LeX.a [(260000,11000000)])
instance zil {n c e d}:CI E0 (Im n c e d) false 85 [.ref [aI c.fa.fVars,aI c.fa.fScopes,.sl 1 (c.fa.fStates.map Bb),.sl 17 (c.fa.fEdges.map B5),.mapv (List.map (encM Bf A7) (c.fheld))],.sl 3 (e.map A4),A7 d] (fun r=>.tup [.sl 3 (r.1.map A4),.sl 1 (r.2.map Ap)]):=⟨fun {r} b=>by
 unfold Im at b;refine Con.walkM (E:=E0r) _ Tryz.func85 rfl (Aw Tryz.func85 rfl rfl) rfl (Or.inl rfl) ?_ rfl rfl rfl;repeat' first
  |refine AW.step ?_;conv=>whnf
  |refine A9.o b (fun b=>?_) fun b=>?_
  |refine B7.oM (Bj 39 b) [(200000,811000001)] [(260000,40000000)] _ _ Vn Y5 [811000001] (fun a h=>ConG.up (z9w h)) (Aw Tryz.func121 rfl rfl) rfl rfl rfl ⟨⟨rfl,rfl⟩,trivial⟩ (fun a=>⟨rfl,rfl,rfl,rfl,rfl,rfl,rfl,rfl⟩) (fun a b=>?_)
  |refine B7.oM (Bj 41 b) [(200000,811000003)] [(260000,42000000)] _ _ V2 Xw [811000003] (fun a h=>ConG.up (z1r h)) (Aw Tryz.func91 rfl rfl) rfl rfl rfl ⟨⟨rfl,rfl⟩,trivial⟩ (fun a=>⟨rfl,rfl,rfl,rfl,rfl,rfl,rfl,rfl⟩) (fun a b=>?_)
  |refine IdxX.A b fun x b=>?_
  |refine Ad.oM (Bj 22 b) [] [(3,23000000),(4,23000001),(5,23000002)] _ _ X3 z09 [] (fun a h=>ConG.up (z6c h)) (Aw Tryz.func120 rfl rfl) rfl rfl rfl trivial (fun a=>⟨rfl,rfl,rfl,rfl,rfl,rfl,rfl,rfl⟩) (fun a b=>?_)
  |refine AppX.oA b fun l b=>?_
  |refine BX.o (meF:=K7) b ?_;exact BX.mk (z0p _) (LeX.a [(250000,200000),(250001,32)]) rfl rfl
  |refine BX.o (meF:=K7) b ?_;exact BX.mk (z0p _) (LeX.a [(250000,36),(250001,200001)]) rfl rfl
  |refine RngX.oM (Bj 810 b) [(100000,8),(100001,9),(100002,23000000),(100003,23000001),(100004,23000002),(200000,811000001),(200001,811000003)] [(100000,8),(250000,811500001),(100001,9),(250001,811500003),(100002,23000000),(100003,23000001),(100004,23000002)] _ _ _ Sx [811000001,811000003] (fun x h l D fn T f=>z14 h l _ T (fun b=>ConG.round (E:=E0p 10) rfl rfl rfl rfl rfl rfl ?_ l D fn T f)) (Aw Tryz.func156 rfl rfl) rfl rfl rfl rfl rfl ⟨⟨rfl,rfl⟩,⟨⟨rfl,rfl⟩,trivial⟩⟩ ⟨⟨rfl,rfl⟩,⟨⟨rfl,rfl⟩,⟨⟨rfl,rfl⟩,⟨⟨rfl,rfl⟩,⟨⟨rfl,rfl⟩,⟨⟨rfl,rfl⟩,⟨⟨rfl,rfl⟩,trivial⟩⟩⟩⟩⟩⟩⟩ (fun a=>⟨rfl,rfl,rfl,rfl,rfl,rfl,rfl,rfl⟩) (fun a b=>?_)
  |exact ⟨_,b,LeX.a [(811000001,811500001),(811000003,811500003)]⟩
  |refine Ax.I b ?_ fun m v b=>?_
  |exact LeX.trans (LeX.adoptC 8 0 811000001 60 3 57 _ rfl rfl rfl) (LeX.trans (LeX.adoptC 9 0 811000003 44 1 50 _ rfl rfl rfl) (LeX.a []))
  |refine AndA ?_
  |exact RetX.oB b⟩
end
noncomputable section
abbrev zc1 {n e d a b}:=li (Ri n e d a b) (fun c=>⟨[(2,.sl 3 (d.map A4)),(7,.ptr 7 0),(11,.ref [aI a.fa.fVars,aI a.fa.fScopes,.sl 1 (a.fa.fStates.map Bb),.sl 17 (a.fa.fEdges.map B5),.mapv (List.map (encM Bf A7) (a.fheld))]),(31,.sl 3 (d.map A4)),(32,aI (((d.map A4).length:Int))),(33,aI c)],[(7,.box 71 (Bu e))]⟩) fun _ _=>Ri.eq_2 ..
abbrev za1 {n a b}:=li (R1 n a b) (fun c=>⟨[(3,.row 7023),(6,.sl 3 (a.map A4)),(7,aI (((a.map A4).length:Int))),(8,aI c.1)],[(7023,.row 60 3 (c.2.map A4))]⟩) fun _ _=>R1.eq_2 ..
abbrev z9a {n a d b}:=li (Xn n a d b) (fun c=>⟨[(1,.sl 5 (a.map A7)),(2,.fn 38 []),(3,.ptr 3 0),(8,.row 7016),(17,.sl 5 (a.map A7)),(18,aI (((a.map A7).length:Int))),(19,aI c.1)],[(3,.box 25 (Ba d)),(7016,.row 57 1 (List.map (fun q=>AV.sl 3 (List.map A4 q)) (c.2)))]⟩) fun _ _=>Xn.eq_2 ..
abbrev zjz {n f a b d c}:=jf (J3 n f a b d c) (fun e=>⟨[(7,.ref [aI a.fa.fVars,aI a.fa.fScopes,.sl 1 (a.fa.fStates.map Bb),.sl 17 (a.fa.fEdges.map B5),.mapv (List.map (encM Bf A7) (a.fheld))]),(10,.row 7058),(13,.sl 3 (c.1.map A4)),(14,.sl 1 (c.2.map Ap)),(26,.sl 5 (f.map A7)),(27,aI (((f.map A7).length:Int))),(28,aI b.2.1),(54,.bool (e))],[(7058,.row 44 1 (b.2.2.map Ap))]⟩) fun _=>J3.eq_1 ..
abbrev zjy {n d a c}:=li (H9 n d a c) (fun b=>⟨[(7,.ref [aI a.fa.fVars,aI a.fa.fScopes,.sl 1 (a.fa.fStates.map Bb),.sl 17 (a.fa.fEdges.map B5),.mapv (List.map (encM Bf A7) (a.fheld))]),(9,.sl 3 (b.1.map A4)),(10,.row 7058),(26,.sl 5 (d.map A7)),(27,aI (((d.map A7).length:Int))),(28,aI b.2.1)],[(7058,.row 44 1 (b.2.2.map Ap))]⟩) fun _ _=>H9.eq_2 ..
abbrev z9g {n c a d}:=li (Qx n c a d) (fun b=>⟨[(1,.fn 152 [.ptr 100000 0]),(16,.sl 8 (a.fArgs.map idA)),(17,aI (((a.fArgs.map idA).length:Int))),(18,aI b.1)],[(100000,.box 212 [.bool (b.2.1),.bool (b.2.2.1),.bool (b.2.2.2.1),.bool (b.2.2.2.2.1),.bool (b.2.2.2.2.2.1),.bool (b.2.2.2.2.2.2.1),.bool (b.2.2.2.2.2.2.2.1),.bool (b.2.2.2.2.2.2.2.2.1),.bool (b.2.2.2.2.2.2.2.2.2.1),.bool (b.2.2.2.2.2.2.2.2.2.2.1),.bool (b.2.2.2.2.2.2.2.2.2.2.2.1),.bool (b.2.2.2.2.2.2.2.2.2.2.2.2.1),.bool (b.2.2.2.2.2.2.2.2.2.2.2.2.2.1),.bool (b.2.2.2.2.2.2.2.2.2.2.2.2.2.2.1),.bool (b.2.2.2.2.2.2.2.2.2.2.2.2.2.2.2.1),.bool (b.2.2.2.2.2.2.2.2.2.2.2.2.2.2.2.2)])]⟩) fun _ _=>Qx.eq_2 ..
abbrev za7 {n a b}:=li (Bp n a b) (fun c=>⟨[(4,.row 7019),(10,.agg [.bool (a.2.1),.bool (a.2.2.1),.bool (a.2.2.2.1),.bool (a.2.2.2.2.1),.bool (a.2.2.2.2.2.1),.bool (a.2.2.2.2.2.2.1),.bool (a.2.2.2.2.2.2.2.1),.bool (a.2.2.2.2.2.2.2.2.1),.bool (a.2.2.2.2.2.2.2.2.2.1),.bool (a.2.2.2.2.2.2.2.2.2.2.1),.bool (a.2.2.2.2.2.2.2.2.2.2.2.1),.bool (a.2.2.2.2.2.2.2.2.2.2.2.2.1),.bool (a.2.2.2.2.2.2.2.2.2.2.2.2.2.1),.bool (a.2.2.2.2.2.2.2.2.2.2.2.2.2.2.1),.bool (a.2.2.2.2.2.2.2.2.2.2.2.2.2.2.2.1),.bool (a.2.2.2.2.2.2.2.2.2.2.2.2.2.2.2.2)]),(11,aI c.1)],[(7019,.row 3 1 (c.2.map aI))]⟩) fun _ _=>Bp.eq_2 ..
abbrev z2i {n m0n a f c d e}:=li (Ob n m0n a f c d e) (fun b=>⟨[(0,aI f),(2,.ptr 100000 0),(9,.sl 8 (a.map idA)),(10,aI (((a.map idA).length:Int))),(11,aI c.1),(16,.sl 1 (d.map aI)),(17,aI (((d.map aI).length:Int))),(18,aI b.1)],[(100000,.box 130 [.cont (m0n) 200000]),(200000,.are 136 (b.2).1 (List.map (enO aI AV.bool) (b.2).2))]⟩) fun _ _=>Ob.eq_2 ..
abbrev z2j {n m0n a d c}:=li (Ju n m0n a d c) (fun b=>⟨[(0,aI d),(2,.ptr 100000 0),(9,.sl 8 (a.map idA)),(10,aI (((a.map idA).length:Int))),(11,aI b.1)],[(100000,.box 130 [.cont (m0n) 200000]),(200000,.are 136 (b.2).1 (List.map (enO aI AV.bool) (b.2).2))]⟩) fun _ _=>Ju.eq_2 ..
attribute [instance] zc1 za1 z9a zjz zjy z9g za7 z2i z2j
instance zwh {n f e d c}:CI E0 (Mt n f e d c) false 71 [Bm f,.sl 5 (e.map A7),.sl 3 (d.map A4),A7 c] (fun r=>.tup [.sl 3 (r.1.map A4),.sl 1 (r.2.1.map Ap),aI r.2.2]):=⟨fun {r} b=>by
 unfold Mt at b;refine cw Tryz.func71 ?_;repeat' first
  |refine AW.jI b (fun v b=>?_) fun b=>?_
  |refine AW.regO b fun b=>?_
  |refine AW.stepU [17] ?_;conv=>whnf
  |refine A9.o b (fun b=>?_) fun b=>?_
  |refine Ad.oP b Ei (fun u=>.tup [.nilp,aI (u.2)]) (fun u y=>.tup [.ref [aI (y.fa.fVars),aI (y.fa.fScopes),.sl 1 (y.fa.fStates.map Bb),.sl 17 (y.fa.fEdges.map B5),.mapv (List.map (encM Bf A7) (y.fheld))],aI (u.2)]) (fun u h=>by simp only [Ei,h,G4]) (fun u y h=>by simp only [Ei,h,G4]) (fun a h=>Y3.h h) (fun a b=>?_) (fun a y b=>?_)
  |(cases b;done)
  |refine Ad.I b fun a b=>?_
  |exact ⟨_,b,LeX.a []⟩
  |refine IdxX.A b fun x b=>?_
  |refine Ax.I b (LeX.a []) fun m v b=>?_
  |exact RetX.oB b⟩
instance zrl {n c}:CI E0 (Rj n c) false 38 [.sl 3 (c.map A4)] (fun r=>.sl 3 (r.map A4)):=⟨fun {r} b=>by
 unfold Rj at b;refine cw Tryz.func38 ?_;repeat' first
  |refine AW.step ?_;conv=>whnf
  |refine A9.o b (fun b=>?_) fun b=>?_
  |refine A9.t ?_
  |refine A9.f ?_
  |refine IdxX.A b fun x b=>?_
  |refine Ad.o b (fun q=>AV.sl 4 (List.map Aq q)) (fun a h=>zp9 h) (fun a b=>?_)
  |refine Ad.o b (fun q=>AV.sl 2 (List.map Ae q)) (fun a h=>zp8 h) (fun a b=>?_)
  |refine AppX.oA b fun l b=>?_
  |exact ⟨_,b,LeX.a [(7023,23)]⟩
  |refine Ax.I b ?_ fun m v b=>?_
  |exact LeX.trans (LeX.adopt 3 7023 60 3 rfl rfl) (LeX.a [])
  |refine AndA ?_
  |refine EqX.A ?_
  |exact RetX.oB b⟩
instance zp2 {n d c}:CI E0 (z10 n d c) false 37 [Bm d,.sl 5 (c.map A7),.fn 38 []] (fun r=>.tup [.sl 1 (List.map (fun q=>AV.sl 3 (List.map A4 q)) (r.1)),aI r.2]):=⟨fun {r} b=>by
 unfold z10 at b;refine Con.env (E:=E0b) rfl rfl ?_;refine Con.walk _ Tryz.func37 rfl (Aw Tryz.func37 rfl rfl) rfl (Or.inl rfl) ?_;repeat' first
  |refine AW.step ?_;conv=>whnf
  |refine A9.o b (fun b=>?_) fun b=>?_
  |refine A9.t ?_
  |refine A9.f ?_
  |refine Ad.I b fun a b=>?_
  |refine OpX.bldS A4 b rfl rfl rfl rfl rfl rfl rfl rfl rfl rfl rfl rfl rfl rfl (fun l b=>?_)
  |refine OpX.bldR (fun q=>AV.sl 3 (List.map A4 q)) b rfl rfl rfl rfl rfl rfl rfl rfl rfl rfl rfl rfl rfl rfl rfl rfl (by first|exact SubR.refl _|(repeat' first|exact SubR.nil|refine SubR.cons ?_ ?_|exact SubL.nil|refine SubL.cons ?_ ?_|exact Sub.refl _|exact Sub.nil _)) rfl (fun l b=>?_)
  |refine OpX.bld (fun q=>AV.sl 3 (List.map A4 q)) b rfl rfl rfl rfl rfl rfl rfl rfl rfl rfl rfl rfl rfl rfl rfl rfl (fun l b=>?_)
  |refine IdxX.A b fun x b=>?_
  |refine SlsX.o A7 b (fun l b=>?_)
  |refine NatX.o b (fun m b=>?_)
  |refine EltX.o (fun q=>AV.sl 3 (List.map A4 q)) b (fun x b=>?_)
  |refine OpX.bldS (fun q=>AV.sl 3 (List.map A4 q)) b rfl rfl rfl rfl rfl rfl rfl rfl rfl rfl rfl rfl rfl rfl (fun l b=>?_)
  |refine AppX.oA b fun l b=>?_
  |exact ⟨_,b,LeX.a [(7016,51)]⟩
  |refine Ax.I b ?_ fun m v b=>?_
  |exact LeX.a [(7016,16)]
  |refine AndA ?_
  |refine EqX.A ?_
  |exact RetX.oB b⟩
instance zn9 {n b a}:CI E0 (z0q n b a) false 13 [Bm b,.sl 5 (a.map A7)] (fun r=>.tup [.agg [.sl 1 (List.map (fun q=>AV.sl 3 (List.map A4 q)) (r.1.fSets))],aI r.2]):=by unfold z0q;exact CI.w [] Tryz.func13
instance y2w {n d c}:CI E0 (Wb n d c) false 56 [Bm d,.sl 5 (c.map A7)] (fun r=>.tup [.sl 3 (r.1.map A4),.sl 1 (r.2.1.map Ap),aI r.2.2]):=⟨fun {r} b=>by
 unfold Wb at b;refine cw Tryz.func56 ?_;repeat' first
  |refine AW.jI b (fun v b=>?_) fun b=>?_
  |refine AW.regO b fun b=>?_
  |refine AW.stepU [10] ?_;conv=>whnf
  |refine A9.o b (fun b=>?_) fun b=>?_
  |refine A9.t ?_
  |refine Ad.oP b Ei (fun u=>.tup [.nilp,aI (u.2)]) (fun u y=>.tup [.ref [aI (y.fa.fVars),aI (y.fa.fScopes),.sl 1 (y.fa.fStates.map Bb),.sl 17 (y.fa.fEdges.map B5),.mapv (List.map (encM Bf A7) (y.fheld))],aI (u.2)]) (fun u h=>by simp only [Ei,h,G4]) (fun u y h=>by simp only [Ei,h,G4]) (fun a h=>Y3.h h) (fun a b=>?_) (fun a y b=>?_)
  |refine Ad.I b fun a b=>?_
  |(cases b;done)
  |refine B7.oM (Bj 62 b) [(200000,7058)] [(260000,63000000)] _ _ V2 Xw [7058] (fun a h=>ConG.up (z1r h)) (Aw Tryz.func91 rfl rfl) rfl rfl rfl ⟨⟨rfl,rfl⟩,trivial⟩ (fun a=>⟨rfl,rfl,rfl,rfl,rfl,rfl,rfl,rfl⟩) (fun a b=>?_)
  |refine IdxX.A b fun x b=>?_
  |refine AppX.oA b fun l b=>?_
  |exact ⟨_,b,LeX.a [(7058,58)]⟩
  |exact ⟨_,b,LeX.a []⟩
  |refine Ax.I b ?_ fun m v b=>?_
  |exact LeX.trans (LeX.adopt 10 7058 44 1 rfl rfl) (LeX.a [])
  |exact RetX.oB b⟩
instance zwg {n b a}:CI E0 (Vj n b a) false 23 [Bm b,.sl 5 (a.map A7)] (fun r=>.tup [.sl 1 (r.1.map Ap),aI r.2]):=by unfold Vj;exact CI.w [] Tryz.func23
def zb0 (b:Ay)(a:B16):List (Nat×Ent):=[(100000,.box 212 [.bool (a.1),.bool (a.2.1),.bool (a.2.2.1),.bool (a.2.2.2.1),.bool (a.2.2.2.2.1),.bool (a.2.2.2.2.2.1),.bool (a.2.2.2.2.2.2.1),.bool (a.2.2.2.2.2.2.2.1),.bool (a.2.2.2.2.2.2.2.2.1),.bool (a.2.2.2.2.2.2.2.2.2.1),.bool (a.2.2.2.2.2.2.2.2.2.2.1),.bool (a.2.2.2.2.2.2.2.2.2.2.2.1),.bool (a.2.2.2.2.2.2.2.2.2.2.2.2.1),.bool (a.2.2.2.2.2.2.2.2.2.2.2.2.2.1),.bool (a.2.2.2.2.2.2.2.2.2.2.2.2.2.2.1),.bool (a.2.2.2.2.2.2.2.2.2.2.2.2.2.2.2)])]
def Uu (r:Int×B16):List (Nat×Ent):=[(100000,.box 212 [.bool (r.2.1),.bool (r.2.2.1),.bool (r.2.2.2.1),.bool (r.2.2.2.2.1),.bool (r.2.2.2.2.2.1),.bool (r.2.2.2.2.2.2.1),.bool (r.2.2.2.2.2.2.2.1),.bool (r.2.2.2.2.2.2.2.2.1),.bool (r.2.2.2.2.2.2.2.2.2.1),.bool (r.2.2.2.2.2.2.2.2.2.2.1),.bool (r.2.2.2.2.2.2.2.2.2.2.2.1),.bool (r.2.2.2.2.2.2.2.2.2.2.2.2.1),.bool (r.2.2.2.2.2.2.2.2.2.2.2.2.2.1),.bool (r.2.2.2.2.2.2.2.2.2.2.2.2.2.2.1),.bool (r.2.2.2.2.2.2.2.2.2.2.2.2.2.2.2.1),.bool (r.2.2.2.2.2.2.2.2.2.2.2.2.2.2.2.2)])]
def Xs (r:Int×(Bool×Bool×Bool×Bool×Bool×Bool×Bool×Bool×Bool×Bool×Bool×Bool×Bool×Bool×Bool×Bool)):AV:=aI (r.1)
def zay (r:Int×B16):AS:=⟨[(3,aI r.1),(1,.ptr 100000 0)],Uu r⟩
theorem z15 {n c d r}(b:Ux n c d=some r):ConG E0.P none (CalF E0.P 152 0) [Ar c,.ptr 100000 0] [] (zb0 c d) (Xs r) (Uu r):=by
 unfold Ux at b;refine ConG.walk (E:=(E0p 2)) (caps:=[]) _ Tryz.func152 rfl rfl rfl rfl rfl ?_;repeat' first
  |refine AW.step ?_;conv=>whnf
  |refine A9.o b (fun b=>?_) fun b=>?_
  |refine A9.t ?_
  |refine A9.f ?_
  |refine Ad.I b fun a b=>?_
  |refine NatX.oS b rfl (fun b=>?_) (fun b=>?_)
  |(cases b;done)
  |exact GX.A (res:=Xs) (meF:=Uu) b zay
  |refine AndA ?_
  |refine EqX.A ?_
def zbk (b:Ay)(a:B16):List (Nat×Ent):=[(100000,.box 212 [.bool (a.1),.bool (a.2.1),.bool (a.2.2.1),.bool (a.2.2.2.1),.bool (a.2.2.2.2.1),.bool (a.2.2.2.2.2.1),.bool (a.2.2.2.2.2.2.1),.bool (a.2.2.2.2.2.2.2.1),.bool (a.2.2.2.2.2.2.2.2.1),.bool (a.2.2.2.2.2.2.2.2.2.1),.bool (a.2.2.2.2.2.2.2.2.2.2.1),.bool (a.2.2.2.2.2.2.2.2.2.2.2.1),.bool (a.2.2.2.2.2.2.2.2.2.2.2.2.1),.bool (a.2.2.2.2.2.2.2.2.2.2.2.2.2.1),.bool (a.2.2.2.2.2.2.2.2.2.2.2.2.2.2.1),.bool (a.2.2.2.2.2.2.2.2.2.2.2.2.2.2.2)])]
def M8 (r:Int×B16):List (Nat×Ent):=[(100000,.box 212 [.bool (r.2.1),.bool (r.2.2.1),.bool (r.2.2.2.1),.bool (r.2.2.2.2.1),.bool (r.2.2.2.2.2.1),.bool (r.2.2.2.2.2.2.1),.bool (r.2.2.2.2.2.2.2.1),.bool (r.2.2.2.2.2.2.2.2.1),.bool (r.2.2.2.2.2.2.2.2.2.1),.bool (r.2.2.2.2.2.2.2.2.2.2.1),.bool (r.2.2.2.2.2.2.2.2.2.2.2.1),.bool (r.2.2.2.2.2.2.2.2.2.2.2.2.1),.bool (r.2.2.2.2.2.2.2.2.2.2.2.2.2.1),.bool (r.2.2.2.2.2.2.2.2.2.2.2.2.2.2.1),.bool (r.2.2.2.2.2.2.2.2.2.2.2.2.2.2.2.1),.bool (r.2.2.2.2.2.2.2.2.2.2.2.2.2.2.2.2)])]
def R7 (r:Int×(Bool×Bool×Bool×Bool×Bool×Bool×Bool×Bool×Bool×Bool×Bool×Bool×Bool×Bool×Bool×Bool)):AV:=aI (r.1)
def zbi (r:Int×B16):AS:=⟨[(4,aI r.1),(1,.fn 152 [.ptr 100000 0])],M8 r⟩
theorem z1t {n c d r}(b:Ix n c d=some r):ConG E0.P none (CalF E0.P 151 0) [Ar c,.fn 152 [.ptr 100000 0]] [] (zbk c d) (R7 r) (M8 r):=by
 induction n generalizing c d r
 case zero=>cases b
 case succ n e =>
 unfold Ix at b;refine ConG.walk (E:=(E0p 2)) (caps:=[]) _ Tryz.func151 rfl rfl rfl rfl rfl ?_;repeat' first
  |refine AW.step ?_;conv=>whnf
  |refine A9.o b (fun b=>?_) fun b=>?_
  |refine A9.t ?_
  |refine A9.f ?_
  |refine B7.oM (Bj 11 b) [(100000,100000)] [(100000,100000)] _ _ Uu Xs [] (fun a h=>ConG.up (z15 h)) (Aw Tryz.func152 rfl rfl) rfl rfl rfl ⟨⟨rfl,rfl⟩,trivial⟩ (fun a=>⟨rfl,rfl,rfl,rfl,rfl,rfl,rfl,rfl⟩) (fun a b=>?_)
  |refine Ad.oM (Bj 11 b) [(100000,100000)] [(100000,100000)] _ _ Uu Xs [] (fun a h=>ConG.up (z15 h)) (Aw Tryz.func152 rfl rfl) rfl rfl rfl ⟨⟨rfl,rfl⟩,trivial⟩ (fun a=>⟨rfl,rfl,rfl,rfl,rfl,rfl,rfl,rfl⟩) (fun a b=>?_)
  |refine GX.o (res:=R7) (meF:=M8) b ?_;exact GX.mk (zbi _) (LeX.a []) rfl _ rfl (by repeat' first|exact Sub.nil _|exact Sub.refl _|refine Sub.agg ?_|refine Sub.tup ?_|refine Sub.fn ?_|exact SubL.nil|refine SubL.cons ?_ ?_|refine Sub.sl _ ?_|exact SubE.nil|refine SubE.cons ?_ ?_) [100000] ⟨Or.inr ⟨1,0,_,_,_,_,_,Nat.le_of_ble_eq_true rfl,rfl,rfl,rfl,rfl,rfl⟩,trivial⟩ rfl
  |refine IdxX.oD b D6 (fun x b=>?_)
  |refine B7.oM (Bj 24 b) [(100000,100000)] [(100000,100000)] _ _ M8 R7 [] (fun a h=>ConG.up (e h)) (Aw Tryz.func151 rfl rfl) rfl rfl rfl ⟨⟨rfl,rfl⟩,trivial⟩ (fun a=>⟨rfl,rfl,rfl,rfl,rfl,rfl,rfl,rfl⟩) (fun a b=>?_)
  |refine Ad.oM (Bj 24 b) [(100000,100000)] [(100000,100000)] _ _ M8 R7 [] (fun a h=>ConG.up (e h)) (Aw Tryz.func151 rfl rfl) rfl rfl rfl ⟨⟨rfl,rfl⟩,trivial⟩ (fun a=>⟨rfl,rfl,rfl,rfl,rfl,rfl,rfl,rfl⟩) (fun a b=>?_)
  |exact ⟨_,b,LeX.a []⟩
  |refine Ax.I b (LeX.a []) fun m v b=>?_
  |refine AndA ?_
  |refine EqX.A ?_
instance zro {n c}:CI E0 (Rk n c) false 112 [Ar c] (fun r=>.sl 1 (r.map aI)):=⟨fun {r} b=>by
 unfold Rk at b;refine cw Tryz.func112 ?_;repeat' first
  |refine AW.regO b fun b=>?_
  |refine AW.stepU [7] ?_;conv=>whnf
  |refine A9.o b (fun b=>?_) fun b=>?_
  |refine A9.t ?_
  |refine A9.f ?_
  |refine B7.oM (Bj 9 b) [(100000,3)] [(100000,3)] _ _ M8 R7 [] (fun a h=>ConG.up (z1t h)) (Aw Tryz.func151 rfl rfl) rfl rfl rfl ⟨⟨rfl,rfl⟩,trivial⟩ (fun a=>⟨rfl,rfl,rfl,rfl,rfl,rfl,rfl,rfl⟩) (fun a b=>?_)
  |refine Ad.oM (Bj 9 b) [(100000,3)] [(100000,3)] _ _ M8 R7 [] (fun a h=>ConG.up (z1t h)) (Aw Tryz.func151 rfl rfl) rfl rfl rfl ⟨⟨rfl,rfl⟩,trivial⟩ (fun a=>⟨rfl,rfl,rfl,rfl,rfl,rfl,rfl,rfl⟩) (fun a b=>?_)
  |refine NatX.oS b rfl (fun b=>?_) (fun b=>?_)
  |(cases b;done)
  |refine AppX.oA b fun l b=>?_
  |exact ⟨_,b,LeX.a [(7019,19)]⟩
  |exact ⟨_,b,LeX.a []⟩
  |refine Ax.I b ?_ fun m v b=>?_
  |exact LeX.trans (LeX.adopt 4 7019 3 1 rfl rfl) (LeX.a [])
  |refine AndA ?_
  |refine EqX.A ?_
  |exact RetX.oB b⟩
def z6l (c:Int)(b:(List AV))(m0n:Nat)(a:(Ars (List (Int×Bool)))):List (Nat×Ent):=[(100000,.box 130 [.cont (m0n) 200000]),(200000,.are 136 (a).1 (List.map (enO aI AV.bool) (a).2))]
def Tc (r:Nat×(Ars (List (Int×Bool)))):List (Nat×Ent):=[(100000,.box 130 [.cont (r.1) 270000]),(270000,.are 136 (r.2).1 (List.map (enO aI AV.bool) (r.2).2))]
def Wy (r:Nat×(Ars (List (Int×Bool)))):AV:=.tup []
def z6j (r:Nat×(Ars (List (Int×Bool)))):AS:=⟨[(2,.ptr 100000 0)],Tc r⟩
end
noncomputable section
abbrev z0v {n a m0n f c d e}:=li (Nx n a m0n f c d e) (fun b=>⟨[(0,aI f),(2,.ptr 100000 0),(9,.row 200001),(10,aI (((a.map idA).length:Int))),(11,aI c.1),(16,.sl 1 (d.map aI)),(17,aI (((d.map aI).length:Int))),(18,aI b.1)],[(100000,.box 130 [.cont (m0n) 200000]),(200000,.are 136 (b.2).1 (List.map (enO aI AV.bool) (b.2).2)),(200001,.row 111 8 (a.map idA))]⟩) fun _ _=>Nx.eq_2 ..
abbrev z0w {n a m0n d c}:=li (Jk n a m0n d c) (fun b=>⟨[(0,aI d),(2,.ptr 100000 0),(9,.row 200001),(10,aI (((a.map idA).length:Int))),(11,aI b.1)],[(100000,.box 130 [.cont (m0n) 200000]),(200000,.are 136 (b.2).1 (List.map (enO aI AV.bool) (b.2).2)),(200001,.row 111 8 (a.map idA))]⟩) fun _ _=>Jk.eq_2 ..
abbrev z2h {n b e a d}:=li (Oa n b e a d) (fun c=>⟨[(1,aI e),(2,.ptr 100000 0),(3,.ptr 100001 0),(4,.ptr 100002 0),(23,.sl 1 (a.map aI)),(24,aI (((a.map aI).length:Int))),(25,aI c.1)],[(100000,.box 130 [.cont (c.2.1) 200000]),(100001,.box 175 [.sl 1 (List.map (fun q=>AV.sl 1 (List.map aI q)) (c.2.2.1))]),(100002,.box 177 [.fn 114 [.ptr 100000 0,.ptr 100001 0,.ptr 100002 0]]),(200000,.are 136 (c.2.2.2).1 (List.map (enO aI AV.bool) (c.2.2.2).2))]⟩) fun _ _=>Oa.eq_2 ..
abbrev z52 {n b d e}:=li (Ph n b d e) (fun c=>⟨[(12,.ptr 12 0),(14,.ptr 14 0),(15,aI d.1),(104,.sl 1 (List.map (fun q=>AV.mapv (List.map (encM aI AV.bool) q)) ((aval b)))),(105,aI ((((List.map (fun q=>AV.mapv (List.map (encM aI AV.bool) q)) ((aval b))).length:Nat):Int))),(106,aI d.1),(112,.ptr 112 0)],[(12,.box 130 [.cont (c.1) 7092]),(14,.box 177 [.fn 114 [.ptr 12 0,.ptr 9 0,.ptr 14 0]]),(9,.box 175 [.sl 1 (List.map (fun q=>AV.sl 1 (List.map aI q)) (c.2.1))]),(112,.it (List.map (encM aI AV.bool) (c.2.2.1))),(7092,.are 136 (c.2.2.2).1 (List.map (enO aI AV.bool) (c.2.2.2).2))]⟩) fun _ _=>Ph.eq_2 ..
abbrev z54 {n b d}:=li (Gp n b d) (fun c=>⟨[(12,.ptr 12 0),(14,.ptr 14 0),(104,.sl 1 (List.map (fun q=>AV.mapv (List.map (encM aI AV.bool) q)) ((aval b)))),(105,aI ((((List.map (fun q=>AV.mapv (List.map (encM aI AV.bool) q)) ((aval b))).length:Nat):Int))),(106,aI c.1)],[(12,.box 130 [.cont (c.2.1) 7092]),(14,.box 177 [.fn 114 [.ptr 12 0,.ptr 9 0,.ptr 14 0]]),(9,.box 175 [.sl 1 (List.map (fun q=>AV.sl 1 (List.map aI q)) (c.2.2.1))]),(7092,.are 136 (c.2.2.2).1 (List.map (enO aI AV.bool) (c.2.2.2).2))]⟩) fun _ _=>Gp.eq_2 ..
abbrev z56 {n h c b d f g}:=li (I3 n h c b d f g) (fun e=>⟨[(3,.ptr 3 0),(9,.ptr 9 0),(12,.ptr 12 0),(94,aI (((f:Nat):Int))),(95,aI e.1)],[(3,.box 130 [.cont (c) 7021]),(7021,.are 136 (b).1 (List.map (enO aI AV.bool) (b).2)),(9,.box 175 [.cont (h) 53]),(53,.nest 112 (List.map (enR aI 3 1) (d))),(12,.box 130 [.cont (f) 92]),(92,.are 136 (e.2).1 (List.map (enO aI AV.bool) (e.2).2))]⟩) fun _ _=>I3.eq_2 ..
abbrev z57 {n a d c}:=li (Gq n a d c) (fun b=>⟨[(1,.ptr 1 0),(3,.ptr 3 0),(4,.fn 111 [.ptr 3 0]),(9,.ptr 9 0),(55,.sl 17 (a.fEdges.map B5)),(56,aI (((a.fEdges.map B5).length:Int))),(57,aI b.1)],[(1,.box 25 (Ba a)),(3,.box 130 [.cont (b.2.1) 7021]),(9,.box 175 [.cont (d) 53]),(53,.nest 112 (List.map (enR aI 3 1) (b.2.2.1))),(7021,.are 136 (b.2.2.2).1 (List.map (enO aI AV.bool) (b.2.2.2).2))]⟩) fun _ _=>Gq.eq_2 ..
abbrev z51 {n a c d e}:=li (Pg n a c d e) (fun b=>⟨[(1,.ptr 1 0),(3,.ptr 3 0),(4,.fn 111 [.ptr 3 0]),(5,aI c.1),(24,.sl 1 (a.fStates.map Bb)),(25,aI (((a.fStates.map Bb).length:Int))),(26,aI c.1),(36,.sl 11 (d.fGuards.map Bc)),(37,aI (((d.fGuards.map Bc).length:Int))),(38,aI b.1)],[(1,.box 25 (Ba a)),(3,.box 130 [.cont (b.2.1) 7021]),(7021,.are 136 (b.2.2).1 (List.map (enO aI AV.bool) (b.2.2).2))]⟩) fun _ _=>Pg.eq_2 ..
abbrev z58 {n a c}:=li (Ki n a c) (fun b=>⟨[(1,.ptr 1 0),(3,.ptr 3 0),(4,.fn 111 [.ptr 3 0]),(24,.sl 1 (a.fStates.map Bb)),(25,aI (((a.fStates.map Bb).length:Int))),(26,aI b.1)],[(1,.box 25 (Ba a)),(3,.box 130 [.cont (b.2.1) 7021]),(7021,.are 136 (b.2.2).1 (List.map (enO aI AV.bool) (b.2.2).2))]⟩) fun _ _=>Ki.eq_2 ..
abbrev z1c {n}:=jf (Jn n) (fun b=>⟨[(4,.bool (b))],[]⟩) fun _=>Jn.eq_1 ..
attribute [instance] z0v z0w z2h z52 z54 z56 z57 z51 z58 z1c
theorem z0k {n d c m0n e r}(b:Wz n d c m0n e=some r):ConG E0.P none (CalF E0.P 111 0) [aI d,.sl 8 (c.map idA),.ptr 100000 0] [] (z6l d c m0n e) (Wy r) (Tc r):=by
 unfold Wz at b;refine ConG.walk (E:=(E0p 3)) (caps:=[]) _ Tryz.func111 rfl rfl rfl rfl rfl ?_;repeat' first
  |refine AW.step ?_;conv=>whnf
  |refine A9.o b (fun b=>?_) fun b=>?_
  |refine A9.t ?_
  |refine A9.f ?_
  |exact GX.A (res:=Wy) (meF:=Tc) b z6j (h1:=LeX.a [(270000,200000)])
  |refine IdxX.oD b D6 (fun x b=>?_)
  |refine Ad.I b fun a b=>?_
  |exact ⟨_,b,LeX.a []⟩
  |refine IdxX.A b fun x b=>?_
  |refine OpX.ixc b rfl rfl rfl rfl rfl rfl rfl rfl (fun b=>?_)
  |refine OpX.aob b rfl rfl rfl rfl rfl rfl rfl (fun j b=>?_)
  |refine OpX.aup AV.bool b (Or.inl rfl) rfl rfl rfl rfl rfl rfl rfl rfl rfl (by first|rfl|kernel_rfl) rfl rfl (fun l b=>?_)
  |refine Ax.I b (LeX.a []) fun m v b=>?_
  |refine AndA ?_
  |refine EqX.A ?_
set_option maxHeartbeats 400000 in
theorem zms (l:List (Cel 8))(S:Nat->Prop)(v:Value)(w:World)(h:Sl w S 8 encC v l)(d:l.length<=1000000000) :
  Calls Tryz.prog 113 #[v] w (Jg 111 8 encC l w):=by
 have eok:EOk Tryz.prog 107 111 8 88 (encC (n:=8)):=eokC (sz:=8) (De 107 _ rfl) rfl (De 111 _ rfl) (by omega) rfl;obtain ⟨A,c,rfl,f,_⟩:=h.form;have a:=fun (W:World)=>Lib.run_eql_slice_nil W 107 111 A l.length c 0 0 Tryz.underlying107
 have H:=hide h;cases A with
 |none =>
  have g:l=[]:=h.none_nil;subst g;clear h H d f;simp only [length_nil,Option.isNone_none] at a ⊢
  go_enter Tryz.func113,Tryz.ntmps113
  go_wp2
  go_ret
  exact ⟨none,0,rfl,Own.nil_,by go_grown⟩
 |some ad =>
  clear h
  go_enter Tryz.func113,Tryz.ntmps113
  go_wp2_with (at_builtin;refine Iy rfl _ _ rfl eok rfl Own.made_ rfl (H.out.alloc _) (by simp;omega) (by omega) (by simp) ?_;intro A' i w1 b e _)
  go_ret
  exact ⟨A',i,rfl,b,(Own.made_ (sz:=8) (enc:=encC (n:=8))).grown ((Below.refl _ _).alloc (Nat.le_refl _) _) (Nat.le_refl _) (by simp) e⟩
theorem zaw {n a r}(b:Ce n a=some r):ConT E0 113 [.sl 8 (List.map idA a)] 111 8 (List.map idA r) (.row 0):=N4 rfl (Aw Tryz.func113 rfl rfl) zms b
def z1h (c:Int)(m0n:Nat)(a:(Ars (List (Int×Bool))))(b:(List AV)):List (Nat×Ent):=[(100000,.box 130 [.cont (m0n) 200000]),(200000,.are 136 (a).1 (List.map (enO aI AV.bool) (a).2)),(200001,.row 111 8 (b.map idA))]
def Sy (r:Nat×(Ars (List (Int×Bool)))):List (Nat×Ent):=[(100000,.box 130 [.cont (r.1) 270000]),(270000,.are 136 (r.2).1 (List.map (enO aI AV.bool) (r.2).2))]
def Wq (r:Nat×(Ars (List (Int×Bool)))):AV:=.tup []
def z1e (r:Nat×(Ars (List (Int×Bool)))):AS:=⟨[(2,.ptr 100000 0)],Sy r⟩
theorem z04 {n c m0n e d r}(b:Ws n c m0n e d=some r):ConG E0.P none (CalF E0.P 111 0) [aI c,.row 200001,.ptr 100000 0] [] (z1h c m0n e d) (Wq r) (Sy r):=by
 unfold Ws at b;refine ConG.walk (E:=(E0p 3)) (caps:=[]) _ Tryz.func111 rfl rfl rfl rfl rfl ?_;repeat' first
  |refine AW.step ?_;conv=>whnf
  |refine A9.o b (fun b=>?_) fun b=>?_
  |refine A9.t ?_
  |refine A9.f ?_
  |exact GX.A (res:=Wq) (meF:=Sy) b z1e (h1:=LeX.a [(270000,200000)])
  |refine NatX.o b (fun m b=>?_)
  |refine EltX.oD b D6 (fun x b=>?_)
  |refine Ad.I b fun a b=>?_
  |exact ⟨_,b,LeX.a []⟩
  |refine IdxX.A b fun x b=>?_
  |refine OpX.ixc b rfl rfl rfl rfl rfl rfl rfl rfl (fun b=>?_)
  |refine OpX.aob b rfl rfl rfl rfl rfl rfl rfl (fun j b=>?_)
  |refine OpX.aup AV.bool b (Or.inl rfl) rfl rfl rfl rfl rfl rfl rfl rfl rfl (by first|rfl|kernel_rfl) rfl rfl (fun l b=>?_)
  |refine Ax.I b (LeX.a []) fun m v b=>?_
  |refine AndA ?_
  |refine EqX.A ?_
theorem y4y (a b:Int):eqK (aI a) (aI b)=some (decide (a=b)):=by simp [eqK,eq1,aI,N5]
def z6k (d:Int)(c:Int)(m0n:Nat)(a:(Ars (List (Int×Bool))))(b:(List (List Int))):List (Nat×Ent):=[(100000,.box 130 [.cont (m0n) 200000]),(200000,.are 136 (a).1 (List.map (enO aI AV.bool) (a).2)),(100001,.box 175 [.sl 1 (List.map (fun q=>AV.sl 1 (List.map aI q)) (b))]),(100002,.box 177 [.fn 114 [.ptr 100000 0,.ptr 100001 0,.ptr 100002 0]])]
def Kj (r:Nat×(Ars (List (Int×Bool)))×(List (List Int))):List (Nat×Ent):=[(100000,.box 130 [.cont (r.1) 270000]),(270000,.are 136 (r.2.1).1 (List.map (enO aI AV.bool) (r.2.1).2)),(100001,.box 175 [.sl 1 (List.map (fun q=>AV.sl 1 (List.map aI q)) (r.2.2))]),(100002,.box 177 [.fn 114 [.ptr 100000 0,.ptr 100001 0,.ptr 100002 0]])]
def Pj (r:Nat×(Ars (List (Int×Bool)))×(List (List Int))):AV:=.tup []
def z6i (r:Nat×(Ars (List (Int×Bool)))×(List (List Int))):AS:=⟨[(2,.ptr 100000 0),(3,.ptr 100001 0),(4,.ptr 100002 0)],Kj r⟩
theorem z0j {n e d m0n g f r}(c:I9 n e d m0n g f=some r):ConG E0.P none (CalF E0.P 114 0) [aI e,aI d,.ptr 100000 0,.ptr 100001 0,.ptr 100002 0] [] (z6k e d m0n g f) (Pj r) (Kj r):=by
 induction n generalizing e d m0n g f r
 case zero=>cases c
 case succ n i =>
 unfold I9 at c;refine ConG.walk (E:=(E0p 5)) (caps:=[]) _ Tryz.func114 rfl rfl rfl rfl rfl ?_;repeat' first
  |refine AW.step ?_;conv=>whnf
  |refine A9.o c (fun c=>?_) fun c=>?_
  |refine A9.t ?_
  |refine A9.f ?_
  |refine OpX.ixc c rfl rfl rfl rfl rfl rfl rfl rfl (fun c=>?_)
  |refine OpX.aob c rfl rfl rfl rfl rfl rfl rfl (fun j c=>?_)
  |refine OpX.alk aI AV.bool c y4y rfl rfl rfl rfl rfl rfl rfl rfl rfl rfl rfl (by first|rfl|kernel_rfl) (by repeat' first|exact Sub.nil _|exact Sub.refl _|refine Sub.agg ?_|refine Sub.tup ?_|refine Sub.fn ?_|exact SubL.nil|refine SubL.cons ?_ ?_|refine Sub.sl _ ?_|exact SubE.nil|refine SubE.cons ?_ ?_) (fun v b c=>?_)
  |exact GX.A (res:=Pj) (meF:=Kj) c z6i (h1:=LeX.a [(270000,200000)])
  |refine OpX.aup AV.bool c (Or.inl rfl) rfl rfl rfl rfl rfl rfl rfl rfl rfl (by first|rfl|kernel_rfl) rfl rfl (fun l c=>?_)
  |refine IdxX.o (fun q=>AV.sl 1 (List.map aI q)) c fun x c=>?_
  |refine IdxX.A c fun x c=>?_
  |refine B7.oM (Bj 32 c) [(100000,100000),(100001,100001),(100002,100002),(200000,200000)] [(100000,100000),(270000,33000001),(100001,100001),(100002,100002)] _ _ Kj Pj [200000] (fun a h=>ConG.up (i h)) (Aw Tryz.func114 rfl rfl) rfl rfl rfl ⟨⟨rfl,rfl⟩,⟨⟨rfl,rfl⟩,⟨⟨rfl,rfl⟩,⟨⟨rfl,rfl⟩,trivial⟩⟩⟩⟩ (fun a=>⟨rfl,rfl,rfl,rfl,rfl,rfl,rfl,rfl⟩) (fun a c=>?_)
  |refine Ad.oM (Bj 32 c) [(100000,100000),(100001,100001),(100002,100002),(200000,200000)] [(100000,100000),(270000,33000001),(100001,100001),(100002,100002)] _ _ Kj Pj [200000] (fun a h=>ConG.up (i h)) (Aw Tryz.func114 rfl rfl) rfl rfl rfl ⟨⟨rfl,rfl⟩,⟨⟨rfl,rfl⟩,⟨⟨rfl,rfl⟩,⟨⟨rfl,rfl⟩,trivial⟩⟩⟩⟩ (fun a=>⟨rfl,rfl,rfl,rfl,rfl,rfl,rfl,rfl⟩) (fun a c=>?_)
  |exact ⟨_,c,LeX.a [(200000,33000001)]⟩
  |refine Ax.I c (LeX.a []) fun m v c=>?_
  |refine AndA ?_
  |refine EqX.A ?_
instance zim {n c}:CI E0 (U0 n c) false 76 [Bm c] (fun r=>.sl 1 (List.map (fun q=>AV.mapv (List.map (encM aI AV.bool) q)) (r))):=⟨fun {r} b=>by
 unfold U0 at b;refine cw Tryz.func76 ?_;repeat' first
  |refine AW.areO aI AV.bool b 21 rfl (fun b=>?_)
  |refine AW.nstO (er:=aI) 3 1 b 53 rfl (fun b=>?_)
  |refine AW.areO aI AV.bool b 92 rfl (fun b=>?_)
  |refine AW.frrO (ety:=3) (sz:=1) aI b 53 rfl (fun b=>?_)
  |refine AW.frcO aI AV.bool b 7021 rfl (fun b=>?_)
  |refine AW.frcO aI AV.bool b 7092 rfl (fun b=>?_)
  |refine AW.pckO (encM aI AV.bool) b 112 rfl (fun x s b=>?_)
  |refine AW.regO b fun b=>?_
  |refine AW.frzO b 53 rfl (fun b=>?_)
  |refine AW.frzO b 7021 rfl (fun b=>?_)
  |refine AW.frzO b 7092 rfl (fun b=>?_)
  |refine AW.stepU [28,29,37,18,34,22,14,2] ?_;conv=>whnf
  |refine A9.o b (fun b=>?_) fun b=>?_
  |refine A9.t ?_
  |refine A9.f ?_
  |refine MakX.om b (fun m b=>?_)
  |refine MakX.on b (fun m b=>?_)
  |refine OpX.lnc rfl rfl rfl rfl rfl rfl ?_
  |refine IdxX.o (fun q=>AV.mapv (List.map (encM aI AV.bool) q)) b fun x b=>?_
  |refine OpX.rng rfl rfl rfl rfl rfl rfl rfl rfl ?_
  |exact ⟨_,b,LeX.a []⟩
  |refine OpX.nxt (encM aI AV.bool) b rfl rfl rfl rfl rfl (fun b=>?_) (fun b=>?_)
  |refine OpX.ent rfl rfl rfl rfl rfl ?_
  |refine B7.oM (Bj 120 b) [(100000,12),(100001,9),(100002,14),(200000,7092)] [(100000,12),(270000,121000001),(100001,9),(100002,14)] _ _ Kj Pj [7092] (fun a h=>ConG.up (z0j h)) (Aw Tryz.func114 rfl rfl) rfl rfl rfl ⟨⟨rfl,rfl⟩,⟨⟨rfl,rfl⟩,⟨⟨rfl,rfl⟩,⟨⟨rfl,rfl⟩,trivial⟩⟩⟩⟩ (fun a=>⟨rfl,rfl,rfl,rfl,rfl,rfl,rfl,rfl⟩) (fun a b=>?_)
  |refine Ad.oM (Bj 120 b) [(100000,12),(100001,9),(100002,14),(200000,7092)] [(100000,12),(270000,121000001),(100001,9),(100002,14)] _ _ Kj Pj [7092] (fun a h=>ConG.up (z0j h)) (Aw Tryz.func114 rfl rfl) rfl rfl rfl ⟨⟨rfl,rfl⟩,⟨⟨rfl,rfl⟩,⟨⟨rfl,rfl⟩,⟨⟨rfl,rfl⟩,trivial⟩⟩⟩⟩ (fun a=>⟨rfl,rfl,rfl,rfl,rfl,rfl,rfl,rfl⟩) (fun a b=>?_)
  |exact ⟨_,b,LeX.trans (LeX.itc 112 rfl) (LeX.a [(7092,121000001)])⟩
  |refine Ax.I b ?_ fun m v b=>?_
  |exact LeX.a []
  |exact LeX.a [(7092,92)]
  |refine OpX.ixc b rfl rfl rfl rfl rfl rfl rfl rfl (fun b=>?_)
  |refine OpX.ast aI AV.bool b rfl rfl rfl rfl rfl rfl rfl rfl rfl rfl rfl (fun m b=>?_)
  |refine IdxX.A b fun x b=>?_
  |refine Ad.oR b (fun r=>r) idA (fun _=>AV.row 0) rfl (fun a h=>zaw h) (fun a b=>?_)
  |refine Ad.oR b (fun r=>r) idA (fun _=>AV.row 0) rfl (fun a h=>ConT.sub (by repeat' first|exact Sub.nil _|exact Sub.refl _|refine Sub.agg ?_|refine Sub.tup ?_|refine Sub.fn ?_|exact SubL.nil|refine SubL.cons ?_ ?_|refine Sub.sl _ ?_|exact SubE.nil|refine SubE.cons ?_ ?_) (zaw h)) (fun a b=>?_)
  |refine AppX.oA b fun l b=>?_
  |refine B7.oM (Bj 71 b) [(100000,3),(200001,70),(200000,7021)] [(100000,3),(270000,72000001)] _ _ Sy Wq [70,7021] (fun a h=>ConG.up (z04 h)) (Aw Tryz.func111 rfl rfl) rfl rfl rfl ⟨⟨rfl,rfl⟩,⟨⟨rfl,rfl⟩,⟨⟨rfl,rfl⟩,trivial⟩⟩⟩ (fun a=>⟨rfl,rfl,rfl,rfl,rfl,rfl,rfl,rfl⟩) (fun a b=>?_)
  |refine Ad.oM (Bj 71 b) [(100000,3),(200001,70),(200000,7021)] [(100000,3),(270000,72000001)] _ _ Sy Wq [70,7021] (fun a h=>ConG.up (z04 h)) (Aw Tryz.func111 rfl rfl) rfl rfl rfl ⟨⟨rfl,rfl⟩,⟨⟨rfl,rfl⟩,⟨⟨rfl,rfl⟩,trivial⟩⟩⟩ (fun a=>⟨rfl,rfl,rfl,rfl,rfl,rfl,rfl,rfl⟩) (fun a b=>?_)
  |refine OpX.ntk aI b rfl rfl rfl rfl rfl rfl rfl rfl rfl rfl (fun q b=>?_)
  |refine OpX.npt aI b rfl rfl rfl rfl rfl rfl rfl rfl rfl rfl rfl (fun l b=>?_)
  |exact ⟨_,b,LeX.a [(7021,72000001)]⟩
  |refine B7.oM (Bj 47 b) [(100000,3),(200000,7021)] [(100000,3),(270000,48000001)] _ _ Tc Wy [7021] (fun a h=>ConG.up (z0k h)) (Aw Tryz.func111 rfl rfl) rfl rfl rfl ⟨⟨rfl,rfl⟩,⟨⟨rfl,rfl⟩,trivial⟩⟩ (fun a=>⟨rfl,rfl,rfl,rfl,rfl,rfl,rfl,rfl⟩) (fun a b=>?_)
  |refine Ad.oM (Bj 47 b) [(100000,3),(200000,7021)] [(100000,3),(270000,48000001)] _ _ Tc Wy [7021] (fun a h=>ConG.up (z0k h)) (Aw Tryz.func111 rfl rfl) rfl rfl rfl ⟨⟨rfl,rfl⟩,⟨⟨rfl,rfl⟩,trivial⟩⟩ (fun a=>⟨rfl,rfl,rfl,rfl,rfl,rfl,rfl,rfl⟩) (fun a b=>?_)
  |exact ⟨_,b,LeX.a [(7021,48000001)]⟩
  |exact LeX.a [(7021,21)]
  |refine AndA ?_
  |refine EqX.A ?_
  |exact RetX.oB b⟩
def z93 (a:Ak):List (Nat×Ent):=[]
def Ll (r:(List (List (Int×Bool)))):List (Nat×Ent):=[(3,.box 130 [.sl 1 (List.map (fun q=>AV.mapv (List.map (encM aI AV.bool) q)) (r))])]
def Qc (r:(List (List (Int×Bool)))):AV:=.fn 77 [.ptr 3 0]
def z8r (r:(List (List (Int×Bool)))):AS:=⟨[(2,.fn 77 [.ptr 3 0])],Ll r⟩
theorem Wx {n c r}(b:Qo n c=some r):ConG E0.P none (CalF E0.P 44 0) [Bm c] [] (z93 c) (Qc r) (Ll r):=by
 unfold Qo at b;refine ConG.walk (E:=(E0p 1)) (caps:=[]) _ Tryz.func44 rfl rfl rfl rfl rfl ?_;repeat' first
  |refine AW.step ?_;conv=>whnf
  |refine A9.o b (fun b=>?_) fun b=>?_
  |refine A9.t ?_
  |refine A9.f ?_
  |refine Ad.I b fun a b=>?_
  |exact GX.A (res:=Qc) (meF:=Ll) b z8r
  |refine AndA ?_
  |refine EqX.A ?_
end
end Go.Proofs.YtidhlpjgifoneaaGreat
