/- What some functions compute, over plain values. -/
import Derived.Test.YtidhlpjgifoneaaGreatK24
set_option linter.unusedVariables false
set_option linter.unusedSimpArgs false
set_option maxRecDepth 100000
set_option maxHeartbeats 8000000
namespace Go.Proofs.YtidhlpjgifoneaaGreat
open Go.RowKit List
noncomputable section
abbrev zis {n d c}:=li (z2t n d c) (fun b=>⟨[(0,.row 200000),(1,.fn 130 [.ref [.fn 92 []]]),(5,aI b.1),(6,.der (.sub 1 (d)) 200000),(7,aI b.2.1)],[(200000,.row 44 1 (b.2.2.map z0d))]⟩) fun _ _=>z2t.eq_2 ..
abbrev zit {n m0 b}:=li (z4g n m0 b) (fun c=>⟨[(0,.row 200000),(1,.fn 130 [.ref [.fn 92 []]]),(5,aI c)],[(200000,.row 44 1 (m0.map z0d))]⟩) fun _ _=>z4g.eq_2 ..
abbrev zmt {n a2 a1 a0 c}:=li (z7t n a2 a1 a0 c) (fun b=>⟨[(0,.ref [aI a0.fa.fVars,aI a0.fa.fScopes,.sl 1 (a0.fa.fStates.map z0q),.sl 17 (a0.fa.fEdges.map z0w),.mapv (List.map (encM z1b z02) (a0.fheld))]),(5,.ptr 5 0),(8,.ptr 8 0),(9,.ptr 9 0),(13,.sl 3 (a1.map z01)),(14,aI (((a1.map z01).length:Int))),(15,aI b.1)],[(5,.box 71 (z16 a2)),(8,.box 57 [.row 811000001]),(9,.box 50 [.row 811000003]),(811000001,.row 60 3 (b.2.1.map z01)),(811000003,.row 44 1 (b.2.2.map z0d))]⟩) fun _ _=>z7t.eq_2 ..
abbrev zwk {n b}:=jf (zc1 n b) (fun c=>⟨[(17,.sl 3 (b.1.map z01)),(18,.sl 1 (b.2.map z0d)),(64,.bool (c))],[]⟩) fun _=>zc1.eq_1 ..
attribute [instance] zis zit zmt zwk
instance y4i {n a0 a1 a2 a3 a4}:CI E0 (za5 n a0 a1 a2 a3 a4) false 160 [.ref [aI a0.fa.fVars,aI a0.fa.fScopes,.sl 1 (a0.fa.fStates.map z0q),.sl 17 (a0.fa.fEdges.map z0w),.mapv (List.map (encM z1b z02) (a0.fheld))],z01 a1,z0w a2,zd2 a3,z02 a4] (fun r=>.tup [z01 r.1,.bool (r.2)]):=⟨fun {r} hF=>by
 unfold za5 at hF
 refine cw Tryz.func160 ?_
 repeat' first
  |refine AW.jI hF (fun v hF=>?_) fun hF=>?_
  |refine AW.regO hF fun hF=>?_
  |refine AW.stepU [1] ?_;conv=>whnf
  |refine z12.o hF (fun hF=>?_) fun hF=>?_
  |refine z12.t ?_
  |refine z1l.oR hF (fun r=>r) z09 zr4 rfl (fun a h=>zzi h) (fun a hF=>?_)
  |refine zak.I hF (fun a hF=>?_) rfl rfl fun _=>Or.inr rfl
  |refine z1l.oR hF (fun r=>r) (fun q=>AV.sl 5 (List.map z02 q)) (fun _=>AV.row 0) rfl (fun a h=>y4r h) (fun a hF=>?_)
  |refine IdxX.o (fun q=>AV.sl 5 (List.map z02 q)) hF fun x hF=>?_
  |refine z1l.oR hF (fun r=>r) z02 (fun _=>AV.row 0) rfl (fun a h=>y4q h) (fun a hF=>?_)
  |refine AppX.oA hF fun l hF=>?_
  |refine NatX.o hF (fun m hF=>?_)
  |refine OpX.str z02 hF rfl rfl rfl rfl rfl rfl rfl rfl rfl rfl rfl (fun l hF=>?_)
  |refine zak.oM (z6d 96 hF) [(100000,7),(200001,52)] [(260000,97000000),(100000,7)] _ _ zd5 zfj [52] (fun a h=>ConG.up (zqm h)) (z0x Tryz.func193 rfl rfl) rfl rfl rfl ⟨⟨rfl,rfl⟩,⟨⟨rfl,rfl⟩,trivial⟩⟩ (fun a=>⟨rfl,rfl,rfl,rfl,rfl,rfl,rfl,rfl⟩) (fun a hF=>?_)
  |refine z1l.oR hF (fun r=>r) z0b (fun _=>AV.row 0) rfl (fun a h=>zw9 h) (fun a hF=>?_)
  |refine z1l.I hF fun a hF=>?_
  |refine IdxX.oD hF z42 (fun x hF=>?_)
  |refine zak.o hF y96 (fun a h=>Con.sub (by repeat' first|exact Sub.nil _|exact Sub.refl _|refine Sub.agg ?_|refine Sub.tup ?_|refine Sub.fn ?_|exact SubL.nil|refine SubL.cons ?_ ?_|refine Sub.sl _ ?_|exact SubE.nil|refine SubE.cons ?_ ?_) (y16.h h)) (fun _=>Or.inr rfl) (fun a hF=>?_)
  |exact ⟨_,hF,LeX.a []⟩
  |refine z7z.I hF (LeX.a []) fun m v hF=>?_
  |refine OpX.nckR rfl rfl rfl rfl ?_
  |refine IdxX.A hF fun x hF=>?_
  |refine AndA ?_
  |exact RetX.oB hF⟩
def zi4 (yl_l:Nat)(yl_T:Array Value)(m4:z03)(m3:z00)(m2:z0m)(x1:z0i)(b:Int×(List z00)×(List z06)):AS:=⟨[(0,.yld yl_l yl_T [.any,.any,.any,.any,.any,.any,.any,.any,.ptr 100000 0,.ptr 100001 0]),(1,.ptr 100002 0),(2,.ptr 100003 0),(3,.ptr 100004 0),(5,.ptr 5 0),(39,.sl 17 (m2.fa.fEdges.map z0w)),(40,aI (((m2.fa.fEdges.map z0w).length:Int))),(41,aI (b.1))],[(100000,.box 57 [.row 33000001]),(100001,.box 50 [.row 33000003]),(100002,.box 137 [.ref [aI (m2.fa.fVars),aI (m2.fa.fScopes),.sl 1 (m2.fa.fStates.map z0q),.sl 17 (m2.fa.fEdges.map z0w),.mapv (List.map (encM z1b z02) (m2.fheld))]]),(100003,.box 60 [aI (m3.fState),.sl 4 (m3.fBindings.map z0b),.sl 2 (m3.fStarts.map z09)]),(100004,.box 71 [aI (m4.fSource),aI (m4.fSeq),aI (m4.fType),aI (m4.fTime),.sl 3 (m4.fValues.map z08)]),(5,.box 220 [.sl 1 (List.map (fun q=>AV.sl 5 (List.map z02 q)) (x1.fVars))]),(33000001,.row 60 3 (b.2.1.map z01)),(33000003,.row 44 1 (b.2.2.map z0d))]⟩
theorem zhz {n yl_l yl_R yl_T m4 m3 m2 x1 b}:ypl (E0y yl_l yl_R 4) 67 (z1n n m4 m3 m2 x1 b) (zi4 yl_l yl_T m4 m3 m2 x1):=LoopA.oT fun _=>rfl
def zi3 (yl_l:Nat)(yl_T:Array Value)(m4:z03)(m3:z00)(m2:z0m)(x1:z0i)(b:Int×(List z00)×(List z06)):AS:=⟨[(0,.yld yl_l yl_T [.any,.any,.any,.any,.any,.any,.any,.any,.ptr 100000 0,.ptr 100001 0]),(1,.ptr 100002 0),(2,.ptr 100003 0),(3,.ptr 100004 0),(5,.ptr 5 0),(39,.sl 17 (m2.fa.fEdges.map z0w)),(40,aI (((m2.fa.fEdges.map z0w).length:Int))),(41,aI (b.1))],[(100000,.box 57 [.row 200000]),(100001,.box 50 [.row 200001]),(100002,.box 137 [.ref [aI (m2.fa.fVars),aI (m2.fa.fScopes),.sl 1 (m2.fa.fStates.map z0q),.sl 17 (m2.fa.fEdges.map z0w),.mapv (List.map (encM z1b z02) (m2.fheld))]]),(100003,.box 60 [aI (m3.fState),.sl 4 (m3.fBindings.map z0b),.sl 2 (m3.fStarts.map z09)]),(100004,.box 71 [aI (m4.fSource),aI (m4.fSeq),aI (m4.fType),aI (m4.fTime),.sl 3 (m4.fValues.map z08)]),(5,.box 220 [.sl 1 (List.map (fun q=>AV.sl 5 (List.map z02 q)) (x1.fVars))]),(200000,.row 60 3 (b.2.1.map z01)),(200001,.row 44 1 (b.2.2.map z0d))]⟩
theorem zhy {n yl_l yl_R yl_T m4 m3 m2 x1 b}:ypl (E0y yl_l yl_R 4) 67 (z1m n m4 m3 m2 x1 b) (zi3 yl_l yl_T m4 m3 m2 x1):=LoopA.oT fun _=>rfl
def zj3 (m0:(List z00))(m1:(List z06))(m2:z0m)(m3:z00)(m4:z03):List (Nat×Ent):=[(100000,.box 57 [.row 200000]),(200000,.row 60 3 (m0.map z01)),(100001,.box 50 [.row 200001]),(200001,.row 44 1 (m1.map z0d)),(100002,.box 137 [.ref [aI m2.fa.fVars,aI m2.fa.fScopes,.sl 1 (m2.fa.fStates.map z0q),.sl 17 (m2.fa.fEdges.map z0w),.mapv (List.map (encM z1b z02) (m2.fheld))]]),(100003,.box 60 (z10 m3)),(100004,.box 71 (z16 m4))]
def z7a (r:(List z00)×(List z06)×z0m×z00×z03):List (Nat×Ent):=[(100000,.box 57 [.row 250000]),(250000,.row 60 3 (r.1.map z01)),(100001,.box 50 [.row 250001]),(250001,.row 44 1 (r.2.1.map z0d)),(100002,.box 137 [.ref [aI r.2.2.1.fa.fVars,aI r.2.2.1.fa.fScopes,.sl 1 (r.2.2.1.fa.fStates.map z0q),.sl 17 (r.2.2.1.fa.fEdges.map z0w),.mapv (List.map (encM z1b z02) (r.2.2.1.fheld))]]),(100003,.box 60 (z10 r.2.2.2.1)),(100004,.box 71 (z16 r.2.2.2.2))]
def zcg (r:(List z00)×(List z06)×z0m×z00×z03):AV:=.tup []
def zg2 (yl_l:Nat)(yl_T:Array Value)(r:(List z00)×(List z06)×z0m×z00×z03):AS:=⟨[(0,.yld yl_l yl_T [.any,.any,.any,.any,.any,.any,.any,.any,.ptr 100000 0,.ptr 100001 0]),(1,.ptr 100002 0),(2,.ptr 100003 0),(3,.ptr 100004 0)],z7a r⟩
theorem zif {n m0 m1 m2 m3 m4 r}(hF:z7d n m0 m1 m2 m3 m4=some r)(yl_l:Nat)(yl_R:Obj)(yl_T:Array Value)(hY:∀ {n:Nat} {a0:z00} {m0:(List z00)} {m1:(List z06)} {r:(List z00)×(List z06)},z7u n a0 m0 m1=some r->ConG E0.P (some (yl_l,yl_R)) (fun vs cs w R=>cs=yl_T->CalY E0.P yl_l vs cs w R) [z01 a0] [.any,.any,.any,.any,.any,.any,.any,.any,.ptr 100000 0,.ptr 100001 0] (zna m0 m1) (.bool true) (z4t r)):ConG E0.P (some (yl_l,yl_R)) (CalF E0.P 156 0) [.yld yl_l yl_T [.any,.any,.any,.any,.any,.any,.any,.any,.ptr 100000 0,.ptr 100001 0],.ptr 100002 0,.ptr 100003 0,.ptr 100004 0] [] (zj3 m0 m1 m2 m3 m4) (zcg r) (z7a r):=by
 unfold z7d at hF
 refine ConG.walk (E:=(E0y yl_l yl_R 4)) (caps:=[]) _ Tryz.func156 rfl rfl rfl rfl rfl ?_
 repeat' first
  |refine AW.step ?_;conv=>whnf
  |refine z12.o hF (fun hF=>?_) fun hF=>?_
  |refine z12.f ?_
  |refine z1l.I hF fun a hF=>?_
  |refine OpX.nckR rfl rfl rfl rfl ?_
  |refine IdxX.A hF fun x hF=>?_
  |refine zak.I hF (fun a hF=>?_) rfl rfl fun _=>Or.inr rfl
  |refine YldX.oM (z6d 32 hF) [(100000,100000),(200000,200000),(100001,100001),(200001,200001)] [(100000,100000),(250000,33000001),(100001,100001),(250001,33000003)] _ _ _ z4t (fun _=>AV.bool true) [200000,200001] (fun a h=>hY h) rfl rfl rfl rfl rfl ⟨⟨rfl,rfl⟩,⟨⟨rfl,rfl⟩,⟨⟨rfl,rfl⟩,⟨⟨rfl,rfl⟩,trivial⟩⟩⟩⟩ (fun a=>⟨rfl,rfl,rfl,rfl,rfl,rfl,rfl,rfl⟩) (fun a hF=>?_)
  |refine GX.o (res:=zcg) (meF:=z7a) hF ?_;exact GX.mk (zg2 yl_l yl_T _) (LeX.a [(250000,33000001),(250001,33000003)]) rfl _ rfl (by repeat' first|exact Sub.nil _|exact Sub.refl _|refine Sub.agg ?_|refine Sub.tup ?_|refine Sub.fn ?_|exact SubL.nil|refine SubL.cons ?_ ?_|refine Sub.sl _ ?_|exact SubE.nil|refine SubE.cons ?_ ?_) [100000,100001] ⟨Or.inl ⟨0,0,8,_,_,_,_,_,_,rfl,rfl,rfl,rfl,rfl⟩,⟨Or.inl ⟨0,0,9,_,_,_,_,_,_,rfl,rfl,rfl,rfl,rfl⟩,trivial⟩⟩ rfl
  |exact ⟨_,hF,LeX.a []⟩
  |refine YldX.oM (z6d 63 hF) [(100000,100000),(200000,33000001),(100001,100001),(200001,33000003)] [(100000,100000),(250000,64000001),(100001,100001),(250001,64000003)] _ _ _ z4t (fun _=>AV.bool true) [33000001,33000003] (fun a h=>hY h) rfl rfl rfl rfl rfl ⟨⟨rfl,rfl⟩,⟨⟨rfl,rfl⟩,⟨⟨rfl,rfl⟩,⟨⟨rfl,rfl⟩,trivial⟩⟩⟩⟩ (fun a=>⟨rfl,rfl,rfl,rfl,rfl,rfl,rfl,rfl⟩) (fun a hF=>?_)
  |exact ⟨_,hF,LeX.a [(33000001,64000001),(33000003,64000003)]⟩
  |refine zhz hF (LeX.a []) (fun m v hF=>?_);unfold z1n at hF
  |refine GX.o (res:=zcg) (meF:=z7a) hF ?_;exact GX.mk (zg2 yl_l yl_T _) (LeX.a [(250000,200000),(250001,200001)]) rfl _ rfl (by repeat' first|exact Sub.nil _|exact Sub.refl _|refine Sub.agg ?_|refine Sub.tup ?_|refine Sub.fn ?_|exact SubL.nil|refine SubL.cons ?_ ?_|refine Sub.sl _ ?_|exact SubE.nil|refine SubE.cons ?_ ?_) [100000,100001] ⟨Or.inl ⟨0,0,8,_,_,_,_,_,_,rfl,rfl,rfl,rfl,rfl⟩,⟨Or.inl ⟨0,0,9,_,_,_,_,_,_,rfl,rfl,rfl,rfl,rfl⟩,trivial⟩⟩ rfl
  |refine YldX.oM (z6d 63 hF) [(100000,100000),(200000,200000),(100001,100001),(200001,200001)] [(100000,100000),(250000,64000001),(100001,100001),(250001,64000003)] _ _ _ z4t (fun _=>AV.bool true) [200000,200001] (fun a h=>hY h) rfl rfl rfl rfl rfl ⟨⟨rfl,rfl⟩,⟨⟨rfl,rfl⟩,⟨⟨rfl,rfl⟩,⟨⟨rfl,rfl⟩,trivial⟩⟩⟩⟩ (fun a=>⟨rfl,rfl,rfl,rfl,rfl,rfl,rfl,rfl⟩) (fun a hF=>?_)
  |exact ⟨_,hF,LeX.a [(200000,64000001),(200001,64000003)]⟩
  |refine zhy hF (LeX.a []) (fun m v hF=>?_);unfold z1m at hF
  |refine AndA ?_
instance yb5 {n a0 a1}:CI E0 (zcu n a0 a1) true 130 [z0d a0,z0d a1,.ref [.fn 92 []]] (fun r=>.bool (r)):=by unfold zcu;exact CI.w [] Tryz.func130
def zlr (m0:(List z06)):List (Nat×Ent):=[(200000,.row 44 1 (m0.map z0d))]
def z9g (r:(List z06)):List (Nat×Ent):=[(260000,.row 44 1 (r.map z0d))]
def zbl (r:(List z06)):AV:=.row 260000
def zh5 (r:(List z06)):AS:=⟨[(4,.row 260000)],z9g r⟩
theorem zjj {n m0 r}(hF:z9k n m0=some r):ConG E0.P none (CalF E0.P 129 0) [.row 200000,.fn 130 [.ref [.fn 92 []]]] [] (zlr m0) (zbl r) (z9g r):=by
 unfold z9k at hF
 refine ConG.walk (E:=(E0p 2)) (caps:=[]) _ Tryz.func129 rfl rfl rfl rfl rfl ?_
 repeat' first
  |refine AW.step ?_;conv=>whnf
  |refine z12.o hF (fun hF=>?_) fun hF=>?_
  |exact GX.A (res:=zbl) (meF:=z9g) hF zh5 (h1:=LeX.a [(260000,200000)])
  |refine NatX.o hF (fun m hF=>?_)
  |refine EltX.o z0d hF (fun x hF=>?_)
  |refine z1l.I hF fun a hF=>?_
  |refine OpX.sub hF rfl rfl rfl rfl rfl rfl rfl rfl rfl rfl (fun m hF=>?_)
  |refine OpX.clr z0d hF rfl rfl rfl rfl rfl rfl rfl rfl rfl rfl rfl (by first|exact SubL.refl _|(repeat' first|exact SubL.nil|refine SubL.cons ?_ ?_|exact Sub.refl _|exact Sub.nil _|refine Sub.agg ?_)) (fun l hF=>?_)
  |refine SlsX.o z0d hF (fun l hF=>?_)
  |exact GX.A (res:=zbl) (meF:=z9g) hF zh5 (h1:=LeX.a [(260000,64)])
  |refine OpX.lns hF rfl rfl rfl rfl rfl rfl rfl (fun hF=>?_)
  |refine OpX.ixs hF rfl rfl rfl rfl rfl rfl rfl rfl rfl rfl (fun m hF=>?_)
  |refine SetX.o z0d hF (fun x=>rfl) (fun x=>(by first|exact SubL.refl _|(repeat' first|exact SubL.nil|refine SubL.cons ?_ ?_|exact Sub.refl _|exact Sub.nil _|refine Sub.agg ?_))) (fun l hF=>?_)
  |exact ⟨_,hF,LeX.a []⟩
  |refine z7z.I hF (LeX.a []) fun m v hF=>?_
  |refine AndA ?_
  |refine EqX.A ?_
def zvn (m0:(List z06)):List (Nat×Ent):=[(200000,.row 44 1 (m0.map z0d))]
def zf4 (r:(List z06)):List (Nat×Ent):=[(260000,.row 44 1 (r.map z0d))]
def zgs (r:(List z06)):AV:=.row 260000
def zvl (r:(List z06)):AS:=⟨[(4,.row 260000)],zf4 r⟩
theorem zjk {n m0 r}(hF:zcv n m0=some r):ConG E0.P none (CalF E0.P 91 0) [.row 200000,.fn 92 []] [] (zvn m0) (zgs r) (zf4 r):=by
 unfold zcv at hF
 refine ConG.walk (E:=(E0p 2)) (caps:=[]) _ Tryz.func91 rfl rfl rfl rfl rfl ?_
 repeat' first
  |refine AW.frbO hF 3 rfl rfl (fun hF=>?_)
  |refine AW.regO hF fun hF=>?_
  |refine AW.stepU [2] ?_;conv=>whnf
  |refine zak.oI hF 200000 (fun r=>r) z0d (fun _=>AV.tup []) rfl (fun a h=>(ConC.env rfl (yeo h))) rfl rfl rfl (fun a hF=>?_)
  |refine zak.oM (z6d 10 hF) [(200000,200000)] [(260000,11000000)] _ _ z9g zbl [200000] (fun a h=>ConG.up (zjj h)) (z0x Tryz.func129 rfl rfl) rfl rfl rfl ⟨⟨rfl,rfl⟩,trivial⟩ (fun a=>⟨rfl,rfl,rfl,rfl,rfl,rfl,rfl,rfl⟩) (fun a hF=>?_)
  |exact GX.A (res:=zgs) (meF:=zf4) hF zvl (h1:=LeX.a [(260000,11000000)])
instance y4j {n a0 a1 a2}:CI E0 (z5d n a0 a1 a2) false 85 [.ref [aI a0.fa.fVars,aI a0.fa.fScopes,.sl 1 (a0.fa.fStates.map z0q),.sl 17 (a0.fa.fEdges.map z0w),.mapv (List.map (encM z1b z02) (a0.fheld))],.sl 3 (a1.map z01),z02 a2] (fun r=>.tup [.sl 3 (r.1.map z01),.sl 1 (r.2.map z0d)]):=⟨fun {r} hF=>by
 unfold z5d at hF
 refine Con.walkM (E:=E0r) _ Tryz.func85 rfl (z0x Tryz.func85 rfl rfl) rfl (Or.inl rfl) ?_ rfl rfl rfl
 repeat' first
  |refine AW.step ?_;conv=>whnf
  |refine z12.o hF (fun hF=>?_) fun hF=>?_
  |refine zak.oM (z6d 39 hF) [(200000,811000001)] [(260000,40000000)] _ _ zig zkv [811000001] (fun a h=>ConG.up (zsv h)) (z0x Tryz.func121 rfl rfl) rfl rfl rfl ⟨⟨rfl,rfl⟩,trivial⟩ (fun a=>⟨rfl,rfl,rfl,rfl,rfl,rfl,rfl,rfl⟩) (fun a hF=>?_)
  |refine zak.oM (z6d 41 hF) [(200000,811000003)] [(260000,42000000)] _ _ zf4 zgs [811000003] (fun a h=>ConG.up (zjk h)) (z0x Tryz.func91 rfl rfl) rfl rfl rfl ⟨⟨rfl,rfl⟩,trivial⟩ (fun a=>⟨rfl,rfl,rfl,rfl,rfl,rfl,rfl,rfl⟩) (fun a hF=>?_)
  |refine IdxX.A hF fun x hF=>?_
  |refine z1l.oM (z6d 22 hF) [] [(3,23000000),(4,23000001),(5,23000002)] _ _ zdw zg8 [] (fun a h=>ConG.up (zoi h)) (z0x Tryz.func120 rfl rfl) rfl rfl rfl trivial (fun a=>⟨rfl,rfl,rfl,rfl,rfl,rfl,rfl,rfl⟩) (fun a hF=>?_)
  |refine AppX.oA hF fun l hF=>?_
  |refine BX.o (meF:=z4t) hF ?_;exact BX.mk (zhh _) (LeX.a [(250000,200000),(250001,32)]) rfl rfl
  |refine BX.o (meF:=z4t) hF ?_;exact BX.mk (zhh _) (LeX.a [(250000,36),(250001,200001)]) rfl rfl
  |refine RngX.oM (z6d 810 hF) [(100000,8),(100001,9),(100002,23000000),(100003,23000001),(100004,23000002),(200000,811000001),(200001,811000003)] [(100000,8),(250000,811500001),(100001,9),(250001,811500003),(100002,23000000),(100003,23000001),(100004,23000002)] _ _ _ z7a [811000001,811000003] (fun x h l D fn T hT=>zif h l _ T (fun hF=>ConG.round (E:=E0p 10) rfl rfl rfl rfl rfl rfl ?_ l D fn T hT)) (z0x Tryz.func156 rfl rfl) rfl rfl rfl rfl rfl ⟨⟨rfl,rfl⟩,⟨⟨rfl,rfl⟩,trivial⟩⟩ ⟨⟨rfl,rfl⟩,⟨⟨rfl,rfl⟩,⟨⟨rfl,rfl⟩,⟨⟨rfl,rfl⟩,⟨⟨rfl,rfl⟩,⟨⟨rfl,rfl⟩,⟨⟨rfl,rfl⟩,trivial⟩⟩⟩⟩⟩⟩⟩ (fun a=>⟨rfl,rfl,rfl,rfl,rfl,rfl,rfl,rfl⟩) (fun a hF=>?_)
  |exact ⟨_,hF,LeX.a [(811000001,811500001),(811000003,811500003)]⟩
  |refine z7z.I hF ?_ fun m v hF=>?_
  |exact LeX.trans (LeX.adoptC 8 0 811000001 60 3 57 _ rfl rfl rfl) (LeX.trans (LeX.adoptC 9 0 811000003 44 1 50 _ rfl rfl rfl) (LeX.a []))
  |refine AndA ?_
  |exact RetX.oB hF⟩
end
noncomputable section
abbrev zwj {n a3 a2 x2 b}:=li (zdu n a3 a2 x2 b) (fun c=>⟨[(2,.sl 3 (a2.map z01)),(7,.ptr 7 0),(11,.ref [aI x2.fa.fVars,aI x2.fa.fScopes,.sl 1 (x2.fa.fStates.map z0q),.sl 17 (x2.fa.fEdges.map z0w),.mapv (List.map (encM z1b z02) (x2.fheld))]),(31,.sl 3 (a2.map z01)),(32,aI (((a2.map z01).length:Int))),(33,aI c)],[(7,.box 71 (z16 a3))]⟩) fun _ _=>zdu.eq_2 ..
abbrev zt3 {n a0 b}:=li (zbd n a0 b) (fun c=>⟨[(3,.row 7023),(6,.sl 3 (a0.map z01)),(7,aI (((a0.map z01).length:Int))),(8,aI c.1)],[(7023,.row 60 3 (c.2.map z01))]⟩) fun _ _=>zbd.eq_2 ..
abbrev zs5 {n a1 a0 b}:=li (zaq n a1 a0 b) (fun c=>⟨[(1,.sl 5 (a1.map z02)),(2,.fn 38 []),(3,.ptr 3 0),(8,.row 7016),(17,.sl 5 (a1.map z02)),(18,aI (((a1.map z02).length:Int))),(19,aI c.1)],[(3,.box 25 (z0g a0)),(7016,.row 57 1 (List.map (fun q=>AV.sl 3 (List.map z01 q)) (c.2)))]⟩) fun _ _=>zaq.eq_2 ..
abbrev y65 {n a1 x2 b d c}:=jf (zgl n a1 x2 b d c) (fun e=>⟨[(7,.ref [aI x2.fa.fVars,aI x2.fa.fScopes,.sl 1 (x2.fa.fStates.map z0q),.sl 17 (x2.fa.fEdges.map z0w),.mapv (List.map (encM z1b z02) (x2.fheld))]),(10,.row 7058),(13,.sl 3 (c.1.map z01)),(14,.sl 1 (c.2.map z0d)),(26,.sl 5 (a1.map z02)),(27,aI (((a1.map z02).length:Int))),(28,aI b.2.1),(54,.bool (e))],[(7058,.row 44 1 (b.2.2.map z0d))]⟩) fun _=>zgl.eq_1 ..
abbrev y64 {n a1 x2 c}:=li (zgk n a1 x2 c) (fun b=>⟨[(7,.ref [aI x2.fa.fVars,aI x2.fa.fScopes,.sl 1 (x2.fa.fStates.map z0q),.sl 17 (x2.fa.fEdges.map z0w),.mapv (List.map (encM z1b z02) (x2.fheld))]),(9,.sl 3 (b.1.map z01)),(10,.row 7058),(26,.sl 5 (a1.map z02)),(27,aI (((a1.map z02).length:Int))),(28,aI b.2.1)],[(7058,.row 44 1 (b.2.2.map z0d))]⟩) fun _ _=>zgk.eq_2 ..
abbrev zsc {n c a0 d}:=li (zas n c a0 d) (fun b=>⟨[(1,.fn 152 [.ptr 100000 0]),(16,.sl 8 (a0.fArgs.map idA)),(17,aI (((a0.fArgs.map idA).length:Int))),(18,aI b.1)],[(100000,.box 212 [.bool (b.2.1),.bool (b.2.2.1),.bool (b.2.2.2.1),.bool (b.2.2.2.2.1),.bool (b.2.2.2.2.2.1),.bool (b.2.2.2.2.2.2.1),.bool (b.2.2.2.2.2.2.2.1),.bool (b.2.2.2.2.2.2.2.2.1),.bool (b.2.2.2.2.2.2.2.2.2.1),.bool (b.2.2.2.2.2.2.2.2.2.2.1),.bool (b.2.2.2.2.2.2.2.2.2.2.2.1),.bool (b.2.2.2.2.2.2.2.2.2.2.2.2.1),.bool (b.2.2.2.2.2.2.2.2.2.2.2.2.2.1),.bool (b.2.2.2.2.2.2.2.2.2.2.2.2.2.2.1),.bool (b.2.2.2.2.2.2.2.2.2.2.2.2.2.2.2.1),.bool (b.2.2.2.2.2.2.2.2.2.2.2.2.2.2.2.2)])]⟩) fun _ _=>zas.eq_2 ..
abbrev ztd {n x1 b}:=li (z0f n x1 b) (fun c=>⟨[(4,.row 7019),(10,.agg [.bool (x1.2.1),.bool (x1.2.2.1),.bool (x1.2.2.2.1),.bool (x1.2.2.2.2.1),.bool (x1.2.2.2.2.2.1),.bool (x1.2.2.2.2.2.2.1),.bool (x1.2.2.2.2.2.2.2.1),.bool (x1.2.2.2.2.2.2.2.2.1),.bool (x1.2.2.2.2.2.2.2.2.2.1),.bool (x1.2.2.2.2.2.2.2.2.2.2.1),.bool (x1.2.2.2.2.2.2.2.2.2.2.2.1),.bool (x1.2.2.2.2.2.2.2.2.2.2.2.2.1),.bool (x1.2.2.2.2.2.2.2.2.2.2.2.2.2.1),.bool (x1.2.2.2.2.2.2.2.2.2.2.2.2.2.2.1),.bool (x1.2.2.2.2.2.2.2.2.2.2.2.2.2.2.2.1),.bool (x1.2.2.2.2.2.2.2.2.2.2.2.2.2.2.2.2)]),(11,aI c.1)],[(7019,.row 3 1 (c.2.map aI))]⟩) fun _ _=>z0f.eq_2 ..
abbrev zkj {n m0n a1 a0 c d e}:=li (z5p n m0n a1 a0 c d e) (fun b=>⟨[(0,aI a0),(2,.ptr 100000 0),(9,.sl 8 (a1.map idA)),(10,aI (((a1.map idA).length:Int))),(11,aI c.1),(16,.sl 1 (d.map aI)),(17,aI (((d.map aI).length:Int))),(18,aI b.1)],[(100000,.box 130 [.cont (m0n) 200000]),(200000,.are 136 (b.2).1 (List.map (enO aI AV.bool) (b.2).2))]⟩) fun _ _=>z5p.eq_2 ..
abbrev zkk {n m0n a1 a0 c}:=li (z3p n m0n a1 a0 c) (fun b=>⟨[(0,aI a0),(2,.ptr 100000 0),(9,.sl 8 (a1.map idA)),(10,aI (((a1.map idA).length:Int))),(11,aI b.1)],[(100000,.box 130 [.cont (m0n) 200000]),(200000,.are 136 (b.2).1 (List.map (enO aI AV.bool) (b.2).2))]⟩) fun _ _=>z3p.eq_2 ..
attribute [instance] zwj zt3 zs5 y65 y64 zsc ztd zkj zkk
instance yj0 {n a0 a1 a2 a3}:CI E0 (zfm n a0 a1 a2 a3) false 71 [z0o a0,.sl 5 (a1.map z02),.sl 3 (a2.map z01),z02 a3] (fun r=>.tup [.sl 3 (r.1.map z01),.sl 1 (r.2.1.map z0d),aI r.2.2]):=⟨fun {r} hF=>by
 unfold zfm at hF
 refine cw Tryz.func71 ?_
 repeat' first
  |refine AW.jI hF (fun v hF=>?_) fun hF=>?_
  |refine AW.regO hF fun hF=>?_
  |refine AW.stepU [17] ?_;conv=>whnf
  |refine z12.o hF (fun hF=>?_) fun hF=>?_
  |refine z1l.oP hF zc0 (fun u=>.tup [.nilp,aI (u.2)]) (fun u y=>.tup [.ref [aI (y.fa.fVars),aI (y.fa.fScopes),.sl 1 (y.fa.fStates.map z0q),.sl 17 (y.fa.fEdges.map z0w),.mapv (List.map (encM z1b z02) (y.fheld))],aI (u.2)]) (fun u h=>by simp only [zc0,h,zbj]) (fun u y h=>by simp only [zc0,h,zbj]) (fun a h=>ziy.h h) (fun a hF=>?_) (fun a y hF=>?_)
  |(cases hF;done)
  |refine z1l.I hF fun a hF=>?_
  |exact ⟨_,hF,LeX.a []⟩
  |refine IdxX.A hF fun x hF=>?_
  |refine z7z.I hF (LeX.a []) fun m v hF=>?_
  |exact RetX.oB hF⟩
instance ye6 {n a0}:CI E0 (zc2 n a0) false 38 [.sl 3 (a0.map z01)] (fun r=>.sl 3 (r.map z01)):=⟨fun {r} hF=>by
 unfold zc2 at hF
 refine cw Tryz.func38 ?_
 repeat' first
  |refine AW.step ?_;conv=>whnf
  |refine z12.o hF (fun hF=>?_) fun hF=>?_
  |refine z12.t ?_
  |refine z12.f ?_
  |refine IdxX.A hF fun x hF=>?_
  |refine z1l.o hF (fun q=>AV.sl 4 (List.map z0b q)) (fun a h=>ybf h) (fun a hF=>?_)
  |refine z1l.o hF (fun q=>AV.sl 2 (List.map z09 q)) (fun a h=>ybe h) (fun a hF=>?_)
  |refine AppX.oA hF fun l hF=>?_
  |exact ⟨_,hF,LeX.a [(7023,23)]⟩
  |refine z7z.I hF ?_ fun m v hF=>?_
  |exact LeX.trans (LeX.adopt 3 7023 60 3 rfl rfl) (LeX.a [])
  |refine AndA ?_
  |refine EqX.A ?_
  |exact RetX.oB hF⟩
instance yb8 {n a0 a1}:CI E0 (zf7 n a0 a1) false 37 [z0o a0,.sl 5 (a1.map z02),.fn 38 []] (fun r=>.tup [.sl 1 (List.map (fun q=>AV.sl 3 (List.map z01 q)) (r.1)),aI r.2]):=⟨fun {r} hF=>by
 unfold zf7 at hF
 refine Con.env (E:=E0b) rfl rfl ?_
 refine Con.walk _ Tryz.func37 rfl (z0x Tryz.func37 rfl rfl) rfl (Or.inl rfl) ?_
 repeat' first
  |refine AW.step ?_;conv=>whnf
  |refine z12.o hF (fun hF=>?_) fun hF=>?_
  |refine z12.t ?_
  |refine z12.f ?_
  |refine z1l.I hF fun a hF=>?_
  |refine OpX.bldS z01 hF rfl rfl rfl rfl rfl rfl rfl rfl rfl rfl rfl rfl rfl rfl (fun l hF=>?_)
  |refine OpX.bldR (fun q=>AV.sl 3 (List.map z01 q)) hF rfl rfl rfl rfl rfl rfl rfl rfl rfl rfl rfl rfl rfl rfl rfl rfl (by first|exact SubR.refl _|(repeat' first|exact SubR.nil|refine SubR.cons ?_ ?_|exact SubL.nil|refine SubL.cons ?_ ?_|exact Sub.refl _|exact Sub.nil _)) rfl (fun l hF=>?_)
  |refine OpX.bld (fun q=>AV.sl 3 (List.map z01 q)) hF rfl rfl rfl rfl rfl rfl rfl rfl rfl rfl rfl rfl rfl rfl rfl rfl (fun l hF=>?_)
  |refine IdxX.A hF fun x hF=>?_
  |refine SlsX.o z02 hF (fun l hF=>?_)
  |refine NatX.o hF (fun m hF=>?_)
  |refine EltX.o (fun q=>AV.sl 3 (List.map z01 q)) hF (fun x hF=>?_)
  |refine OpX.bldS (fun q=>AV.sl 3 (List.map z01 q)) hF rfl rfl rfl rfl rfl rfl rfl rfl rfl rfl rfl rfl rfl rfl (fun l hF=>?_)
  |refine AppX.oA hF fun l hF=>?_
  |exact ⟨_,hF,LeX.a [(7016,51)]⟩
  |refine z7z.I hF ?_ fun m v hF=>?_
  |exact LeX.a [(7016,16)]
  |refine AndA ?_
  |refine EqX.A ?_
  |exact RetX.oB hF⟩
instance y9d {n a0 a1}:CI E0 (zby n a0 a1) false 13 [z0o a0,.sl 5 (a1.map z02)] (fun r=>.tup [.agg [.sl 1 (List.map (fun q=>AV.sl 3 (List.map z01 q)) (r.1.fSets))],aI r.2]):=by unfold zby;exact CI.w [] Tryz.func13
instance ypc {n a0 a1}:CI E0 (zzu n a0 a1) false 56 [z0o a0,.sl 5 (a1.map z02)] (fun r=>.tup [.sl 3 (r.1.map z01),.sl 1 (r.2.1.map z0d),aI r.2.2]):=⟨fun {r} hF=>by
 unfold zzu at hF
 refine cw Tryz.func56 ?_
 repeat' first
  |refine AW.jI hF (fun v hF=>?_) fun hF=>?_
  |refine AW.regO hF fun hF=>?_
  |refine AW.stepU [10] ?_;conv=>whnf
  |refine z12.o hF (fun hF=>?_) fun hF=>?_
  |refine z12.t ?_
  |refine z1l.oP hF zc0 (fun u=>.tup [.nilp,aI (u.2)]) (fun u y=>.tup [.ref [aI (y.fa.fVars),aI (y.fa.fScopes),.sl 1 (y.fa.fStates.map z0q),.sl 17 (y.fa.fEdges.map z0w),.mapv (List.map (encM z1b z02) (y.fheld))],aI (u.2)]) (fun u h=>by simp only [zc0,h,zbj]) (fun u y h=>by simp only [zc0,h,zbj]) (fun a h=>ziy.h h) (fun a hF=>?_) (fun a y hF=>?_)
  |refine z1l.I hF fun a hF=>?_
  |(cases hF;done)
  |refine zak.oM (z6d 62 hF) [(200000,7058)] [(260000,63000000)] _ _ zf4 zgs [7058] (fun a h=>ConG.up (zjk h)) (z0x Tryz.func91 rfl rfl) rfl rfl rfl ⟨⟨rfl,rfl⟩,trivial⟩ (fun a=>⟨rfl,rfl,rfl,rfl,rfl,rfl,rfl,rfl⟩) (fun a hF=>?_)
  |refine IdxX.A hF fun x hF=>?_
  |refine AppX.oA hF fun l hF=>?_
  |exact ⟨_,hF,LeX.a [(7058,58)]⟩
  |exact ⟨_,hF,LeX.a []⟩
  |refine z7z.I hF ?_ fun m v hF=>?_
  |exact LeX.trans (LeX.adopt 10 7058 44 1 rfl rfl) (LeX.a [])
  |exact RetX.oB hF⟩
instance yiz {n a0 a1}:CI E0 (zow n a0 a1) false 23 [z0o a0,.sl 5 (a1.map z02)] (fun r=>.tup [.sl 1 (r.1.map z0d),aI r.2]):=by unfold zow;exact CI.w [] Tryz.func23
def zuq (a0:z0s)(m0:B16):List (Nat×Ent):=[(100000,.box 212 [.bool (m0.1),.bool (m0.2.1),.bool (m0.2.2.1),.bool (m0.2.2.2.1),.bool (m0.2.2.2.2.1),.bool (m0.2.2.2.2.2.1),.bool (m0.2.2.2.2.2.2.1),.bool (m0.2.2.2.2.2.2.2.1),.bool (m0.2.2.2.2.2.2.2.2.1),.bool (m0.2.2.2.2.2.2.2.2.2.1),.bool (m0.2.2.2.2.2.2.2.2.2.2.1),.bool (m0.2.2.2.2.2.2.2.2.2.2.2.1),.bool (m0.2.2.2.2.2.2.2.2.2.2.2.2.1),.bool (m0.2.2.2.2.2.2.2.2.2.2.2.2.2.1),.bool (m0.2.2.2.2.2.2.2.2.2.2.2.2.2.2.1),.bool (m0.2.2.2.2.2.2.2.2.2.2.2.2.2.2.2)])]
def zdx (r:Int×B16):List (Nat×Ent):=[(100000,.box 212 [.bool (r.2.1),.bool (r.2.2.1),.bool (r.2.2.2.1),.bool (r.2.2.2.2.1),.bool (r.2.2.2.2.2.1),.bool (r.2.2.2.2.2.2.1),.bool (r.2.2.2.2.2.2.2.1),.bool (r.2.2.2.2.2.2.2.2.1),.bool (r.2.2.2.2.2.2.2.2.2.1),.bool (r.2.2.2.2.2.2.2.2.2.2.1),.bool (r.2.2.2.2.2.2.2.2.2.2.2.1),.bool (r.2.2.2.2.2.2.2.2.2.2.2.2.1),.bool (r.2.2.2.2.2.2.2.2.2.2.2.2.2.1),.bool (r.2.2.2.2.2.2.2.2.2.2.2.2.2.2.1),.bool (r.2.2.2.2.2.2.2.2.2.2.2.2.2.2.2.1),.bool (r.2.2.2.2.2.2.2.2.2.2.2.2.2.2.2.2)])]
def zg3 (r:Int×(Bool×Bool×Bool×Bool×Bool×Bool×Bool×Bool×Bool×Bool×Bool×Bool×Bool×Bool×Bool×Bool)):AV:=aI (r.1)
def zum (r:Int×B16):AS:=⟨[(3,aI r.1),(1,.ptr 100000 0)],zdx r⟩
theorem zio {n a0 m0 r}(hF:zea n a0 m0=some r):ConG E0.P none (CalF E0.P 152 0) [z0l a0,.ptr 100000 0] [] (zuq a0 m0) (zg3 r) (zdx r):=by
 unfold zea at hF
 refine ConG.walk (E:=(E0p 2)) (caps:=[]) _ Tryz.func152 rfl rfl rfl rfl rfl ?_
 repeat' first
  |refine AW.step ?_;conv=>whnf
  |refine z12.o hF (fun hF=>?_) fun hF=>?_
  |refine z12.t ?_
  |refine z12.f ?_
  |refine z1l.I hF fun a hF=>?_
  |refine NatX.oS hF rfl (fun hF=>?_) (fun hF=>?_)
  |(cases hF;done)
  |exact GX.A (res:=zg3) (meF:=zdx) hF zum
  |refine AndA ?_
  |refine EqX.A ?_
def zvo (a0:z0s)(m0:B16):List (Nat×Ent):=[(100000,.box 212 [.bool (m0.1),.bool (m0.2.1),.bool (m0.2.2.1),.bool (m0.2.2.2.1),.bool (m0.2.2.2.2.1),.bool (m0.2.2.2.2.2.1),.bool (m0.2.2.2.2.2.2.1),.bool (m0.2.2.2.2.2.2.2.1),.bool (m0.2.2.2.2.2.2.2.2.1),.bool (m0.2.2.2.2.2.2.2.2.2.1),.bool (m0.2.2.2.2.2.2.2.2.2.2.1),.bool (m0.2.2.2.2.2.2.2.2.2.2.2.1),.bool (m0.2.2.2.2.2.2.2.2.2.2.2.2.1),.bool (m0.2.2.2.2.2.2.2.2.2.2.2.2.2.1),.bool (m0.2.2.2.2.2.2.2.2.2.2.2.2.2.2.1),.bool (m0.2.2.2.2.2.2.2.2.2.2.2.2.2.2.2)])]
def zba (r:Int×B16):List (Nat×Ent):=[(100000,.box 212 [.bool (r.2.1),.bool (r.2.2.1),.bool (r.2.2.2.1),.bool (r.2.2.2.2.1),.bool (r.2.2.2.2.2.1),.bool (r.2.2.2.2.2.2.1),.bool (r.2.2.2.2.2.2.2.1),.bool (r.2.2.2.2.2.2.2.2.1),.bool (r.2.2.2.2.2.2.2.2.2.1),.bool (r.2.2.2.2.2.2.2.2.2.2.1),.bool (r.2.2.2.2.2.2.2.2.2.2.2.1),.bool (r.2.2.2.2.2.2.2.2.2.2.2.2.1),.bool (r.2.2.2.2.2.2.2.2.2.2.2.2.2.1),.bool (r.2.2.2.2.2.2.2.2.2.2.2.2.2.2.1),.bool (r.2.2.2.2.2.2.2.2.2.2.2.2.2.2.2.1),.bool (r.2.2.2.2.2.2.2.2.2.2.2.2.2.2.2.2)])]
def zcr (r:Int×(Bool×Bool×Bool×Bool×Bool×Bool×Bool×Bool×Bool×Bool×Bool×Bool×Bool×Bool×Bool×Bool)):AV:=aI (r.1)
def zvm (r:Int×B16):AS:=⟨[(4,aI r.1),(1,.fn 152 [.ptr 100000 0])],zba r⟩
theorem zjm {n a0 m0 r}(hF:za7 n a0 m0=some r):ConG E0.P none (CalF E0.P 151 0) [z0l a0,.fn 152 [.ptr 100000 0]] [] (zvo a0 m0) (zcr r) (zba r):=by
 induction n generalizing a0 m0 r
 case zero=>cases hF
 case succ n ih =>
 unfold za7 at hF
 refine ConG.walk (E:=(E0p 2)) (caps:=[]) _ Tryz.func151 rfl rfl rfl rfl rfl ?_
 repeat' first
  |refine AW.step ?_;conv=>whnf
  |refine z12.o hF (fun hF=>?_) fun hF=>?_
  |refine z12.t ?_
  |refine z12.f ?_
  |refine zak.oM (z6d 11 hF) [(100000,100000)] [(100000,100000)] _ _ zdx zg3 [] (fun a h=>ConG.up (zio h)) (z0x Tryz.func152 rfl rfl) rfl rfl rfl ⟨⟨rfl,rfl⟩,trivial⟩ (fun a=>⟨rfl,rfl,rfl,rfl,rfl,rfl,rfl,rfl⟩) (fun a hF=>?_)
  |refine z1l.oM (z6d 11 hF) [(100000,100000)] [(100000,100000)] _ _ zdx zg3 [] (fun a h=>ConG.up (zio h)) (z0x Tryz.func152 rfl rfl) rfl rfl rfl ⟨⟨rfl,rfl⟩,trivial⟩ (fun a=>⟨rfl,rfl,rfl,rfl,rfl,rfl,rfl,rfl⟩) (fun a hF=>?_)
  |refine GX.o (res:=zcr) (meF:=zba) hF ?_;exact GX.mk (zvm _) (LeX.a []) rfl _ rfl (by repeat' first|exact Sub.nil _|exact Sub.refl _|refine Sub.agg ?_|refine Sub.tup ?_|refine Sub.fn ?_|exact SubL.nil|refine SubL.cons ?_ ?_|refine Sub.sl _ ?_|exact SubE.nil|refine SubE.cons ?_ ?_) [100000] ⟨Or.inr ⟨1,0,_,_,_,_,_,Nat.le_of_ble_eq_true rfl,rfl,rfl,rfl,rfl,rfl⟩,trivial⟩ rfl
  |refine IdxX.oD hF z42 (fun x hF=>?_)
  |refine zak.oM (z6d 24 hF) [(100000,100000)] [(100000,100000)] _ _ zba zcr [] (fun a h=>ConG.up (ih h)) (z0x Tryz.func151 rfl rfl) rfl rfl rfl ⟨⟨rfl,rfl⟩,trivial⟩ (fun a=>⟨rfl,rfl,rfl,rfl,rfl,rfl,rfl,rfl⟩) (fun a hF=>?_)
  |refine z1l.oM (z6d 24 hF) [(100000,100000)] [(100000,100000)] _ _ zba zcr [] (fun a h=>ConG.up (ih h)) (z0x Tryz.func151 rfl rfl) rfl rfl rfl ⟨⟨rfl,rfl⟩,trivial⟩ (fun a=>⟨rfl,rfl,rfl,rfl,rfl,rfl,rfl,rfl⟩) (fun a hF=>?_)
  |exact ⟨_,hF,LeX.a []⟩
  |refine z7z.I hF (LeX.a []) fun m v hF=>?_
  |refine AndA ?_
  |refine EqX.A ?_
instance ye8 {n a0}:CI E0 (zdv n a0) false 112 [z0l a0] (fun r=>.sl 1 (r.map aI)):=⟨fun {r} hF=>by
 unfold zdv at hF
 refine cw Tryz.func112 ?_
 repeat' first
  |refine AW.regO hF fun hF=>?_
  |refine AW.stepU [7] ?_;conv=>whnf
  |refine z12.o hF (fun hF=>?_) fun hF=>?_
  |refine z12.t ?_
  |refine z12.f ?_
  |refine zak.oM (z6d 9 hF) [(100000,3)] [(100000,3)] _ _ zba zcr [] (fun a h=>ConG.up (zjm h)) (z0x Tryz.func151 rfl rfl) rfl rfl rfl ⟨⟨rfl,rfl⟩,trivial⟩ (fun a=>⟨rfl,rfl,rfl,rfl,rfl,rfl,rfl,rfl⟩) (fun a hF=>?_)
  |refine z1l.oM (z6d 9 hF) [(100000,3)] [(100000,3)] _ _ zba zcr [] (fun a h=>ConG.up (zjm h)) (z0x Tryz.func151 rfl rfl) rfl rfl rfl ⟨⟨rfl,rfl⟩,trivial⟩ (fun a=>⟨rfl,rfl,rfl,rfl,rfl,rfl,rfl,rfl⟩) (fun a hF=>?_)
  |refine NatX.oS hF rfl (fun hF=>?_) (fun hF=>?_)
  |(cases hF;done)
  |refine AppX.oA hF fun l hF=>?_
  |exact ⟨_,hF,LeX.a [(7019,19)]⟩
  |exact ⟨_,hF,LeX.a []⟩
  |refine z7z.I hF ?_ fun m v hF=>?_
  |exact LeX.trans (LeX.adopt 4 7019 3 1 rfl rfl) (LeX.a [])
  |refine AndA ?_
  |refine EqX.A ?_
  |exact RetX.oB hF⟩
def zov (a0:Int)(a1:(List AV))(m0n:Nat)(m0:(Ars (List (Int×Bool)))):List (Nat×Ent):=[(100000,.box 130 [.cont (m0n) 200000]),(200000,.are 136 (m0).1 (List.map (enO aI AV.bool) (m0).2))]
def zac (r:Nat×(Ars (List (Int×Bool)))):List (Nat×Ent):=[(100000,.box 130 [.cont (r.1) 270000]),(270000,.are 136 (r.2).1 (List.map (enO aI AV.bool) (r.2).2))]
def zch (r:Nat×(Ars (List (Int×Bool)))):AV:=.tup []
def zot (r:Nat×(Ars (List (Int×Bool)))):AS:=⟨[(2,.ptr 100000 0)],zac r⟩
end
noncomputable section
abbrev zi0 {n m1 m0n a0 c d e}:=li (z37 n m1 m0n a0 c d e) (fun b=>⟨[(0,aI a0),(2,.ptr 100000 0),(9,.row 200001),(10,aI (((m1.map idA).length:Int))),(11,aI c.1),(16,.sl 1 (d.map aI)),(17,aI (((d.map aI).length:Int))),(18,aI b.1)],[(100000,.box 130 [.cont (m0n) 200000]),(200000,.are 136 (b.2).1 (List.map (enO aI AV.bool) (b.2).2)),(200001,.row 111 8 (m1.map idA))]⟩) fun _ _=>z37.eq_2 ..
abbrev zi1 {n m1 m0n a0 c}:=li (z20 n m1 m0n a0 c) (fun b=>⟨[(0,aI a0),(2,.ptr 100000 0),(9,.row 200001),(10,aI (((m1.map idA).length:Int))),(11,aI b.1)],[(100000,.box 130 [.cont (m0n) 200000]),(200000,.are 136 (b.2).1 (List.map (enO aI AV.bool) (b.2).2)),(200001,.row 111 8 (m1.map idA))]⟩) fun _ _=>z20.eq_2 ..
abbrev zki {n b a1 x6 d}:=li (z5o n b a1 x6 d) (fun c=>⟨[(1,aI a1),(2,.ptr 100000 0),(3,.ptr 100001 0),(4,.ptr 100002 0),(23,.sl 1 (x6.map aI)),(24,aI (((x6.map aI).length:Int))),(25,aI c.1)],[(100000,.box 130 [.cont (c.2.1) 200000]),(100001,.box 175 [.sl 1 (List.map (fun q=>AV.sl 1 (List.map aI q)) (c.2.2.1))]),(100002,.box 177 [.fn 114 [.ptr 100000 0,.ptr 100001 0,.ptr 100002 0]]),(200000,.are 136 (c.2.2.2).1 (List.map (enO aI AV.bool) (c.2.2.2).2))]⟩) fun _ _=>z5o.eq_2 ..
abbrev zmv {n b d e}:=li (z7w n b d e) (fun c=>⟨[(12,.ptr 12 0),(14,.ptr 14 0),(15,aI d.1),(104,.sl 1 (List.map (fun q=>AV.mapv (List.map (encM aI AV.bool) q)) ((aval b)))),(105,aI ((((List.map (fun q=>AV.mapv (List.map (encM aI AV.bool) q)) ((aval b))).length:Nat):Int))),(106,aI d.1),(112,.ptr 112 0)],[(12,.box 130 [.cont (c.1) 7092]),(14,.box 177 [.fn 114 [.ptr 12 0,.ptr 9 0,.ptr 14 0]]),(9,.box 175 [.sl 1 (List.map (fun q=>AV.sl 1 (List.map aI q)) (c.2.1))]),(112,.it (List.map (encM aI AV.bool) (c.2.2.1))),(7092,.are 136 (c.2.2.2).1 (List.map (enO aI AV.bool) (c.2.2.2).2))]⟩) fun _ _=>z7w.eq_2 ..
abbrev zmw {n b d}:=li (z2h n b d) (fun c=>⟨[(12,.ptr 12 0),(14,.ptr 14 0),(104,.sl 1 (List.map (fun q=>AV.mapv (List.map (encM aI AV.bool) q)) ((aval b)))),(105,aI ((((List.map (fun q=>AV.mapv (List.map (encM aI AV.bool) q)) ((aval b))).length:Nat):Int))),(106,aI c.1)],[(12,.box 130 [.cont (c.2.1) 7092]),(14,.box 177 [.fn 114 [.ptr 12 0,.ptr 9 0,.ptr 14 0]]),(9,.box 175 [.sl 1 (List.map (fun q=>AV.sl 1 (List.map aI q)) (c.2.2.1))]),(7092,.are 136 (c.2.2.2).1 (List.map (enO aI AV.bool) (c.2.2.2).2))]⟩) fun _ _=>z2h.eq_2 ..
abbrev zmx {n h c b d f g}:=li (z3g n h c b d f g) (fun e=>⟨[(3,.ptr 3 0),(9,.ptr 9 0),(12,.ptr 12 0),(94,aI (((f:Nat):Int))),(95,aI e.1)],[(3,.box 130 [.cont (c) 7021]),(7021,.are 136 (b).1 (List.map (enO aI AV.bool) (b).2)),(9,.box 175 [.cont (h) 53]),(53,.nest 112 (List.map (enR aI 3 1) (d))),(12,.box 130 [.cont (f) 92]),(92,.are 136 (e.2).1 (List.map (enO aI AV.bool) (e.2).2))]⟩) fun _ _=>z3g.eq_2 ..
abbrev zmy {n a0 d c}:=li (z2i n a0 d c) (fun b=>⟨[(1,.ptr 1 0),(3,.ptr 3 0),(4,.fn 111 [.ptr 3 0]),(9,.ptr 9 0),(55,.sl 17 (a0.fEdges.map z0w)),(56,aI (((a0.fEdges.map z0w).length:Int))),(57,aI b.1)],[(1,.box 25 (z0g a0)),(3,.box 130 [.cont (b.2.1) 7021]),(9,.box 175 [.cont (d) 53]),(53,.nest 112 (List.map (enR aI 3 1) (b.2.2.1))),(7021,.are 136 (b.2.2.2).1 (List.map (enO aI AV.bool) (b.2.2.2).2))]⟩) fun _ _=>z2i.eq_2 ..
abbrev zmu {n a0 c d e}:=li (z7v n a0 c d e) (fun b=>⟨[(1,.ptr 1 0),(3,.ptr 3 0),(4,.fn 111 [.ptr 3 0]),(5,aI c.1),(24,.sl 1 (a0.fStates.map z0q)),(25,aI (((a0.fStates.map z0q).length:Int))),(26,aI c.1),(36,.sl 11 (d.fGuards.map z0u)),(37,aI (((d.fGuards.map z0u).length:Int))),(38,aI b.1)],[(1,.box 25 (z0g a0)),(3,.box 130 [.cont (b.2.1) 7021]),(7021,.are 136 (b.2.2).1 (List.map (enO aI AV.bool) (b.2.2).2))]⟩) fun _ _=>z7v.eq_2 ..
abbrev zmz {n a0 c}:=li (z58 n a0 c) (fun b=>⟨[(1,.ptr 1 0),(3,.ptr 3 0),(4,.fn 111 [.ptr 3 0]),(24,.sl 1 (a0.fStates.map z0q)),(25,aI (((a0.fStates.map z0q).length:Int))),(26,aI b.1)],[(1,.box 25 (z0g a0)),(3,.box 130 [.cont (b.2.1) 7021]),(7021,.are 136 (b.2.2).1 (List.map (enO aI AV.bool) (b.2.2).2))]⟩) fun _ _=>z58.eq_2 ..
abbrev ziw {n}:=jf (z2w n) (fun b=>⟨[(4,.bool (b))],[]⟩) fun _=>z2w.eq_1 ..
attribute [instance] zi0 zi1 zki zmv zmw zmx zmy zmu zmz ziw
theorem zh4 {n a0 a1 m0n m0 r}(hF:zcm n a0 a1 m0n m0=some r):ConG E0.P none (CalF E0.P 111 0) [aI a0,.sl 8 (a1.map idA),.ptr 100000 0] [] (zov a0 a1 m0n m0) (zch r) (zac r):=by
 unfold zcm at hF
 refine ConG.walk (E:=(E0p 3)) (caps:=[]) _ Tryz.func111 rfl rfl rfl rfl rfl ?_
 repeat' first
  |refine AW.step ?_;conv=>whnf
  |refine z12.o hF (fun hF=>?_) fun hF=>?_
  |refine z12.t ?_
  |refine z12.f ?_
  |exact GX.A (res:=zch) (meF:=zac) hF zot (h1:=LeX.a [(270000,200000)])
  |refine IdxX.oD hF z42 (fun x hF=>?_)
  |refine z1l.I hF fun a hF=>?_
  |exact ⟨_,hF,LeX.a []⟩
  |refine IdxX.A hF fun x hF=>?_
  |refine OpX.ixc hF rfl rfl rfl rfl rfl rfl rfl rfl (fun hF=>?_)
  |refine OpX.aob hF rfl rfl rfl rfl rfl rfl rfl (fun j hF=>?_)
  |refine OpX.aup AV.bool hF (Or.inl rfl) rfl rfl rfl rfl rfl rfl rfl rfl rfl (by first|rfl|kernel_rfl) rfl rfl (fun l hF=>?_)
  |refine z7z.I hF (LeX.a []) fun m v hF=>?_
  |refine AndA ?_
  |refine EqX.A ?_
set_option maxHeartbeats 400000 in
theorem y8u (l:List (Cel 8))(S:Nat->Prop)(v:Value)(w:World)(h:Sl w S 8 encC v l)(hl:l.length<=1000000000) :
  Calls Tryz.prog 113 #[v] w (zwe 111 8 encC l w):=by
 have eok:EOk Tryz.prog 107 111 8 88 (encC (n:=8)):=eokC (sz:=8) (zs2 107 _ rfl) rfl (zs2 111 _ rfl) (by omega) rfl
 obtain ⟨A,c,rfl,hc,_⟩:=h.form
 have hq:=fun (W:World)=>Lib.run_eql_slice_nil W 107 111 A l.length c 0 0 Tryz.underlying107
 have H:=hide h
 cases A with
 |none =>
  have h0:l=[]:=h.none_nil
  subst h0
  clear h H hl hc
  simp only [length_nil,Option.isNone_none] at hq ⊢
  go_enter Tryz.func113,Tryz.ntmps113
  go_wp2
  go_ret
  exact ⟨none,0,rfl,Own.nil_,by go_grown⟩
 |some ad =>
  clear h
  go_enter Tryz.func113,Tryz.ntmps113
  go_wp2_with (at_builtin;refine zax rfl _ _ rfl eok rfl Own.made_ rfl (H.out.alloc _) (by simp;omega) (by omega) (by simp) ?_;intro A' c' w1 ho hg _)
  go_ret
  exact ⟨A',c',rfl,ho,(Own.made_ (sz:=8) (enc:=encC (n:=8))).grown ((Below.refl _ _).alloc (Nat.le_refl _) _) (Nat.le_refl _) (by simp) hg⟩
theorem zui {n a r}(hF:zay n a=some r):ConT E0 113 [.sl 8 (List.map idA a)] 111 8 (List.map idA r) (.row 0):=zjn rfl (z0x Tryz.func113 rfl rfl) y8u hF
def zj4 (a0:Int)(m0n:Nat)(m0:(Ars (List (Int×Bool))))(m1:(List AV)):List (Nat×Ent):=[(100000,.box 130 [.cont (m0n) 200000]),(200000,.are 136 (m0).1 (List.map (enO aI AV.bool) (m0).2)),(200001,.row 111 8 (m1.map idA))]
def z7b (r:Nat×(Ars (List (Int×Bool)))):List (Nat×Ent):=[(100000,.box 130 [.cont (r.1) 270000]),(270000,.are 136 (r.2).1 (List.map (enO aI AV.bool) (r.2).2))]
def za9 (r:Nat×(Ars (List (Int×Bool)))):AV:=.tup []
def zj1 (r:Nat×(Ars (List (Int×Bool)))):AS:=⟨[(2,.ptr 100000 0)],z7b r⟩
theorem zfe {n a0 m0n m0 m1 r}(hF:zab n a0 m0n m0 m1=some r):ConG E0.P none (CalF E0.P 111 0) [aI a0,.row 200001,.ptr 100000 0] [] (zj4 a0 m0n m0 m1) (za9 r) (z7b r):=by
 unfold zab at hF
 refine ConG.walk (E:=(E0p 3)) (caps:=[]) _ Tryz.func111 rfl rfl rfl rfl rfl ?_
 repeat' first
  |refine AW.step ?_;conv=>whnf
  |refine z12.o hF (fun hF=>?_) fun hF=>?_
  |refine z12.t ?_
  |refine z12.f ?_
  |exact GX.A (res:=za9) (meF:=z7b) hF zj1 (h1:=LeX.a [(270000,200000)])
  |refine NatX.o hF (fun m hF=>?_)
  |refine EltX.oD hF z42 (fun x hF=>?_)
  |refine z1l.I hF fun a hF=>?_
  |exact ⟨_,hF,LeX.a []⟩
  |refine IdxX.A hF fun x hF=>?_
  |refine OpX.ixc hF rfl rfl rfl rfl rfl rfl rfl rfl (fun hF=>?_)
  |refine OpX.aob hF rfl rfl rfl rfl rfl rfl rfl (fun j hF=>?_)
  |refine OpX.aup AV.bool hF (Or.inl rfl) rfl rfl rfl rfl rfl rfl rfl rfl rfl (by first|rfl|kernel_rfl) rfl rfl (fun l hF=>?_)
  |refine z7z.I hF (LeX.a []) fun m v hF=>?_
  |refine AndA ?_
  |refine EqX.A ?_
theorem yrb (a b:Int):eqK (aI a) (aI b)=some (decide (a=b)):=by simp [eqK,eq1,aI,zjp]
def zou (a0:Int)(a1:Int)(m0n:Nat)(m0:(Ars (List (Int×Bool))))(m1:(List (List Int))):List (Nat×Ent):=[(100000,.box 130 [.cont (m0n) 200000]),(200000,.are 136 (m0).1 (List.map (enO aI AV.bool) (m0).2)),(100001,.box 175 [.sl 1 (List.map (fun q=>AV.sl 1 (List.map aI q)) (m1))]),(100002,.box 177 [.fn 114 [.ptr 100000 0,.ptr 100001 0,.ptr 100002 0]])]
def z5s (r:Nat×(Ars (List (Int×Bool)))×(List (List Int))):List (Nat×Ent):=[(100000,.box 130 [.cont (r.1) 270000]),(270000,.are 136 (r.2.1).1 (List.map (enO aI AV.bool) (r.2.1).2)),(100001,.box 175 [.sl 1 (List.map (fun q=>AV.sl 1 (List.map aI q)) (r.2.2))]),(100002,.box 177 [.fn 114 [.ptr 100000 0,.ptr 100001 0,.ptr 100002 0]])]
def z8c (r:Nat×(Ars (List (Int×Bool)))×(List (List Int))):AV:=.tup []
def zos (r:Nat×(Ars (List (Int×Bool)))×(List (List Int))):AS:=⟨[(2,.ptr 100000 0),(3,.ptr 100001 0),(4,.ptr 100002 0)],z5s r⟩
theorem zh3 {n a0 a1 m0n m0 m1 r}(hF:z3y n a0 a1 m0n m0 m1=some r):ConG E0.P none (CalF E0.P 114 0) [aI a0,aI a1,.ptr 100000 0,.ptr 100001 0,.ptr 100002 0] [] (zou a0 a1 m0n m0 m1) (z8c r) (z5s r):=by
 induction n generalizing a0 a1 m0n m0 m1 r
 case zero=>cases hF
 case succ n ih =>
 unfold z3y at hF
 refine ConG.walk (E:=(E0p 5)) (caps:=[]) _ Tryz.func114 rfl rfl rfl rfl rfl ?_
 repeat' first
  |refine AW.step ?_;conv=>whnf
  |refine z12.o hF (fun hF=>?_) fun hF=>?_
  |refine z12.t ?_
  |refine z12.f ?_
  |refine OpX.ixc hF rfl rfl rfl rfl rfl rfl rfl rfl (fun hF=>?_)
  |refine OpX.aob hF rfl rfl rfl rfl rfl rfl rfl (fun j hF=>?_)
  |refine OpX.alk aI AV.bool hF yrb rfl rfl rfl rfl rfl rfl rfl rfl rfl rfl rfl (by first|rfl|kernel_rfl) (by repeat' first|exact Sub.nil _|exact Sub.refl _|refine Sub.agg ?_|refine Sub.tup ?_|refine Sub.fn ?_|exact SubL.nil|refine SubL.cons ?_ ?_|refine Sub.sl _ ?_|exact SubE.nil|refine SubE.cons ?_ ?_) (fun v b hF=>?_)
  |exact GX.A (res:=z8c) (meF:=z5s) hF zos (h1:=LeX.a [(270000,200000)])
  |refine OpX.aup AV.bool hF (Or.inl rfl) rfl rfl rfl rfl rfl rfl rfl rfl rfl (by first|rfl|kernel_rfl) rfl rfl (fun l hF=>?_)
  |refine IdxX.o (fun q=>AV.sl 1 (List.map aI q)) hF fun x hF=>?_
  |refine IdxX.A hF fun x hF=>?_
  |refine zak.oM (z6d 32 hF) [(100000,100000),(100001,100001),(100002,100002),(200000,200000)] [(100000,100000),(270000,33000001),(100001,100001),(100002,100002)] _ _ z5s z8c [200000] (fun a h=>ConG.up (ih h)) (z0x Tryz.func114 rfl rfl) rfl rfl rfl ⟨⟨rfl,rfl⟩,⟨⟨rfl,rfl⟩,⟨⟨rfl,rfl⟩,⟨⟨rfl,rfl⟩,trivial⟩⟩⟩⟩ (fun a=>⟨rfl,rfl,rfl,rfl,rfl,rfl,rfl,rfl⟩) (fun a hF=>?_)
  |refine z1l.oM (z6d 32 hF) [(100000,100000),(100001,100001),(100002,100002),(200000,200000)] [(100000,100000),(270000,33000001),(100001,100001),(100002,100002)] _ _ z5s z8c [200000] (fun a h=>ConG.up (ih h)) (z0x Tryz.func114 rfl rfl) rfl rfl rfl ⟨⟨rfl,rfl⟩,⟨⟨rfl,rfl⟩,⟨⟨rfl,rfl⟩,⟨⟨rfl,rfl⟩,trivial⟩⟩⟩⟩ (fun a=>⟨rfl,rfl,rfl,rfl,rfl,rfl,rfl,rfl⟩) (fun a hF=>?_)
  |exact ⟨_,hF,LeX.a [(200000,33000001)]⟩
  |refine z7z.I hF (LeX.a []) fun m v hF=>?_
  |refine AndA ?_
  |refine EqX.A ?_
instance y4k {n a0}:CI E0 (zbt n a0) false 76 [z0o a0] (fun r=>.sl 1 (List.map (fun q=>AV.mapv (List.map (encM aI AV.bool) q)) (r))):=⟨fun {r} hF=>by
 unfold zbt at hF
 refine cw Tryz.func76 ?_
 repeat' first
  |refine AW.areO aI AV.bool hF 21 rfl (fun hF=>?_)
  |refine AW.nstO (er:=aI) 3 1 hF 53 rfl (fun hF=>?_)
  |refine AW.areO aI AV.bool hF 92 rfl (fun hF=>?_)
  |refine AW.frrO (ety:=3) (sz:=1) aI hF 53 rfl (fun hF=>?_)
  |refine AW.frcO aI AV.bool hF 7021 rfl (fun hF=>?_)
  |refine AW.frcO aI AV.bool hF 7092 rfl (fun hF=>?_)
  |refine AW.pckO (encM aI AV.bool) hF 112 rfl (fun x s hF=>?_)
  |refine AW.regO hF fun hF=>?_
  |refine AW.frzO hF 53 rfl (fun hF=>?_)
  |refine AW.frzO hF 7021 rfl (fun hF=>?_)
  |refine AW.frzO hF 7092 rfl (fun hF=>?_)
  |refine AW.stepU [28,29,37,18,34,22,14,2] ?_;conv=>whnf
  |refine z12.o hF (fun hF=>?_) fun hF=>?_
  |refine z12.t ?_
  |refine z12.f ?_
  |refine MakX.om hF (fun m hF=>?_)
  |refine MakX.on hF (fun m hF=>?_)
  |refine OpX.lnc rfl rfl rfl rfl rfl rfl ?_
  |refine IdxX.o (fun q=>AV.mapv (List.map (encM aI AV.bool) q)) hF fun x hF=>?_
  |refine OpX.rng rfl rfl rfl rfl rfl rfl rfl rfl ?_
  |exact ⟨_,hF,LeX.a []⟩
  |refine OpX.nxt (encM aI AV.bool) hF rfl rfl rfl rfl rfl (fun hF=>?_) (fun hF=>?_)
  |refine OpX.ent rfl rfl rfl rfl rfl ?_
  |refine zak.oM (z6d 120 hF) [(100000,12),(100001,9),(100002,14),(200000,7092)] [(100000,12),(270000,121000001),(100001,9),(100002,14)] _ _ z5s z8c [7092] (fun a h=>ConG.up (zh3 h)) (z0x Tryz.func114 rfl rfl) rfl rfl rfl ⟨⟨rfl,rfl⟩,⟨⟨rfl,rfl⟩,⟨⟨rfl,rfl⟩,⟨⟨rfl,rfl⟩,trivial⟩⟩⟩⟩ (fun a=>⟨rfl,rfl,rfl,rfl,rfl,rfl,rfl,rfl⟩) (fun a hF=>?_)
  |refine z1l.oM (z6d 120 hF) [(100000,12),(100001,9),(100002,14),(200000,7092)] [(100000,12),(270000,121000001),(100001,9),(100002,14)] _ _ z5s z8c [7092] (fun a h=>ConG.up (zh3 h)) (z0x Tryz.func114 rfl rfl) rfl rfl rfl ⟨⟨rfl,rfl⟩,⟨⟨rfl,rfl⟩,⟨⟨rfl,rfl⟩,⟨⟨rfl,rfl⟩,trivial⟩⟩⟩⟩ (fun a=>⟨rfl,rfl,rfl,rfl,rfl,rfl,rfl,rfl⟩) (fun a hF=>?_)
  |exact ⟨_,hF,LeX.trans (LeX.itc 112 rfl) (LeX.a [(7092,121000001)])⟩
  |refine z7z.I hF ?_ fun m v hF=>?_
  |exact LeX.a []
  |exact LeX.a [(7092,92)]
  |refine OpX.ixc hF rfl rfl rfl rfl rfl rfl rfl rfl (fun hF=>?_)
  |refine OpX.ast aI AV.bool hF rfl rfl rfl rfl rfl rfl rfl rfl rfl rfl rfl (fun m hF=>?_)
  |refine IdxX.A hF fun x hF=>?_
  |refine z1l.oR hF (fun r=>r) idA (fun _=>AV.row 0) rfl (fun a h=>zui h) (fun a hF=>?_)
  |refine z1l.oR hF (fun r=>r) idA (fun _=>AV.row 0) rfl (fun a h=>ConT.sub (by repeat' first|exact Sub.nil _|exact Sub.refl _|refine Sub.agg ?_|refine Sub.tup ?_|refine Sub.fn ?_|exact SubL.nil|refine SubL.cons ?_ ?_|refine Sub.sl _ ?_|exact SubE.nil|refine SubE.cons ?_ ?_) (zui h)) (fun a hF=>?_)
  |refine AppX.oA hF fun l hF=>?_
  |refine zak.oM (z6d 71 hF) [(100000,3),(200001,70),(200000,7021)] [(100000,3),(270000,72000001)] _ _ z7b za9 [70,7021] (fun a h=>ConG.up (zfe h)) (z0x Tryz.func111 rfl rfl) rfl rfl rfl ⟨⟨rfl,rfl⟩,⟨⟨rfl,rfl⟩,⟨⟨rfl,rfl⟩,trivial⟩⟩⟩ (fun a=>⟨rfl,rfl,rfl,rfl,rfl,rfl,rfl,rfl⟩) (fun a hF=>?_)
  |refine z1l.oM (z6d 71 hF) [(100000,3),(200001,70),(200000,7021)] [(100000,3),(270000,72000001)] _ _ z7b za9 [70,7021] (fun a h=>ConG.up (zfe h)) (z0x Tryz.func111 rfl rfl) rfl rfl rfl ⟨⟨rfl,rfl⟩,⟨⟨rfl,rfl⟩,⟨⟨rfl,rfl⟩,trivial⟩⟩⟩ (fun a=>⟨rfl,rfl,rfl,rfl,rfl,rfl,rfl,rfl⟩) (fun a hF=>?_)
  |refine OpX.ntk aI hF rfl rfl rfl rfl rfl rfl rfl rfl rfl rfl (fun q hF=>?_)
  |refine OpX.npt aI hF rfl rfl rfl rfl rfl rfl rfl rfl rfl rfl rfl (fun l hF=>?_)
  |exact ⟨_,hF,LeX.a [(7021,72000001)]⟩
  |refine zak.oM (z6d 47 hF) [(100000,3),(200000,7021)] [(100000,3),(270000,48000001)] _ _ zac zch [7021] (fun a h=>ConG.up (zh4 h)) (z0x Tryz.func111 rfl rfl) rfl rfl rfl ⟨⟨rfl,rfl⟩,⟨⟨rfl,rfl⟩,trivial⟩⟩ (fun a=>⟨rfl,rfl,rfl,rfl,rfl,rfl,rfl,rfl⟩) (fun a hF=>?_)
  |refine z1l.oM (z6d 47 hF) [(100000,3),(200000,7021)] [(100000,3),(270000,48000001)] _ _ zac zch [7021] (fun a h=>ConG.up (zh4 h)) (z0x Tryz.func111 rfl rfl) rfl rfl rfl ⟨⟨rfl,rfl⟩,⟨⟨rfl,rfl⟩,trivial⟩⟩ (fun a=>⟨rfl,rfl,rfl,rfl,rfl,rfl,rfl,rfl⟩) (fun a hF=>?_)
  |exact ⟨_,hF,LeX.a [(7021,48000001)]⟩
  |exact LeX.a [(7021,21)]
  |refine AndA ?_
  |refine EqX.A ?_
  |exact RetX.oB hF⟩
def zra (a0:z07):List (Nat×Ent):=[]
def z3q (r:(List (List (Int×Bool)))):List (Nat×Ent):=[(3,.box 130 [.sl 1 (List.map (fun q=>AV.mapv (List.map (encM aI AV.bool) q)) (r))])]
def z5b (r:(List (List (Int×Bool)))):AV:=.fn 77 [.ptr 3 0]
def zqy (r:(List (List (Int×Bool)))):AS:=⟨[(2,.fn 77 [.ptr 3 0])],z3q r⟩
theorem z8b {n a0 r}(hF:z3z n a0=some r):ConG E0.P none (CalF E0.P 44 0) [z0o a0] [] (zra a0) (z5b r) (z3q r):=by
 unfold z3z at hF
 refine ConG.walk (E:=(E0p 1)) (caps:=[]) _ Tryz.func44 rfl rfl rfl rfl rfl ?_
 repeat' first
  |refine AW.step ?_;conv=>whnf
  |refine z12.o hF (fun hF=>?_) fun hF=>?_
  |refine z12.t ?_
  |refine z12.f ?_
  |refine z1l.I hF fun a hF=>?_
  |exact GX.A (res:=z5b) (meF:=z3q) hF zqy
  |refine AndA ?_
  |refine EqX.A ?_
end
end Go.Proofs.YtidhlpjgifoneaaGreat
