/- What some functions compute, over plain values. -/
import Derived.Test.YtidhlpjgifoneaaGreatK24
set_option linter.unusedVariables false
set_option linter.unusedSimpArgs false
set_option maxRecDepth 100000
set_option maxHeartbeats 8000000
namespace Go.Proofs.YtidhlpjgifoneaaGreat
open Go.RowKit List
noncomputable section
abbrev zif {n d c}:=li (z2r n d c) (fun b=>⟨[(0,.row 200000),(1,.fn 130 [.ref [.fn 92 []]]),(5,aI b.1),(6,.der (.sub 1 (d)) 200000),(7,aI b.2.1)],[(200000,.row 44 1 (b.2.2.map z0d))]⟩) fun _ _=>z2r.eq_2 ..
abbrev zig {n m0 b}:=li (z49 n m0 b) (fun c=>⟨[(0,.row 200000),(1,.fn 130 [.ref [.fn 92 []]]),(5,aI c)],[(200000,.row 44 1 (m0.map z0d))]⟩) fun _ _=>z49.eq_2 ..
abbrev zmg {n a2 a1 a0 c}:=li (z7m n a2 a1 a0 c) (fun b=>⟨[(0,.ref [aI a0.fa.fVars,aI a0.fa.fScopes,.sl 1 (a0.fa.fStates.map z0p),.sl 17 (a0.fa.fEdges.map z0w),.mapv (List.map (encM z1c z02) (a0.fheld))]),(5,.ptr 5 0),(8,.ptr 8 0),(9,.ptr 9 0),(13,.sl 3 (a1.map z01)),(14,aI (((a1.map z01).length:Int))),(15,aI b.1)],[(5,.box 71 (z16 a2)),(8,.box 57 [.row 811000001]),(9,.box 50 [.row 811000003]),(811000001,.row 60 3 (b.2.1.map z01)),(811000003,.row 44 1 (b.2.2.map z0d))]⟩) fun _ _=>z7m.eq_2 ..
abbrev zvz {n b}:=jf (zbt n b) (fun c=>⟨[(17,.sl 3 (b.1.map z01)),(18,.sl 1 (b.2.map z0d)),(64,.bool (c))],[]⟩) fun _=>zbt.eq_1 ..
attribute [instance] zif zig zmg zvz
instance y3v {n a0 a1 a2 a3 a4}:CI E0 (z9y n a0 a1 a2 a3 a4) false 160 [.ref [aI a0.fa.fVars,aI a0.fa.fScopes,.sl 1 (a0.fa.fStates.map z0p),.sl 17 (a0.fa.fEdges.map z0w),.mapv (List.map (encM z1c z02) (a0.fheld))],z01 a1,z0w a2,zct a3,z02 a4] (fun r=>.tup [z01 r.1,.bool (r.2)]):=⟨fun {r} hF=>by
 unfold z9y at hF
 refine cw Tryz.func160 ?_
 repeat' first
  |refine AW.jI hF (fun v hF=>?_) fun hF=>?_
  |refine AW.regO hF fun hF=>?_
  |refine AW.stepU [1] ?_;conv=>whnf
  |refine z14.o hF (fun hF=>?_) fun hF=>?_
  |refine z14.t ?_
  |refine z1n.oR hF (fun r=>r) z09 zql rfl (fun a h=>zyu h) (fun a hF=>?_)
  |refine zap.I hF (fun a hF=>?_) rfl rfl fun _=>Or.inr rfl
  |refine z1n.oR hF (fun r=>r) (fun q=>AV.sl 5 (List.map z02 q)) (fun _=>AV.row 0) rfl (fun a h=>y43 h) (fun a hF=>?_)
  |refine IdxX.o (fun q=>AV.sl 5 (List.map z02 q)) hF fun x hF=>?_
  |refine z1n.oR hF (fun r=>r) z02 (fun _=>AV.row 0) rfl (fun a h=>y42 h) (fun a hF=>?_)
  |refine AppX.oA hF fun l hF=>?_
  |refine NatX.o hF (fun m hF=>?_)
  |refine OpX.str z02 hF rfl rfl rfl rfl rfl rfl rfl rfl rfl rfl rfl (fun l hF=>?_)
  |refine zap.oM (z75 96 hF) [(100000,7),(200001,52)] [(260000,97000000),(100000,7)] _ _ zcw zfe [52] (fun a h=>ConG.up (zq3 h)) (z0y Tryz.func193 rfl rfl) rfl rfl rfl ⟨⟨rfl,rfl⟩,⟨⟨rfl,rfl⟩,trivial⟩⟩ (fun a=>⟨rfl,rfl,rfl,rfl,rfl,rfl,rfl,rfl⟩) (fun a hF=>?_)
  |refine z1n.oR hF (fun r=>r) z0b (fun _=>AV.row 0) rfl (fun a h=>zvo h) (fun a hF=>?_)
  |refine z1n.I hF fun a hF=>?_
  |refine IdxX.oD hF z3v (fun x hF=>?_)
  |refine zap.o hF y8m (fun a h=>Con.sub (by repeat' first|exact Sub.nil _|exact Sub.refl _|refine Sub.agg ?_|refine Sub.tup ?_|refine Sub.fn ?_|exact SubL.nil|refine SubL.cons ?_ ?_|refine Sub.sl _ ?_|exact SubE.nil|refine SubE.cons ?_ ?_) (y0d.h h)) (fun _=>Or.inr rfl) (fun a hF=>?_)
  |exact ⟨_,hF,LeX.a []⟩
  |refine z8h.I hF (LeX.a []) fun m v hF=>?_
  |refine OpX.nckR rfl rfl rfl rfl ?_
  |refine IdxX.A hF fun x hF=>?_
  |refine AndA ?_
  |exact RetX.oB hF⟩
def zhr (yl_l:Nat)(yl_T:Array Value)(m4:z03)(m3:z00)(m2:z0m)(x1:z0i)(b:Int×(List z00)×(List z06)):AS:=⟨[(0,.yld yl_l yl_T [.any,.any,.any,.any,.any,.any,.any,.any,.ptr 100000 0,.ptr 100001 0]),(1,.ptr 100002 0),(2,.ptr 100003 0),(3,.ptr 100004 0),(5,.ptr 5 0),(39,.sl 17 (m2.fa.fEdges.map z0w)),(40,aI (((m2.fa.fEdges.map z0w).length:Int))),(41,aI (b.1))],[(100000,.box 57 [.row 33000001]),(100001,.box 50 [.row 33000003]),(100002,.box 137 [.ref [aI (m2.fa.fVars),aI (m2.fa.fScopes),.sl 1 (m2.fa.fStates.map z0p),.sl 17 (m2.fa.fEdges.map z0w),.mapv (List.map (encM z1c z02) (m2.fheld))]]),(100003,.box 60 [aI (m3.fState),.sl 4 (m3.fBindings.map z0b),.sl 2 (m3.fStarts.map z09)]),(100004,.box 71 [aI (m4.fSource),aI (m4.fSeq),aI (m4.fType),aI (m4.fTime),.sl 3 (m4.fValues.map z08)]),(5,.box 220 [.sl 1 (List.map (fun q=>AV.sl 5 (List.map z02 q)) (x1.fVars))]),(33000001,.row 60 3 (b.2.1.map z01)),(33000003,.row 44 1 (b.2.2.map z0d))]⟩
theorem zhm {n yl_l yl_R yl_T m4 m3 m2 x1 b}:you (E0y yl_l yl_R 4) 67 (z1l n m4 m3 m2 x1 b) (zhr yl_l yl_T m4 m3 m2 x1):=LoopA.oT fun _=>rfl
def zhq (yl_l:Nat)(yl_T:Array Value)(m4:z03)(m3:z00)(m2:z0m)(x1:z0i)(b:Int×(List z00)×(List z06)):AS:=⟨[(0,.yld yl_l yl_T [.any,.any,.any,.any,.any,.any,.any,.any,.ptr 100000 0,.ptr 100001 0]),(1,.ptr 100002 0),(2,.ptr 100003 0),(3,.ptr 100004 0),(5,.ptr 5 0),(39,.sl 17 (m2.fa.fEdges.map z0w)),(40,aI (((m2.fa.fEdges.map z0w).length:Int))),(41,aI (b.1))],[(100000,.box 57 [.row 200000]),(100001,.box 50 [.row 200001]),(100002,.box 137 [.ref [aI (m2.fa.fVars),aI (m2.fa.fScopes),.sl 1 (m2.fa.fStates.map z0p),.sl 17 (m2.fa.fEdges.map z0w),.mapv (List.map (encM z1c z02) (m2.fheld))]]),(100003,.box 60 [aI (m3.fState),.sl 4 (m3.fBindings.map z0b),.sl 2 (m3.fStarts.map z09)]),(100004,.box 71 [aI (m4.fSource),aI (m4.fSeq),aI (m4.fType),aI (m4.fTime),.sl 3 (m4.fValues.map z08)]),(5,.box 220 [.sl 1 (List.map (fun q=>AV.sl 5 (List.map z02 q)) (x1.fVars))]),(200000,.row 60 3 (b.2.1.map z01)),(200001,.row 44 1 (b.2.2.map z0d))]⟩
theorem zhl {n yl_l yl_R yl_T m4 m3 m2 x1 b}:you (E0y yl_l yl_R 4) 67 (z1k n m4 m3 m2 x1 b) (zhq yl_l yl_T m4 m3 m2 x1):=LoopA.oT fun _=>rfl
def zir (m0:(List z00))(m1:(List z06))(m2:z0m)(m3:z00)(m4:z03):List (Nat×Ent):=[(100000,.box 57 [.row 200000]),(200000,.row 60 3 (m0.map z01)),(100001,.box 50 [.row 200001]),(200001,.row 44 1 (m1.map z0d)),(100002,.box 137 [.ref [aI m2.fa.fVars,aI m2.fa.fScopes,.sl 1 (m2.fa.fStates.map z0p),.sl 17 (m2.fa.fEdges.map z0w),.mapv (List.map (encM z1c z02) (m2.fheld))]]),(100003,.box 60 (z10 m3)),(100004,.box 71 (z16 m4))]
def z71 (r:(List z00)×(List z06)×z0m×z00×z03):List (Nat×Ent):=[(100000,.box 57 [.row 250000]),(250000,.row 60 3 (r.1.map z01)),(100001,.box 50 [.row 250001]),(250001,.row 44 1 (r.2.1.map z0d)),(100002,.box 137 [.ref [aI r.2.2.1.fa.fVars,aI r.2.2.1.fa.fScopes,.sl 1 (r.2.2.1.fa.fStates.map z0p),.sl 17 (r.2.2.1.fa.fEdges.map z0w),.mapv (List.map (encM z1c z02) (r.2.2.1.fheld))]]),(100003,.box 60 (z10 r.2.2.2.1)),(100004,.box 71 (z16 r.2.2.2.2))]
def zc8 (r:(List z00)×(List z06)×z0m×z00×z03):AV:=.tup []
def zft (yl_l:Nat)(yl_T:Array Value)(r:(List z00)×(List z06)×z0m×z00×z03):AS:=⟨[(0,.yld yl_l yl_T [.any,.any,.any,.any,.any,.any,.any,.any,.ptr 100000 0,.ptr 100001 0]),(1,.ptr 100002 0),(2,.ptr 100003 0),(3,.ptr 100004 0)],z71 r⟩
theorem zi2 {n m0 m1 m2 m3 m4 r}(hF:z73 n m0 m1 m2 m3 m4=some r)(yl_l:Nat)(yl_R:Obj)(yl_T:Array Value)(hY:∀ {n:Nat} {a0:z00} {m0:(List z00)} {m1:(List z06)} {r:(List z00)×(List z06)},z7n n a0 m0 m1=some r->ConG E0.P (some (yl_l,yl_R)) (fun vs cs w R=>cs=yl_T->CalY E0.P yl_l vs cs w R) [z01 a0] [.any,.any,.any,.any,.any,.any,.any,.any,.ptr 100000 0,.ptr 100001 0] (zmw m0 m1) (.bool true) (z4m r)):ConG E0.P (some (yl_l,yl_R)) (CalF E0.P 156 0) [.yld yl_l yl_T [.any,.any,.any,.any,.any,.any,.any,.any,.ptr 100000 0,.ptr 100001 0],.ptr 100002 0,.ptr 100003 0,.ptr 100004 0] [] (zir m0 m1 m2 m3 m4) (zc8 r) (z71 r):=by
 unfold z73 at hF
 refine ConG.walk (E:=(E0y yl_l yl_R 4)) (caps:=[]) _ Tryz.func156 rfl rfl rfl rfl rfl ?_
 repeat' first
  |refine AW.step ?_;conv=>whnf
  |refine z14.o hF (fun hF=>?_) fun hF=>?_
  |refine z14.f ?_
  |refine z1n.I hF fun a hF=>?_
  |refine OpX.nckR rfl rfl rfl rfl ?_
  |refine IdxX.A hF fun x hF=>?_
  |refine zap.I hF (fun a hF=>?_) rfl rfl fun _=>Or.inr rfl
  |refine YldX.oM (z75 32 hF) [(100000,100000),(200000,200000),(100001,100001),(200001,200001)] [(100000,100000),(250000,33000001),(100001,100001),(250001,33000003)] _ _ _ z4m (fun _=>AV.bool true) [200000,200001] (fun a h=>hY h) rfl rfl rfl rfl rfl ⟨⟨rfl,rfl⟩,⟨⟨rfl,rfl⟩,⟨⟨rfl,rfl⟩,⟨⟨rfl,rfl⟩,trivial⟩⟩⟩⟩ (fun a=>⟨rfl,rfl,rfl,rfl,rfl,rfl,rfl,rfl⟩) (fun a hF=>?_)
  |refine GX.o (res:=zc8) (meF:=z71) hF ?_;exact GX.mk (zft yl_l yl_T _) (LeX.a [(250000,33000001),(250001,33000003)]) rfl _ rfl (by repeat' first|exact Sub.nil _|exact Sub.refl _|refine Sub.agg ?_|refine Sub.tup ?_|refine Sub.fn ?_|exact SubL.nil|refine SubL.cons ?_ ?_|refine Sub.sl _ ?_|exact SubE.nil|refine SubE.cons ?_ ?_) [100000,100001] ⟨Or.inl ⟨0,0,8,_,_,_,_,_,_,rfl,rfl,rfl,rfl,rfl⟩,⟨Or.inl ⟨0,0,9,_,_,_,_,_,_,rfl,rfl,rfl,rfl,rfl⟩,trivial⟩⟩ rfl
  |exact ⟨_,hF,LeX.a []⟩
  |refine YldX.oM (z75 63 hF) [(100000,100000),(200000,33000001),(100001,100001),(200001,33000003)] [(100000,100000),(250000,64000001),(100001,100001),(250001,64000003)] _ _ _ z4m (fun _=>AV.bool true) [33000001,33000003] (fun a h=>hY h) rfl rfl rfl rfl rfl ⟨⟨rfl,rfl⟩,⟨⟨rfl,rfl⟩,⟨⟨rfl,rfl⟩,⟨⟨rfl,rfl⟩,trivial⟩⟩⟩⟩ (fun a=>⟨rfl,rfl,rfl,rfl,rfl,rfl,rfl,rfl⟩) (fun a hF=>?_)
  |exact ⟨_,hF,LeX.a [(33000001,64000001),(33000003,64000003)]⟩
  |refine zhm hF (LeX.a []) (fun m v hF=>?_);unfold z1l at hF
  |refine GX.o (res:=zc8) (meF:=z71) hF ?_;exact GX.mk (zft yl_l yl_T _) (LeX.a [(250000,200000),(250001,200001)]) rfl _ rfl (by repeat' first|exact Sub.nil _|exact Sub.refl _|refine Sub.agg ?_|refine Sub.tup ?_|refine Sub.fn ?_|exact SubL.nil|refine SubL.cons ?_ ?_|refine Sub.sl _ ?_|exact SubE.nil|refine SubE.cons ?_ ?_) [100000,100001] ⟨Or.inl ⟨0,0,8,_,_,_,_,_,_,rfl,rfl,rfl,rfl,rfl⟩,⟨Or.inl ⟨0,0,9,_,_,_,_,_,_,rfl,rfl,rfl,rfl,rfl⟩,trivial⟩⟩ rfl
  |refine YldX.oM (z75 63 hF) [(100000,100000),(200000,200000),(100001,100001),(200001,200001)] [(100000,100000),(250000,64000001),(100001,100001),(250001,64000003)] _ _ _ z4m (fun _=>AV.bool true) [200000,200001] (fun a h=>hY h) rfl rfl rfl rfl rfl ⟨⟨rfl,rfl⟩,⟨⟨rfl,rfl⟩,⟨⟨rfl,rfl⟩,⟨⟨rfl,rfl⟩,trivial⟩⟩⟩⟩ (fun a=>⟨rfl,rfl,rfl,rfl,rfl,rfl,rfl,rfl⟩) (fun a hF=>?_)
  |exact ⟨_,hF,LeX.a [(200000,64000001),(200001,64000003)]⟩
  |refine zhl hF (LeX.a []) (fun m v hF=>?_);unfold z1k at hF
  |refine AndA ?_
instance yah {n a0 a1}:CI E0 (zcm n a0 a1) true 130 [z0d a0,z0d a1,.ref [.fn 92 []]] (fun r=>.bool (r)):=by unfold zcm;exact CI.w [] Tryz.func130
def zlf (m0:(List z06)):List (Nat×Ent):=[(200000,.row 44 1 (m0.map z0d))]
def z98 (r:(List z06)):List (Nat×Ent):=[(260000,.row 44 1 (r.map z0d))]
def zbf (r:(List z06)):AV:=.row 260000
def zgo (r:(List z06)):AS:=⟨[(4,.row 260000)],z98 r⟩
theorem zj9 {n m0 r}(hF:z9c n m0=some r):ConG E0.P none (CalF E0.P 129 0) [.row 200000,.fn 130 [.ref [.fn 92 []]]] [] (zlf m0) (zbf r) (z98 r):=by
 unfold z9c at hF
 refine ConG.walk (E:=(E0p 2)) (caps:=[]) _ Tryz.func129 rfl rfl rfl rfl rfl ?_
 repeat' first
  |refine AW.step ?_;conv=>whnf
  |refine z14.o hF (fun hF=>?_) fun hF=>?_
  |exact GX.A (res:=zbf) (meF:=z98) hF zgo (h1:=LeX.a [(260000,200000)])
  |refine NatX.o hF (fun m hF=>?_)
  |refine EltX.o z0d hF (fun x hF=>?_)
  |refine z1n.I hF fun a hF=>?_
  |refine OpX.sub hF rfl rfl rfl rfl rfl rfl rfl rfl rfl rfl (fun m hF=>?_)
  |refine OpX.clr z0d hF rfl rfl rfl rfl rfl rfl rfl rfl rfl rfl rfl (by first|exact SubL.refl _|(repeat' first|exact SubL.nil|refine SubL.cons ?_ ?_|exact Sub.refl _|exact Sub.nil _|refine Sub.agg ?_)) (fun l hF=>?_)
  |refine SlsX.o z0d hF (fun l hF=>?_)
  |exact GX.A (res:=zbf) (meF:=z98) hF zgo (h1:=LeX.a [(260000,64)])
  |refine OpX.lns hF rfl rfl rfl rfl rfl rfl rfl (fun hF=>?_)
  |refine OpX.ixs hF rfl rfl rfl rfl rfl rfl rfl rfl rfl rfl (fun m hF=>?_)
  |refine SetX.o z0d hF (fun x=>rfl) (fun x=>(by first|exact SubL.refl _|(repeat' first|exact SubL.nil|refine SubL.cons ?_ ?_|exact Sub.refl _|exact Sub.nil _|refine Sub.agg ?_))) (fun l hF=>?_)
  |exact ⟨_,hF,LeX.a []⟩
  |refine z8h.I hF (LeX.a []) fun m v hF=>?_
  |refine AndA ?_
  |refine EqX.A ?_
def zv5 (m0:(List z06)):List (Nat×Ent):=[(200000,.row 44 1 (m0.map z0d))]
def zez (r:(List z06)):List (Nat×Ent):=[(260000,.row 44 1 (r.map z0d))]
def zgg (r:(List z06)):AV:=.row 260000
def zv2 (r:(List z06)):AS:=⟨[(4,.row 260000)],zez r⟩
theorem zja {n m0 r}(hF:zb6 n m0=some r):ConG E0.P none (CalF E0.P 91 0) [.row 200000,.fn 92 []] [] (zv5 m0) (zgg r) (zez r):=by
 unfold zb6 at hF
 refine ConG.walk (E:=(E0p 2)) (caps:=[]) _ Tryz.func91 rfl rfl rfl rfl rfl ?_
 repeat' first
  |refine AW.frbO hF 3 rfl rfl (fun hF=>?_)
  |refine AW.regO hF fun hF=>?_
  |refine AW.stepU [2] ?_;conv=>whnf
  |refine zap.oI hF 200000 (fun r=>r) z0d (fun _=>AV.tup []) rfl (fun a h=>(ConC.env rfl (ydz h))) rfl rfl rfl (fun a hF=>?_)
  |refine zap.oM (z75 10 hF) [(200000,200000)] [(260000,11000000)] _ _ z98 zbf [200000] (fun a h=>ConG.up (zj9 h)) (z0y Tryz.func129 rfl rfl) rfl rfl rfl ⟨⟨rfl,rfl⟩,trivial⟩ (fun a=>⟨rfl,rfl,rfl,rfl,rfl,rfl,rfl,rfl⟩) (fun a hF=>?_)
  |exact GX.A (res:=zgg) (meF:=zez) hF zv2 (h1:=LeX.a [(260000,11000000)])
instance y3w {n a0 a1 a2}:CI E0 (z56 n a0 a1 a2) false 85 [.ref [aI a0.fa.fVars,aI a0.fa.fScopes,.sl 1 (a0.fa.fStates.map z0p),.sl 17 (a0.fa.fEdges.map z0w),.mapv (List.map (encM z1c z02) (a0.fheld))],.sl 3 (a1.map z01),z02 a2] (fun r=>.tup [.sl 3 (r.1.map z01),.sl 1 (r.2.map z0d)]):=⟨fun {r} hF=>by
 unfold z56 at hF
 refine Con.walkM (E:=E0r) _ Tryz.func85 rfl (z0y Tryz.func85 rfl rfl) rfl (Or.inl rfl) ?_ rfl rfl rfl
 repeat' first
  |refine AW.step ?_;conv=>whnf
  |refine z14.o hF (fun hF=>?_) fun hF=>?_
  |refine zap.oM (z75 39 hF) [(200000,811000001)] [(260000,40000000)] _ _ zi3 zkk [811000001] (fun a h=>ConG.up (zs8 h)) (z0y Tryz.func121 rfl rfl) rfl rfl rfl ⟨⟨rfl,rfl⟩,trivial⟩ (fun a=>⟨rfl,rfl,rfl,rfl,rfl,rfl,rfl,rfl⟩) (fun a hF=>?_)
  |refine zap.oM (z75 41 hF) [(200000,811000003)] [(260000,42000000)] _ _ zez zgg [811000003] (fun a h=>ConG.up (zja h)) (z0y Tryz.func91 rfl rfl) rfl rfl rfl ⟨⟨rfl,rfl⟩,trivial⟩ (fun a=>⟨rfl,rfl,rfl,rfl,rfl,rfl,rfl,rfl⟩) (fun a hF=>?_)
  |refine IdxX.A hF fun x hF=>?_
  |refine z1n.oM (z75 22 hF) [] [(3,23000000),(4,23000001),(5,23000002)] _ _ zdn zfz [] (fun a h=>ConG.up (zo1 h)) (z0y Tryz.func120 rfl rfl) rfl rfl rfl trivial (fun a=>⟨rfl,rfl,rfl,rfl,rfl,rfl,rfl,rfl⟩) (fun a hF=>?_)
  |refine AppX.oA hF fun l hF=>?_
  |refine BX.o (meF:=z4m) hF ?_;exact BX.mk (zh0 _) (LeX.a [(250000,200000),(250001,32)]) rfl rfl
  |refine BX.o (meF:=z4m) hF ?_;exact BX.mk (zh0 _) (LeX.a [(250000,36),(250001,200001)]) rfl rfl
  |refine RngX.oM (z75 810 hF) [(100000,8),(100001,9),(100002,23000000),(100003,23000001),(100004,23000002),(200000,811000001),(200001,811000003)] [(100000,8),(250000,811500001),(100001,9),(250001,811500003),(100002,23000000),(100003,23000001),(100004,23000002)] _ _ _ z71 [811000001,811000003] (fun x h l D fn T hT=>zi2 h l _ T (fun hF=>ConG.round (E:=E0p 10) rfl rfl rfl rfl rfl rfl ?_ l D fn T hT)) (z0y Tryz.func156 rfl rfl) rfl rfl rfl rfl rfl ⟨⟨rfl,rfl⟩,⟨⟨rfl,rfl⟩,trivial⟩⟩ ⟨⟨rfl,rfl⟩,⟨⟨rfl,rfl⟩,⟨⟨rfl,rfl⟩,⟨⟨rfl,rfl⟩,⟨⟨rfl,rfl⟩,⟨⟨rfl,rfl⟩,⟨⟨rfl,rfl⟩,trivial⟩⟩⟩⟩⟩⟩⟩ (fun a=>⟨rfl,rfl,rfl,rfl,rfl,rfl,rfl,rfl⟩) (fun a hF=>?_)
  |exact ⟨_,hF,LeX.a [(811000001,811500001),(811000003,811500003)]⟩
  |refine z8h.I hF ?_ fun m v hF=>?_
  |exact LeX.trans (LeX.adoptC 8 0 811000001 60 3 57 _ rfl rfl rfl) (LeX.trans (LeX.adoptC 9 0 811000003 44 1 50 _ rfl rfl rfl) (LeX.a []))
  |refine AndA ?_
  |exact RetX.oB hF⟩
end
noncomputable section
abbrev zvy {n a3 a2 x2 b}:=li (zdk n a3 a2 x2 b) (fun c=>⟨[(2,.sl 3 (a2.map z01)),(7,.ptr 7 0),(11,.ref [aI x2.fa.fVars,aI x2.fa.fScopes,.sl 1 (x2.fa.fStates.map z0p),.sl 17 (x2.fa.fEdges.map z0w),.mapv (List.map (encM z1c z02) (x2.fheld))]),(31,.sl 3 (a2.map z01)),(32,aI (((a2.map z01).length:Int))),(33,aI c)],[(7,.box 71 (z16 a3))]⟩) fun _ _=>zdk.eq_2 ..
abbrev zsh {n a0 b}:=li (zb7 n a0 b) (fun c=>⟨[(3,.row 7023),(6,.sl 3 (a0.map z01)),(7,aI (((a0.map z01).length:Int))),(8,aI c.1)],[(7023,.row 60 3 (c.2.map z01))]⟩) fun _ _=>zb7.eq_2 ..
abbrev zrk {n a1 a0 b}:=li (zes n a1 a0 b) (fun c=>⟨[(1,.sl 5 (a1.map z02)),(2,.fn 38 []),(3,.ptr 3 0),(8,.row 7016),(17,.sl 5 (a1.map z02)),(18,aI (((a1.map z02).length:Int))),(19,aI c.1)],[(3,.box 25 (z0g a0)),(7016,.row 57 1 (List.map (fun q=>AV.sl 3 (List.map z01 q)) (c.2)))]⟩) fun _ _=>zes.eq_2 ..
abbrev y5h {n a1 x2 b d c}:=jf (zf9 n a1 x2 b d c) (fun e=>⟨[(7,.ref [aI x2.fa.fVars,aI x2.fa.fScopes,.sl 1 (x2.fa.fStates.map z0p),.sl 17 (x2.fa.fEdges.map z0w),.mapv (List.map (encM z1c z02) (x2.fheld))]),(10,.row 7058),(13,.sl 3 (c.1.map z01)),(14,.sl 1 (c.2.map z0d)),(26,.sl 5 (a1.map z02)),(27,aI (((a1.map z02).length:Int))),(28,aI b.2.1),(54,.bool (e))],[(7058,.row 44 1 (b.2.2.map z0d))]⟩) fun _=>zf9.eq_1 ..
abbrev y5g {n a1 x2 c}:=li (zdz n a1 x2 c) (fun b=>⟨[(7,.ref [aI x2.fa.fVars,aI x2.fa.fScopes,.sl 1 (x2.fa.fStates.map z0p),.sl 17 (x2.fa.fEdges.map z0w),.mapv (List.map (encM z1c z02) (x2.fheld))]),(9,.sl 3 (b.1.map z01)),(10,.row 7058),(26,.sl 5 (a1.map z02)),(27,aI (((a1.map z02).length:Int))),(28,aI b.2.1)],[(7058,.row 44 1 (b.2.2.map z0d))]⟩) fun _ _=>zdz.eq_2 ..
abbrev zrr {n c a0 d}:=li (zai n c a0 d) (fun b=>⟨[(1,.fn 152 [.ptr 100000 0]),(16,.sl 8 (a0.fArgs.map idA)),(17,aI (((a0.fArgs.map idA).length:Int))),(18,aI b.1)],[(100000,.box 212 [.bool (b.2.1),.bool (b.2.2.1),.bool (b.2.2.2.1),.bool (b.2.2.2.2.1),.bool (b.2.2.2.2.2.1),.bool (b.2.2.2.2.2.2.1),.bool (b.2.2.2.2.2.2.2.1),.bool (b.2.2.2.2.2.2.2.2.1),.bool (b.2.2.2.2.2.2.2.2.2.1),.bool (b.2.2.2.2.2.2.2.2.2.2.1),.bool (b.2.2.2.2.2.2.2.2.2.2.2.1),.bool (b.2.2.2.2.2.2.2.2.2.2.2.2.1),.bool (b.2.2.2.2.2.2.2.2.2.2.2.2.2.1),.bool (b.2.2.2.2.2.2.2.2.2.2.2.2.2.2.1),.bool (b.2.2.2.2.2.2.2.2.2.2.2.2.2.2.2.1),.bool (b.2.2.2.2.2.2.2.2.2.2.2.2.2.2.2.2)])]⟩) fun _ _=>zai.eq_2 ..
abbrev zst {n x1 b}:=li (z0f n x1 b) (fun c=>⟨[(4,.row 7019),(10,.agg [.bool (x1.2.1),.bool (x1.2.2.1),.bool (x1.2.2.2.1),.bool (x1.2.2.2.2.1),.bool (x1.2.2.2.2.2.1),.bool (x1.2.2.2.2.2.2.1),.bool (x1.2.2.2.2.2.2.2.1),.bool (x1.2.2.2.2.2.2.2.2.1),.bool (x1.2.2.2.2.2.2.2.2.2.1),.bool (x1.2.2.2.2.2.2.2.2.2.2.1),.bool (x1.2.2.2.2.2.2.2.2.2.2.2.1),.bool (x1.2.2.2.2.2.2.2.2.2.2.2.2.1),.bool (x1.2.2.2.2.2.2.2.2.2.2.2.2.2.1),.bool (x1.2.2.2.2.2.2.2.2.2.2.2.2.2.2.1),.bool (x1.2.2.2.2.2.2.2.2.2.2.2.2.2.2.2.1),.bool (x1.2.2.2.2.2.2.2.2.2.2.2.2.2.2.2.2)]),(11,aI c.1)],[(7019,.row 3 1 (c.2.map aI))]⟩) fun _ _=>z0f.eq_2 ..
abbrev zk8 {n m0n a1 a0 c d e}:=li (z5j n m0n a1 a0 c d e) (fun b=>⟨[(0,aI a0),(2,.ptr 100000 0),(9,.sl 8 (a1.map idA)),(10,aI (((a1.map idA).length:Int))),(11,aI c.1),(16,.sl 1 (d.map aI)),(17,aI (((d.map aI).length:Int))),(18,aI b.1)],[(100000,.box 130 [.cont (m0n) 200000]),(200000,.are 136 (b.2).1 (List.map (enO aI AV.bool) (b.2).2))]⟩) fun _ _=>z5j.eq_2 ..
abbrev zk9 {n m0n a1 a0 c}:=li (z3l n m0n a1 a0 c) (fun b=>⟨[(0,aI a0),(2,.ptr 100000 0),(9,.sl 8 (a1.map idA)),(10,aI (((a1.map idA).length:Int))),(11,aI b.1)],[(100000,.box 130 [.cont (m0n) 200000]),(200000,.are 136 (b.2).1 (List.map (enO aI AV.bool) (b.2).2))]⟩) fun _ _=>z3l.eq_2 ..
attribute [instance] zvy zsh zrk y5h y5g zrr zst zk8 zk9
instance yia {n a0 a1 a2 a3}:CI E0 (zfg n a0 a1 a2 a3) false 71 [z0n a0,.sl 5 (a1.map z02),.sl 3 (a2.map z01),z02 a3] (fun r=>.tup [.sl 3 (r.1.map z01),.sl 1 (r.2.1.map z0d),aI r.2.2]):=⟨fun {r} hF=>by
 unfold zfg at hF
 refine cw Tryz.func71 ?_
 repeat' first
  |refine AW.jI hF (fun v hF=>?_) fun hF=>?_
  |refine AW.regO hF fun hF=>?_
  |refine AW.stepU [17] ?_;conv=>whnf
  |refine z14.o hF (fun hF=>?_) fun hF=>?_
  |refine z1n.oP hF zbs (fun u=>.tup [.nilp,aI (u.2)]) (fun u y=>.tup [.ref [aI (y.fa.fVars),aI (y.fa.fScopes),.sl 1 (y.fa.fStates.map z0p),.sl 17 (y.fa.fEdges.map z0w),.mapv (List.map (encM z1c z02) (y.fheld))],aI (u.2)]) (fun u h=>by simp only [zbs,h,zbd]) (fun u y h=>by simp only [zbs,h,zbd]) (fun a h=>zil.h h) (fun a hF=>?_) (fun a y hF=>?_)
  |(cases hF;done)
  |refine z1n.I hF fun a hF=>?_
  |exact ⟨_,hF,LeX.a []⟩
  |refine IdxX.A hF fun x hF=>?_
  |refine z8h.I hF (LeX.a []) fun m v hF=>?_
  |exact RetX.oB hF⟩
instance ydf {n a0}:CI E0 (zdl n a0) false 38 [.sl 3 (a0.map z01)] (fun r=>.sl 3 (r.map z01)):=⟨fun {r} hF=>by
 unfold zdl at hF
 refine cw Tryz.func38 ?_
 repeat' first
  |refine AW.step ?_;conv=>whnf
  |refine z14.o hF (fun hF=>?_) fun hF=>?_
  |refine z14.t ?_
  |refine z14.f ?_
  |refine IdxX.A hF fun x hF=>?_
  |refine z1n.o hF (fun q=>AV.sl 4 (List.map z0b q)) (fun a h=>yat h) (fun a hF=>?_)
  |refine z1n.o hF (fun q=>AV.sl 2 (List.map z09 q)) (fun a h=>yar h) (fun a hF=>?_)
  |refine AppX.oA hF fun l hF=>?_
  |exact ⟨_,hF,LeX.a [(7023,23)]⟩
  |refine z8h.I hF ?_ fun m v hF=>?_
  |exact LeX.trans (LeX.adopt 3 7023 60 3 rfl rfl) (LeX.a [])
  |refine AndA ?_
  |refine EqX.A ?_
  |exact RetX.oB hF⟩
instance yak {n a0 a1}:CI E0 (zhu n a0 a1) false 37 [z0n a0,.sl 5 (a1.map z02),.fn 38 []] (fun r=>.tup [.sl 1 (List.map (fun q=>AV.sl 3 (List.map z01 q)) (r.1)),aI r.2]):=⟨fun {r} hF=>by
 unfold zhu at hF
 refine Con.env (E:=E0b) rfl rfl ?_
 refine Con.walk _ Tryz.func37 rfl (z0y Tryz.func37 rfl rfl) rfl (Or.inl rfl) ?_
 repeat' first
  |refine AW.step ?_;conv=>whnf
  |refine z14.o hF (fun hF=>?_) fun hF=>?_
  |refine z14.t ?_
  |refine z14.f ?_
  |refine z1n.I hF fun a hF=>?_
  |refine OpX.bldS z01 hF rfl rfl rfl rfl rfl rfl rfl rfl rfl rfl rfl rfl rfl rfl (fun l hF=>?_)
  |refine OpX.bldR (fun q=>AV.sl 3 (List.map z01 q)) hF rfl rfl rfl rfl rfl rfl rfl rfl rfl rfl rfl rfl rfl rfl rfl rfl (by first|exact SubR.refl _|(repeat' first|exact SubR.nil|refine SubR.cons ?_ ?_|exact SubL.nil|refine SubL.cons ?_ ?_|exact Sub.refl _|exact Sub.nil _)) rfl (fun l hF=>?_)
  |refine OpX.bld (fun q=>AV.sl 3 (List.map z01 q)) hF rfl rfl rfl rfl rfl rfl rfl rfl rfl rfl rfl rfl rfl rfl rfl rfl (fun l hF=>?_)
  |refine IdxX.A hF fun x hF=>?_
  |refine SlsX.o z02 hF (fun l hF=>?_)
  |refine NatX.o hF (fun m hF=>?_)
  |refine EltX.o (fun q=>AV.sl 3 (List.map z01 q)) hF (fun x hF=>?_)
  |refine OpX.bldS (fun q=>AV.sl 3 (List.map z01 q)) hF rfl rfl rfl rfl rfl rfl rfl rfl rfl rfl rfl rfl rfl rfl (fun l hF=>?_)
  |refine AppX.oA hF fun l hF=>?_
  |exact ⟨_,hF,LeX.a [(7016,51)]⟩
  |refine z8h.I hF ?_ fun m v hF=>?_
  |exact LeX.a [(7016,16)]
  |refine AndA ?_
  |refine EqX.A ?_
  |exact RetX.oB hF⟩
instance y8t {n a0 a1}:CI E0 (zhd n a0 a1) false 13 [z0n a0,.sl 5 (a1.map z02)] (fun r=>.tup [.agg [.sl 1 (List.map (fun q=>AV.sl 3 (List.map z01 q)) (r.1.fSets))],aI r.2]):=by unfold zhd;exact CI.w [] Tryz.func13
instance yoj {n a0 a1}:CI E0 (zqy n a0 a1) false 56 [z0n a0,.sl 5 (a1.map z02)] (fun r=>.tup [.sl 3 (r.1.map z01),.sl 1 (r.2.1.map z0d),aI r.2.2]):=⟨fun {r} hF=>by
 unfold zqy at hF
 refine cw Tryz.func56 ?_
 repeat' first
  |refine AW.jI hF (fun v hF=>?_) fun hF=>?_
  |refine AW.regO hF fun hF=>?_
  |refine AW.stepU [10] ?_;conv=>whnf
  |refine z14.o hF (fun hF=>?_) fun hF=>?_
  |refine z14.t ?_
  |refine z1n.oP hF zbs (fun u=>.tup [.nilp,aI (u.2)]) (fun u y=>.tup [.ref [aI (y.fa.fVars),aI (y.fa.fScopes),.sl 1 (y.fa.fStates.map z0p),.sl 17 (y.fa.fEdges.map z0w),.mapv (List.map (encM z1c z02) (y.fheld))],aI (u.2)]) (fun u h=>by simp only [zbs,h,zbd]) (fun u y h=>by simp only [zbs,h,zbd]) (fun a h=>zil.h h) (fun a hF=>?_) (fun a y hF=>?_)
  |refine z1n.I hF fun a hF=>?_
  |(cases hF;done)
  |refine zap.oM (z75 62 hF) [(200000,7058)] [(260000,63000000)] _ _ zez zgg [7058] (fun a h=>ConG.up (zja h)) (z0y Tryz.func91 rfl rfl) rfl rfl rfl ⟨⟨rfl,rfl⟩,trivial⟩ (fun a=>⟨rfl,rfl,rfl,rfl,rfl,rfl,rfl,rfl⟩) (fun a hF=>?_)
  |refine IdxX.A hF fun x hF=>?_
  |refine AppX.oA hF fun l hF=>?_
  |exact ⟨_,hF,LeX.a [(7058,58)]⟩
  |exact ⟨_,hF,LeX.a []⟩
  |refine z8h.I hF ?_ fun m v hF=>?_
  |exact LeX.trans (LeX.adopt 10 7058 44 1 rfl rfl) (LeX.a [])
  |exact RetX.oB hF⟩
instance yi9 {n a0 a1}:CI E0 (zhc n a0 a1) false 23 [z0n a0,.sl 5 (a1.map z02)] (fun r=>.tup [.sl 1 (r.1.map z0d),aI r.2]):=by unfold zhc;exact CI.w [] Tryz.func23
def zu5 (a0:z0r)(m0:B16):List (Nat×Ent):=[(100000,.box 212 [.bool (m0.1),.bool (m0.2.1),.bool (m0.2.2.1),.bool (m0.2.2.2.1),.bool (m0.2.2.2.2.1),.bool (m0.2.2.2.2.2.1),.bool (m0.2.2.2.2.2.2.1),.bool (m0.2.2.2.2.2.2.2.1),.bool (m0.2.2.2.2.2.2.2.2.1),.bool (m0.2.2.2.2.2.2.2.2.2.1),.bool (m0.2.2.2.2.2.2.2.2.2.2.1),.bool (m0.2.2.2.2.2.2.2.2.2.2.2.1),.bool (m0.2.2.2.2.2.2.2.2.2.2.2.2.1),.bool (m0.2.2.2.2.2.2.2.2.2.2.2.2.2.1),.bool (m0.2.2.2.2.2.2.2.2.2.2.2.2.2.2.1),.bool (m0.2.2.2.2.2.2.2.2.2.2.2.2.2.2.2)])]
def zdo (r:Int×B16):List (Nat×Ent):=[(100000,.box 212 [.bool (r.2.1),.bool (r.2.2.1),.bool (r.2.2.2.1),.bool (r.2.2.2.2.1),.bool (r.2.2.2.2.2.1),.bool (r.2.2.2.2.2.2.1),.bool (r.2.2.2.2.2.2.2.1),.bool (r.2.2.2.2.2.2.2.2.1),.bool (r.2.2.2.2.2.2.2.2.2.1),.bool (r.2.2.2.2.2.2.2.2.2.2.1),.bool (r.2.2.2.2.2.2.2.2.2.2.2.1),.bool (r.2.2.2.2.2.2.2.2.2.2.2.2.1),.bool (r.2.2.2.2.2.2.2.2.2.2.2.2.2.1),.bool (r.2.2.2.2.2.2.2.2.2.2.2.2.2.2.1),.bool (r.2.2.2.2.2.2.2.2.2.2.2.2.2.2.2.1),.bool (r.2.2.2.2.2.2.2.2.2.2.2.2.2.2.2.2)])]
def zfu (r:Int×(Bool×Bool×Bool×Bool×Bool×Bool×Bool×Bool×Bool×Bool×Bool×Bool×Bool×Bool×Bool×Bool)):AV:=aI (r.1)
def zu2 (r:Int×B16):AS:=⟨[(3,aI r.1),(1,.ptr 100000 0)],zdo r⟩
theorem zic {n a0 m0 r}(hF:ze3 n a0 m0=some r):ConG E0.P none (CalF E0.P 152 0) [z0l a0,.ptr 100000 0] [] (zu5 a0 m0) (zfu r) (zdo r):=by
 unfold ze3 at hF
 refine ConG.walk (E:=(E0p 2)) (caps:=[]) _ Tryz.func152 rfl rfl rfl rfl rfl ?_
 repeat' first
  |refine AW.step ?_;conv=>whnf
  |refine z14.o hF (fun hF=>?_) fun hF=>?_
  |refine z14.t ?_
  |refine z14.f ?_
  |refine z1n.I hF fun a hF=>?_
  |refine NatX.oS hF rfl (fun hF=>?_) (fun hF=>?_)
  |(cases hF;done)
  |exact GX.A (res:=zfu) (meF:=zdo) hF zu2
  |refine AndA ?_
  |refine EqX.A ?_
def zv6 (a0:z0r)(m0:B16):List (Nat×Ent):=[(100000,.box 212 [.bool (m0.1),.bool (m0.2.1),.bool (m0.2.2.1),.bool (m0.2.2.2.1),.bool (m0.2.2.2.2.1),.bool (m0.2.2.2.2.2.1),.bool (m0.2.2.2.2.2.2.1),.bool (m0.2.2.2.2.2.2.2.1),.bool (m0.2.2.2.2.2.2.2.2.1),.bool (m0.2.2.2.2.2.2.2.2.2.1),.bool (m0.2.2.2.2.2.2.2.2.2.2.1),.bool (m0.2.2.2.2.2.2.2.2.2.2.2.1),.bool (m0.2.2.2.2.2.2.2.2.2.2.2.2.1),.bool (m0.2.2.2.2.2.2.2.2.2.2.2.2.2.1),.bool (m0.2.2.2.2.2.2.2.2.2.2.2.2.2.2.1),.bool (m0.2.2.2.2.2.2.2.2.2.2.2.2.2.2.2)])]
def zb3 (r:Int×B16):List (Nat×Ent):=[(100000,.box 212 [.bool (r.2.1),.bool (r.2.2.1),.bool (r.2.2.2.1),.bool (r.2.2.2.2.1),.bool (r.2.2.2.2.2.1),.bool (r.2.2.2.2.2.2.1),.bool (r.2.2.2.2.2.2.2.1),.bool (r.2.2.2.2.2.2.2.2.1),.bool (r.2.2.2.2.2.2.2.2.2.1),.bool (r.2.2.2.2.2.2.2.2.2.2.1),.bool (r.2.2.2.2.2.2.2.2.2.2.2.1),.bool (r.2.2.2.2.2.2.2.2.2.2.2.2.1),.bool (r.2.2.2.2.2.2.2.2.2.2.2.2.2.1),.bool (r.2.2.2.2.2.2.2.2.2.2.2.2.2.2.1),.bool (r.2.2.2.2.2.2.2.2.2.2.2.2.2.2.2.1),.bool (r.2.2.2.2.2.2.2.2.2.2.2.2.2.2.2.2)])]
def zcj (r:Int×(Bool×Bool×Bool×Bool×Bool×Bool×Bool×Bool×Bool×Bool×Bool×Bool×Bool×Bool×Bool×Bool)):AV:=aI (r.1)
def zv3 (r:Int×B16):AS:=⟨[(4,aI r.1),(1,.fn 152 [.ptr 100000 0])],zb3 r⟩
theorem zjc {n a0 m0 r}(hF:za0 n a0 m0=some r):ConG E0.P none (CalF E0.P 151 0) [z0l a0,.fn 152 [.ptr 100000 0]] [] (zv6 a0 m0) (zcj r) (zb3 r):=by
 induction n generalizing a0 m0 r
 case zero=>cases hF
 case succ n ih =>
 unfold za0 at hF
 refine ConG.walk (E:=(E0p 2)) (caps:=[]) _ Tryz.func151 rfl rfl rfl rfl rfl ?_
 repeat' first
  |refine AW.step ?_;conv=>whnf
  |refine z14.o hF (fun hF=>?_) fun hF=>?_
  |refine z14.t ?_
  |refine z14.f ?_
  |refine zap.oM (z75 11 hF) [(100000,100000)] [(100000,100000)] _ _ zdo zfu [] (fun a h=>ConG.up (zic h)) (z0y Tryz.func152 rfl rfl) rfl rfl rfl ⟨⟨rfl,rfl⟩,trivial⟩ (fun a=>⟨rfl,rfl,rfl,rfl,rfl,rfl,rfl,rfl⟩) (fun a hF=>?_)
  |refine z1n.oM (z75 11 hF) [(100000,100000)] [(100000,100000)] _ _ zdo zfu [] (fun a h=>ConG.up (zic h)) (z0y Tryz.func152 rfl rfl) rfl rfl rfl ⟨⟨rfl,rfl⟩,trivial⟩ (fun a=>⟨rfl,rfl,rfl,rfl,rfl,rfl,rfl,rfl⟩) (fun a hF=>?_)
  |refine GX.o (res:=zcj) (meF:=zb3) hF ?_;exact GX.mk (zv3 _) (LeX.a []) rfl _ rfl (by repeat' first|exact Sub.nil _|exact Sub.refl _|refine Sub.agg ?_|refine Sub.tup ?_|refine Sub.fn ?_|exact SubL.nil|refine SubL.cons ?_ ?_|refine Sub.sl _ ?_|exact SubE.nil|refine SubE.cons ?_ ?_) [100000] ⟨Or.inr ⟨1,0,_,_,_,_,_,Nat.le_of_ble_eq_true rfl,rfl,rfl,rfl,rfl,rfl⟩,trivial⟩ rfl
  |refine IdxX.oD hF z3v (fun x hF=>?_)
  |refine zap.oM (z75 24 hF) [(100000,100000)] [(100000,100000)] _ _ zb3 zcj [] (fun a h=>ConG.up (ih h)) (z0y Tryz.func151 rfl rfl) rfl rfl rfl ⟨⟨rfl,rfl⟩,trivial⟩ (fun a=>⟨rfl,rfl,rfl,rfl,rfl,rfl,rfl,rfl⟩) (fun a hF=>?_)
  |refine z1n.oM (z75 24 hF) [(100000,100000)] [(100000,100000)] _ _ zb3 zcj [] (fun a h=>ConG.up (ih h)) (z0y Tryz.func151 rfl rfl) rfl rfl rfl ⟨⟨rfl,rfl⟩,trivial⟩ (fun a=>⟨rfl,rfl,rfl,rfl,rfl,rfl,rfl,rfl⟩) (fun a hF=>?_)
  |exact ⟨_,hF,LeX.a []⟩
  |refine z8h.I hF (LeX.a []) fun m v hF=>?_
  |refine AndA ?_
  |refine EqX.A ?_
instance ydh {n a0}:CI E0 (zdm n a0) false 112 [z0l a0] (fun r=>.sl 1 (r.map aI)):=⟨fun {r} hF=>by
 unfold zdm at hF
 refine cw Tryz.func112 ?_
 repeat' first
  |refine AW.regO hF fun hF=>?_
  |refine AW.stepU [7] ?_;conv=>whnf
  |refine z14.o hF (fun hF=>?_) fun hF=>?_
  |refine z14.t ?_
  |refine z14.f ?_
  |refine zap.oM (z75 9 hF) [(100000,3)] [(100000,3)] _ _ zb3 zcj [] (fun a h=>ConG.up (zjc h)) (z0y Tryz.func151 rfl rfl) rfl rfl rfl ⟨⟨rfl,rfl⟩,trivial⟩ (fun a=>⟨rfl,rfl,rfl,rfl,rfl,rfl,rfl,rfl⟩) (fun a hF=>?_)
  |refine z1n.oM (z75 9 hF) [(100000,3)] [(100000,3)] _ _ zb3 zcj [] (fun a h=>ConG.up (zjc h)) (z0y Tryz.func151 rfl rfl) rfl rfl rfl ⟨⟨rfl,rfl⟩,trivial⟩ (fun a=>⟨rfl,rfl,rfl,rfl,rfl,rfl,rfl,rfl⟩) (fun a hF=>?_)
  |refine NatX.oS hF rfl (fun hF=>?_) (fun hF=>?_)
  |(cases hF;done)
  |refine AppX.oA hF fun l hF=>?_
  |exact ⟨_,hF,LeX.a [(7019,19)]⟩
  |exact ⟨_,hF,LeX.a []⟩
  |refine z8h.I hF ?_ fun m v hF=>?_
  |exact LeX.trans (LeX.adopt 4 7019 3 1 rfl rfl) (LeX.a [])
  |refine AndA ?_
  |refine EqX.A ?_
  |exact RetX.oB hF⟩
def zoe (a0:Int)(a1:(List AV))(m0n:Nat)(m0:(Ars (List (Int×Bool)))):List (Nat×Ent):=[(100000,.box 130 [.cont (m0n) 200000]),(200000,.are 136 (m0).1 (List.map (enO aI AV.bool) (m0).2))]
def za5 (r:Nat×(Ars (List (Int×Bool)))):List (Nat×Ent):=[(100000,.box 130 [.cont (r.1) 270000]),(270000,.are 136 (r.2).1 (List.map (enO aI AV.bool) (r.2).2))]
def zc9 (r:Nat×(Ars (List (Int×Bool)))):AV:=.tup []
def zoc (r:Nat×(Ars (List (Int×Bool)))):AS:=⟨[(2,.ptr 100000 0)],za5 r⟩
end
noncomputable section
abbrev zhn {n m1 m0n a0 c d e}:=li (z35 n m1 m0n a0 c d e) (fun b=>⟨[(0,aI a0),(2,.ptr 100000 0),(9,.row 200001),(10,aI (((m1.map idA).length:Int))),(11,aI c.1),(16,.sl 1 (d.map aI)),(17,aI (((d.map aI).length:Int))),(18,aI b.1)],[(100000,.box 130 [.cont (m0n) 200000]),(200000,.are 136 (b.2).1 (List.map (enO aI AV.bool) (b.2).2)),(200001,.row 111 8 (m1.map idA))]⟩) fun _ _=>z35.eq_2 ..
abbrev zho {n m1 m0n a0 c}:=li (z1y n m1 m0n a0 c) (fun b=>⟨[(0,aI a0),(2,.ptr 100000 0),(9,.row 200001),(10,aI (((m1.map idA).length:Int))),(11,aI b.1)],[(100000,.box 130 [.cont (m0n) 200000]),(200000,.are 136 (b.2).1 (List.map (enO aI AV.bool) (b.2).2)),(200001,.row 111 8 (m1.map idA))]⟩) fun _ _=>z1y.eq_2 ..
abbrev zk7 {n b a1 x6 d}:=li (z5i n b a1 x6 d) (fun c=>⟨[(1,aI a1),(2,.ptr 100000 0),(3,.ptr 100001 0),(4,.ptr 100002 0),(23,.sl 1 (x6.map aI)),(24,aI (((x6.map aI).length:Int))),(25,aI c.1)],[(100000,.box 130 [.cont (c.2.1) 200000]),(100001,.box 175 [.sl 1 (List.map (fun q=>AV.sl 1 (List.map aI q)) (c.2.2.1))]),(100002,.box 177 [.fn 114 [.ptr 100000 0,.ptr 100001 0,.ptr 100002 0]]),(200000,.are 136 (c.2.2.2).1 (List.map (enO aI AV.bool) (c.2.2.2).2))]⟩) fun _ _=>z5i.eq_2 ..
abbrev zmi {n b d e}:=li (z7p n b d e) (fun c=>⟨[(12,.ptr 12 0),(14,.ptr 14 0),(15,aI d.1),(104,.sl 1 (List.map (fun q=>AV.mapv (List.map (encM aI AV.bool) q)) ((aval b)))),(105,aI ((((List.map (fun q=>AV.mapv (List.map (encM aI AV.bool) q)) ((aval b))).length:Nat):Int))),(106,aI d.1),(112,.ptr 112 0)],[(12,.box 130 [.cont (c.1) 7092]),(14,.box 177 [.fn 114 [.ptr 12 0,.ptr 9 0,.ptr 14 0]]),(9,.box 175 [.sl 1 (List.map (fun q=>AV.sl 1 (List.map aI q)) (c.2.1))]),(112,.it (List.map (encM aI AV.bool) (c.2.2.1))),(7092,.are 136 (c.2.2.2).1 (List.map (enO aI AV.bool) (c.2.2.2).2))]⟩) fun _ _=>z7p.eq_2 ..
abbrev zmj {n b d}:=li (z2f n b d) (fun c=>⟨[(12,.ptr 12 0),(14,.ptr 14 0),(104,.sl 1 (List.map (fun q=>AV.mapv (List.map (encM aI AV.bool) q)) ((aval b)))),(105,aI ((((List.map (fun q=>AV.mapv (List.map (encM aI AV.bool) q)) ((aval b))).length:Nat):Int))),(106,aI c.1)],[(12,.box 130 [.cont (c.2.1) 7092]),(14,.box 177 [.fn 114 [.ptr 12 0,.ptr 9 0,.ptr 14 0]]),(9,.box 175 [.sl 1 (List.map (fun q=>AV.sl 1 (List.map aI q)) (c.2.2.1))]),(7092,.are 136 (c.2.2.2).1 (List.map (enO aI AV.bool) (c.2.2.2).2))]⟩) fun _ _=>z2f.eq_2 ..
abbrev zmk {n h c b d f g}:=li (z3d n h c b d f g) (fun e=>⟨[(3,.ptr 3 0),(9,.ptr 9 0),(12,.ptr 12 0),(94,aI (((f:Nat):Int))),(95,aI e.1)],[(3,.box 130 [.cont (c) 7021]),(7021,.are 136 (b).1 (List.map (enO aI AV.bool) (b).2)),(9,.box 175 [.cont (h) 53]),(53,.nest 112 (List.map (enR aI 3 1) (d))),(12,.box 130 [.cont (f) 92]),(92,.are 136 (e.2).1 (List.map (enO aI AV.bool) (e.2).2))]⟩) fun _ _=>z3d.eq_2 ..
abbrev zml {n a0 d c}:=li (z2g n a0 d c) (fun b=>⟨[(1,.ptr 1 0),(3,.ptr 3 0),(4,.fn 111 [.ptr 3 0]),(9,.ptr 9 0),(55,.sl 17 (a0.fEdges.map z0w)),(56,aI (((a0.fEdges.map z0w).length:Int))),(57,aI b.1)],[(1,.box 25 (z0g a0)),(3,.box 130 [.cont (b.2.1) 7021]),(9,.box 175 [.cont (d) 53]),(53,.nest 112 (List.map (enR aI 3 1) (b.2.2.1))),(7021,.are 136 (b.2.2.2).1 (List.map (enO aI AV.bool) (b.2.2.2).2))]⟩) fun _ _=>z2g.eq_2 ..
abbrev zmh {n a0 c d e}:=li (z7o n a0 c d e) (fun b=>⟨[(1,.ptr 1 0),(3,.ptr 3 0),(4,.fn 111 [.ptr 3 0]),(5,aI c.1),(24,.sl 1 (a0.fStates.map z0p)),(25,aI (((a0.fStates.map z0p).length:Int))),(26,aI c.1),(36,.sl 11 (d.fGuards.map z0u)),(37,aI (((d.fGuards.map z0u).length:Int))),(38,aI b.1)],[(1,.box 25 (z0g a0)),(3,.box 130 [.cont (b.2.1) 7021]),(7021,.are 136 (b.2.2).1 (List.map (enO aI AV.bool) (b.2.2).2))]⟩) fun _ _=>z7o.eq_2 ..
abbrev zmm {n a0 c}:=li (z4y n a0 c) (fun b=>⟨[(1,.ptr 1 0),(3,.ptr 3 0),(4,.fn 111 [.ptr 3 0]),(24,.sl 1 (a0.fStates.map z0p)),(25,aI (((a0.fStates.map z0p).length:Int))),(26,aI b.1)],[(1,.box 25 (z0g a0)),(3,.box 130 [.cont (b.2.1) 7021]),(7021,.are 136 (b.2.2).1 (List.map (enO aI AV.bool) (b.2.2).2))]⟩) fun _ _=>z4y.eq_2 ..
abbrev zij {n}:=jf (z2u n) (fun b=>⟨[(4,.bool (b))],[]⟩) fun _=>z2u.eq_1 ..
attribute [instance] zhn zho zk7 zmi zmj zmk zml zmh zmm zij
theorem zgn {n a0 a1 m0n m0 r}(hF:zcd n a0 a1 m0n m0=some r):ConG E0.P none (CalF E0.P 111 0) [aI a0,.sl 8 (a1.map idA),.ptr 100000 0] [] (zoe a0 a1 m0n m0) (zc9 r) (za5 r):=by
 unfold zcd at hF
 refine ConG.walk (E:=(E0p 3)) (caps:=[]) _ Tryz.func111 rfl rfl rfl rfl rfl ?_
 repeat' first
  |refine AW.step ?_;conv=>whnf
  |refine z14.o hF (fun hF=>?_) fun hF=>?_
  |refine z14.t ?_
  |refine z14.f ?_
  |exact GX.A (res:=zc9) (meF:=za5) hF zoc (h1:=LeX.a [(270000,200000)])
  |refine IdxX.oD hF z3v (fun x hF=>?_)
  |refine z1n.I hF fun a hF=>?_
  |exact ⟨_,hF,LeX.a []⟩
  |refine IdxX.A hF fun x hF=>?_
  |refine OpX.ixc hF rfl rfl rfl rfl rfl rfl rfl rfl (fun hF=>?_)
  |refine OpX.aob hF rfl rfl rfl rfl rfl rfl rfl (fun j hF=>?_)
  |refine OpX.aup AV.bool hF (Or.inl rfl) rfl rfl rfl rfl rfl rfl rfl rfl rfl (by first|rfl|kernel_rfl) rfl rfl (fun l hF=>?_)
  |refine z8h.I hF (LeX.a []) fun m v hF=>?_
  |refine AndA ?_
  |refine EqX.A ?_
set_option maxHeartbeats 400000 in
theorem y89 (l:List (Cel 8))(S:Nat->Prop)(v:Value)(w:World)(h:Sl w S 8 encC v l)(hl:l.length<=1000000000) :
  Calls Tryz.prog 113 #[v] w (zvs 111 8 encC l w):=by
 have eok:EOk Tryz.prog 107 111 8 88 (encC (n:=8)):=eokC (sz:=8) (zri 107 _ rfl) rfl (zri 111 _ rfl) (by omega) rfl
 obtain ⟨A,c,rfl,hc,_⟩:=h.form
 have hq:=fun (W:World)=>Lib.run_eql_slice_nil W 107 111 A l.length c 0 0 Tryz.underlying107
 have H:=hide h
 cases A with
 |none =>
  have h0:l=[]:=h.none_nil
  subst h0
  clear h H hl hc
  simp only [length_nil,Option.isNone_none] at hq ⊢
  go_enter Tryz.func113,Tryz.ntmps113
  go_wp2
  go_ret
  exact ⟨none,0,rfl,Own.nil_,by go_grown⟩
 |some ad =>
  clear h
  go_enter Tryz.func113,Tryz.ntmps113
  go_wp2_with (at_builtin;refine zan rfl _ _ rfl eok rfl Own.made_ rfl (H.out.alloc _) (by simp;omega) (by omega) (by simp) ?_;intro A' c' w1 ho hg _)
  go_ret
  exact ⟨A',c',rfl,ho,(Own.made_ (sz:=8) (enc:=encC (n:=8))).grown ((Below.refl _ _).alloc (Nat.le_refl _) _) (Nat.le_refl _) (by simp) hg⟩
theorem ztw {n a r}(hF:zao n a=some r):ConT E0 113 [.sl 8 (List.map idA a)] 111 8 (List.map idA r) (.row 0):=zjd rfl (z0y Tryz.func113 rfl rfl) y89 hF
def zis (a0:Int)(m0n:Nat)(m0:(Ars (List (Int×Bool))))(m1:(List AV)):List (Nat×Ent):=[(100000,.box 130 [.cont (m0n) 200000]),(200000,.are 136 (m0).1 (List.map (enO aI AV.bool) (m0).2)),(200001,.row 111 8 (m1.map idA))]
def z72 (r:Nat×(Ars (List (Int×Bool)))):List (Nat×Ent):=[(100000,.box 130 [.cont (r.1) 270000]),(270000,.are 136 (r.2).1 (List.map (enO aI AV.bool) (r.2).2))]
def za2 (r:Nat×(Ars (List (Int×Bool)))):AV:=.tup []
def zio (r:Nat×(Ars (List (Int×Bool)))):AS:=⟨[(2,.ptr 100000 0)],z72 r⟩
theorem zf8 {n a0 m0n m0 m1 r}(hF:za4 n a0 m0n m0 m1=some r):ConG E0.P none (CalF E0.P 111 0) [aI a0,.row 200001,.ptr 100000 0] [] (zis a0 m0n m0 m1) (za2 r) (z72 r):=by
 unfold za4 at hF
 refine ConG.walk (E:=(E0p 3)) (caps:=[]) _ Tryz.func111 rfl rfl rfl rfl rfl ?_
 repeat' first
  |refine AW.step ?_;conv=>whnf
  |refine z14.o hF (fun hF=>?_) fun hF=>?_
  |refine z14.t ?_
  |refine z14.f ?_
  |exact GX.A (res:=za2) (meF:=z72) hF zio (h1:=LeX.a [(270000,200000)])
  |refine NatX.o hF (fun m hF=>?_)
  |refine EltX.oD hF z3v (fun x hF=>?_)
  |refine z1n.I hF fun a hF=>?_
  |exact ⟨_,hF,LeX.a []⟩
  |refine IdxX.A hF fun x hF=>?_
  |refine OpX.ixc hF rfl rfl rfl rfl rfl rfl rfl rfl (fun hF=>?_)
  |refine OpX.aob hF rfl rfl rfl rfl rfl rfl rfl (fun j hF=>?_)
  |refine OpX.aup AV.bool hF (Or.inl rfl) rfl rfl rfl rfl rfl rfl rfl rfl rfl (by first|rfl|kernel_rfl) rfl rfl (fun l hF=>?_)
  |refine z8h.I hF (LeX.a []) fun m v hF=>?_
  |refine AndA ?_
  |refine EqX.A ?_
theorem yqj (a b:Int):eqK (aI a) (aI b)=some (decide (a=b)):=by simp [eqK,eq1,aI,zjf]
def zod (a0:Int)(a1:Int)(m0n:Nat)(m0:(Ars (List (Int×Bool))))(m1:(List (List Int))):List (Nat×Ent):=[(100000,.box 130 [.cont (m0n) 200000]),(200000,.are 136 (m0).1 (List.map (enO aI AV.bool) (m0).2)),(100001,.box 175 [.sl 1 (List.map (fun q=>AV.sl 1 (List.map aI q)) (m1))]),(100002,.box 177 [.fn 114 [.ptr 100000 0,.ptr 100001 0,.ptr 100002 0]])]
def z5m (r:Nat×(Ars (List (Int×Bool)))×(List (List Int))):List (Nat×Ent):=[(100000,.box 130 [.cont (r.1) 270000]),(270000,.are 136 (r.2.1).1 (List.map (enO aI AV.bool) (r.2.1).2)),(100001,.box 175 [.sl 1 (List.map (fun q=>AV.sl 1 (List.map aI q)) (r.2.2))]),(100002,.box 177 [.fn 114 [.ptr 100000 0,.ptr 100001 0,.ptr 100002 0]])]
def z87 (r:Nat×(Ars (List (Int×Bool)))×(List (List Int))):AV:=.tup []
def zob (r:Nat×(Ars (List (Int×Bool)))×(List (List Int))):AS:=⟨[(2,.ptr 100000 0),(3,.ptr 100001 0),(4,.ptr 100002 0)],z5m r⟩
theorem zgm {n a0 a1 m0n m0 m1 r}(hF:z3s n a0 a1 m0n m0 m1=some r):ConG E0.P none (CalF E0.P 114 0) [aI a0,aI a1,.ptr 100000 0,.ptr 100001 0,.ptr 100002 0] [] (zod a0 a1 m0n m0 m1) (z87 r) (z5m r):=by
 induction n generalizing a0 a1 m0n m0 m1 r
 case zero=>cases hF
 case succ n ih =>
 unfold z3s at hF
 refine ConG.walk (E:=(E0p 5)) (caps:=[]) _ Tryz.func114 rfl rfl rfl rfl rfl ?_
 repeat' first
  |refine AW.step ?_;conv=>whnf
  |refine z14.o hF (fun hF=>?_) fun hF=>?_
  |refine z14.t ?_
  |refine z14.f ?_
  |refine OpX.ixc hF rfl rfl rfl rfl rfl rfl rfl rfl (fun hF=>?_)
  |refine OpX.aob hF rfl rfl rfl rfl rfl rfl rfl (fun j hF=>?_)
  |refine OpX.alk aI AV.bool hF yqj rfl rfl rfl rfl rfl rfl rfl rfl rfl rfl rfl (by first|rfl|kernel_rfl) (by repeat' first|exact Sub.nil _|exact Sub.refl _|refine Sub.agg ?_|refine Sub.tup ?_|refine Sub.fn ?_|exact SubL.nil|refine SubL.cons ?_ ?_|refine Sub.sl _ ?_|exact SubE.nil|refine SubE.cons ?_ ?_) (fun v b hF=>?_)
  |exact GX.A (res:=z87) (meF:=z5m) hF zob (h1:=LeX.a [(270000,200000)])
  |refine OpX.aup AV.bool hF (Or.inl rfl) rfl rfl rfl rfl rfl rfl rfl rfl rfl (by first|rfl|kernel_rfl) rfl rfl (fun l hF=>?_)
  |refine IdxX.o (fun q=>AV.sl 1 (List.map aI q)) hF fun x hF=>?_
  |refine IdxX.A hF fun x hF=>?_
  |refine zap.oM (z75 32 hF) [(100000,100000),(100001,100001),(100002,100002),(200000,200000)] [(100000,100000),(270000,33000001),(100001,100001),(100002,100002)] _ _ z5m z87 [200000] (fun a h=>ConG.up (ih h)) (z0y Tryz.func114 rfl rfl) rfl rfl rfl ⟨⟨rfl,rfl⟩,⟨⟨rfl,rfl⟩,⟨⟨rfl,rfl⟩,⟨⟨rfl,rfl⟩,trivial⟩⟩⟩⟩ (fun a=>⟨rfl,rfl,rfl,rfl,rfl,rfl,rfl,rfl⟩) (fun a hF=>?_)
  |refine z1n.oM (z75 32 hF) [(100000,100000),(100001,100001),(100002,100002),(200000,200000)] [(100000,100000),(270000,33000001),(100001,100001),(100002,100002)] _ _ z5m z87 [200000] (fun a h=>ConG.up (ih h)) (z0y Tryz.func114 rfl rfl) rfl rfl rfl ⟨⟨rfl,rfl⟩,⟨⟨rfl,rfl⟩,⟨⟨rfl,rfl⟩,⟨⟨rfl,rfl⟩,trivial⟩⟩⟩⟩ (fun a=>⟨rfl,rfl,rfl,rfl,rfl,rfl,rfl,rfl⟩) (fun a hF=>?_)
  |exact ⟨_,hF,LeX.a [(200000,33000001)]⟩
  |refine z8h.I hF (LeX.a []) fun m v hF=>?_
  |refine AndA ?_
  |refine EqX.A ?_
instance y3x {n a0}:CI E0 (zbm n a0) false 76 [z0n a0] (fun r=>.sl 1 (List.map (fun q=>AV.mapv (List.map (encM aI AV.bool) q)) (r))):=⟨fun {r} hF=>by
 unfold zbm at hF
 refine cw Tryz.func76 ?_
 repeat' first
  |refine AW.areO aI AV.bool hF 21 rfl (fun hF=>?_)
  |refine AW.nstO (er:=aI) 3 1 hF 53 rfl (fun hF=>?_)
  |refine AW.areO aI AV.bool hF 92 rfl (fun hF=>?_)
  |refine AW.frrO (ety:=3) (sz:=1) aI hF 53 rfl (fun hF=>?_)
  |refine AW.frcO aI AV.bool hF 7021 rfl (fun hF=>?_)
  |refine AW.frcO aI AV.bool hF 7092 rfl (fun hF=>?_)
  |refine AW.pckO (encM aI AV.bool) hF 112 rfl (fun x s hF=>?_)
  |refine AW.regO hF fun hF=>?_
  |refine AW.frzO hF 53 rfl (fun hF=>?_)
  |refine AW.frzO hF 7021 rfl (fun hF=>?_)
  |refine AW.frzO hF 7092 rfl (fun hF=>?_)
  |refine AW.stepU [28,29,37,18,34,22,14,2] ?_;conv=>whnf
  |refine z14.o hF (fun hF=>?_) fun hF=>?_
  |refine z14.t ?_
  |refine z14.f ?_
  |refine MakX.om hF (fun m hF=>?_)
  |refine MakX.on hF (fun m hF=>?_)
  |refine OpX.lnc rfl rfl rfl rfl rfl rfl ?_
  |refine IdxX.o (fun q=>AV.mapv (List.map (encM aI AV.bool) q)) hF fun x hF=>?_
  |refine OpX.rng rfl rfl rfl rfl rfl rfl rfl rfl ?_
  |exact ⟨_,hF,LeX.a []⟩
  |refine OpX.nxt (encM aI AV.bool) hF rfl rfl rfl rfl rfl (fun hF=>?_) (fun hF=>?_)
  |refine OpX.ent rfl rfl rfl rfl rfl ?_
  |refine zap.oM (z75 120 hF) [(100000,12),(100001,9),(100002,14),(200000,7092)] [(100000,12),(270000,121000001),(100001,9),(100002,14)] _ _ z5m z87 [7092] (fun a h=>ConG.up (zgm h)) (z0y Tryz.func114 rfl rfl) rfl rfl rfl ⟨⟨rfl,rfl⟩,⟨⟨rfl,rfl⟩,⟨⟨rfl,rfl⟩,⟨⟨rfl,rfl⟩,trivial⟩⟩⟩⟩ (fun a=>⟨rfl,rfl,rfl,rfl,rfl,rfl,rfl,rfl⟩) (fun a hF=>?_)
  |refine z1n.oM (z75 120 hF) [(100000,12),(100001,9),(100002,14),(200000,7092)] [(100000,12),(270000,121000001),(100001,9),(100002,14)] _ _ z5m z87 [7092] (fun a h=>ConG.up (zgm h)) (z0y Tryz.func114 rfl rfl) rfl rfl rfl ⟨⟨rfl,rfl⟩,⟨⟨rfl,rfl⟩,⟨⟨rfl,rfl⟩,⟨⟨rfl,rfl⟩,trivial⟩⟩⟩⟩ (fun a=>⟨rfl,rfl,rfl,rfl,rfl,rfl,rfl,rfl⟩) (fun a hF=>?_)
  |exact ⟨_,hF,LeX.trans (LeX.itc 112 rfl) (LeX.a [(7092,121000001)])⟩
  |refine z8h.I hF ?_ fun m v hF=>?_
  |exact LeX.a []
  |exact LeX.a [(7092,92)]
  |refine OpX.ixc hF rfl rfl rfl rfl rfl rfl rfl rfl (fun hF=>?_)
  |refine OpX.ast aI AV.bool hF rfl rfl rfl rfl rfl rfl rfl rfl rfl rfl rfl (fun m hF=>?_)
  |refine IdxX.A hF fun x hF=>?_
  |refine z1n.oR hF (fun r=>r) idA (fun _=>AV.row 0) rfl (fun a h=>ztw h) (fun a hF=>?_)
  |refine z1n.oR hF (fun r=>r) idA (fun _=>AV.row 0) rfl (fun a h=>ConT.sub (by repeat' first|exact Sub.nil _|exact Sub.refl _|refine Sub.agg ?_|refine Sub.tup ?_|refine Sub.fn ?_|exact SubL.nil|refine SubL.cons ?_ ?_|refine Sub.sl _ ?_|exact SubE.nil|refine SubE.cons ?_ ?_) (ztw h)) (fun a hF=>?_)
  |refine AppX.oA hF fun l hF=>?_
  |refine zap.oM (z75 71 hF) [(100000,3),(200001,70),(200000,7021)] [(100000,3),(270000,72000001)] _ _ z72 za2 [70,7021] (fun a h=>ConG.up (zf8 h)) (z0y Tryz.func111 rfl rfl) rfl rfl rfl ⟨⟨rfl,rfl⟩,⟨⟨rfl,rfl⟩,⟨⟨rfl,rfl⟩,trivial⟩⟩⟩ (fun a=>⟨rfl,rfl,rfl,rfl,rfl,rfl,rfl,rfl⟩) (fun a hF=>?_)
  |refine z1n.oM (z75 71 hF) [(100000,3),(200001,70),(200000,7021)] [(100000,3),(270000,72000001)] _ _ z72 za2 [70,7021] (fun a h=>ConG.up (zf8 h)) (z0y Tryz.func111 rfl rfl) rfl rfl rfl ⟨⟨rfl,rfl⟩,⟨⟨rfl,rfl⟩,⟨⟨rfl,rfl⟩,trivial⟩⟩⟩ (fun a=>⟨rfl,rfl,rfl,rfl,rfl,rfl,rfl,rfl⟩) (fun a hF=>?_)
  |refine OpX.ntk aI hF rfl rfl rfl rfl rfl rfl rfl rfl rfl rfl (fun q hF=>?_)
  |refine OpX.npt aI hF rfl rfl rfl rfl rfl rfl rfl rfl rfl rfl rfl (fun l hF=>?_)
  |exact ⟨_,hF,LeX.a [(7021,72000001)]⟩
  |refine zap.oM (z75 47 hF) [(100000,3),(200000,7021)] [(100000,3),(270000,48000001)] _ _ za5 zc9 [7021] (fun a h=>ConG.up (zgn h)) (z0y Tryz.func111 rfl rfl) rfl rfl rfl ⟨⟨rfl,rfl⟩,⟨⟨rfl,rfl⟩,trivial⟩⟩ (fun a=>⟨rfl,rfl,rfl,rfl,rfl,rfl,rfl,rfl⟩) (fun a hF=>?_)
  |refine z1n.oM (z75 47 hF) [(100000,3),(200000,7021)] [(100000,3),(270000,48000001)] _ _ za5 zc9 [7021] (fun a h=>ConG.up (zgn h)) (z0y Tryz.func111 rfl rfl) rfl rfl rfl ⟨⟨rfl,rfl⟩,⟨⟨rfl,rfl⟩,trivial⟩⟩ (fun a=>⟨rfl,rfl,rfl,rfl,rfl,rfl,rfl,rfl⟩) (fun a hF=>?_)
  |exact ⟨_,hF,LeX.a [(7021,48000001)]⟩
  |exact LeX.a [(7021,21)]
  |refine AndA ?_
  |refine EqX.A ?_
  |exact RetX.oB hF⟩
def zqr (a0:z07):List (Nat×Ent):=[]
def z7v (r:(List (List (Int×Bool)))):List (Nat×Ent):=[(3,.box 130 [.sl 1 (List.map (fun q=>AV.mapv (List.map (encM aI AV.bool) q)) (r))])]
def z9l (r:(List (List (Int×Bool)))):AV:=.fn 77 [.ptr 3 0]
def zqf (r:(List (List (Int×Bool)))):AS:=⟨[(2,.fn 77 [.ptr 3 0])],z7v r⟩
theorem zc6 {n a0 r}(hF:z57 n a0=some r):ConG E0.P none (CalF E0.P 44 0) [z0n a0] [] (zqr a0) (z9l r) (z7v r):=by
 unfold z57 at hF
 refine ConG.walk (E:=(E0p 1)) (caps:=[]) _ Tryz.func44 rfl rfl rfl rfl rfl ?_
 repeat' first
  |refine AW.step ?_;conv=>whnf
  |refine z14.o hF (fun hF=>?_) fun hF=>?_
  |refine z14.t ?_
  |refine z14.f ?_
  |refine z1n.I hF fun a hF=>?_
  |exact GX.A (res:=z9l) (meF:=z7v) hF zqf
  |refine AndA ?_
  |refine EqX.A ?_
end
end Go.Proofs.YtidhlpjgifoneaaGreat
